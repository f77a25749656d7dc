-- Written by a program of this session (a turned copy of the print) out of the translation. Lean checks it.
import Derived.Test.YtggcgacndknlaaaQGridPartsx0
import Derived.Test.YtggcgacndknlaaaQGridPartsx1
import Derived.Test.YtggcgacndknlaaaQGridPartsx2
import Derived.Test.YtggcgacndknlaaaQGridPartsx3
import Derived.Test.YtggcgacndknlaaaQGridPartsx4
import Derived.Test.YtggcgacndknlaaaQGridPartsx5
import Derived.Test.YtggcgacndknlaaaQGridPartsx6
import Derived.Test.YtggcgacndknlaaaQGridPartsx7
namespace Go.Proofs.Ytggcgacndknlaaa.QGridParts
open Go.RowKit Go.Proofs.YtggcgacndknlaaaW.PrintWords Go.Proofs.YtggcgacndknlaaaW.PrintLast Go.Proofs.YtggcgacndknlaaaW.PrintMore
attribute [local go_sem] max2_int min2_int max_two min_two max_three min_three max_four min_four   -- for this text's walks alone
open Go.Proofs.YtggcgacndknlaaaW.PrintWords renaming below_alloc → b_a, pw_below_drewN → b_n, below_drew1 → b_d, below_set → b_s, blk_drewN → k_n, blk_drew → k_d, blk_alloc → k_a
open List renaming setIfInBounds_toArray → l_1, set_cons_zero → l_2, set_cons_succ → l_3, map_toArray → l_4, map_cons → l_5, map_nil → l_6, length_drop → l_7, length_take → l_8
set_option linter.unusedVariables false
set_option linter.unusedSimpArgs false

/-! ### pelotonlaw03_GridParts: function 9, by hand -/
def pelotonlaw03_GridParts.T7 : Bool × List (List Nat × List Nat) := (true, [([], []), ([], []), ([1], [1]), ([0, 2], [0, 2]), ([], []), ([], []), ([5], [5]), ([4, 6, 3], [4, 6]), ([], []), ([], []), ([9], [9]), ([8, 10, 7], [8, 10]), ([3, 11, 0, 1, 2, 3], [3]), ([7, 12, 0, 1, 2, 3, 4, 5, 6, 7, 12], [7]), ([11, 13, 0, 1, 2, 3, 4, 5, 6, 7, 8, 9, 10, 11, 12, 13], [11])])
def pelotonlaw03_GridParts.B7 : List Nat := [0, 0, 2, 7, 0, 0, 32, 127, 0, 0, 512, 2047, 4095, 8191, 16383]
theorem pelotonlaw03_GridParts.tab7 : rtab .any (opsOf Try.f9 7) = pelotonlaw03_GridParts.T7 := by kernel_rfl
theorem pelotonlaw03_GridParts.bits7 : waitsOk pelotonlaw03_GridParts.T7.2 pelotonlaw03_GridParts.B7 = true := by kernel_rfl
/-! the grids of a law that runs straight on: each in its block, none written again -/
def St (w W : World) (L : List (Nat × S24)) : Prop :=
  Below w.heap.size w W ∧ ∀ p ∈ L, ∃ (A : Option Addr) (c : Nat), W.heap[p.1]? = some (.cells #[.int .i64 p.2.f0, .int .i64 p.2.f1, .slice A p.2.f2.length c] 24 (0, 0)) ∧ p.2.f2.length ≤ c ∧ Kd.C (Kd.int .i32) W A p.2.f2.length p.2.f2
theorem St.none (w : World) : St w w [] := ⟨Below.refl _ _, fun _ h => by cases h⟩
theorem St.below {w W W' : World} {L : List (Nat × S24)} (h : St w W L) (hb : Below W.heap.size W W') : St w W' L :=
  ⟨below_step h.1 hb, fun p hp => by
    obtain ⟨A, c, h1, h2, h3⟩ := h.2 p hp
    exact ⟨A, c, blk_below h1 hb, h2, Kd.C_below h3 hb⟩⟩
theorem St.get {w W : World} {L : List (Nat × S24)} {g : Nat} {a b : Int} {l : List Int} (h : St w W L) (m : (g, (⟨a, b, l⟩ : S24)) ∈ L) :
    ∃ (A : Option Addr) (c : Nat), W.heap[g]? = some (.cells #[.int .i64 a, .int .i64 b, .slice A l.length c] 24 (0, 0)) ∧ l.length ≤ c ∧ Kd.C (Kd.int .i32) W A l.length l := h.2 _ m
/-- a grid in a new block -/
theorem St.box {w W W' : World} {L : List (Nat × S24)} {g : Nat} {a b : Int} {l : List Int} {A : Option Addr} {c : Nat} (h : St w W L) (hb : Below W.heap.size W W') (hbox : W'.heap[g]? = some (.cells #[.int .i64 a, .int .i64 b, .slice A l.length c] 24 (0, 0))) (hc : l.length ≤ c) (hC : Kd.C (Kd.int .i32) W A l.length l) : St w W' ((g, ⟨a, b, l⟩) :: L) :=
  ⟨below_step h.1 hb, fun p hp => by
    rcases List.mem_cons.1 hp with rfl | hp
    · exact ⟨A, c, hbox, hc, Kd.C_below hC hb⟩
    · exact (h.below hb).2 p hp⟩
/-! the same, with an int's block beside -/
def StI (w W : World) (L : List (Nat × S24)) (gi : Nat) (x : Int) : Prop :=
  Below w.heap.size w W ∧ (∀ p ∈ L, ∃ (A : Option Addr) (c : Nat), W.heap[p.1]? = some (.cells #[.int .i64 p.2.f0, .int .i64 p.2.f1, .slice A p.2.f2.length c] 24 (0, 0)) ∧ p.2.f2.length ≤ c ∧ Kd.C (Kd.int .i32) W A p.2.f2.length p.2.f2) ∧ W.heap[gi]? = some (.cells #[.int .i64 x] 3 (0, 0))
theorem StI.st {w W : World} {L : List (Nat × S24)} {gi : Nat} {x : Int} (h : StI w W L gi x) : St w W L := ⟨h.1, h.2.1⟩
theorem StI.mk_ {w W W' : World} {L : List (Nat × S24)} {gi : Nat} {x : Int} (h : St w W L) (hb : Below W.heap.size W W') (hbox : W'.heap[gi]? = some (.cells #[.int .i64 x] 3 (0, 0))) : StI w W' L gi x := ⟨(h.below hb).1, (h.below hb).2, hbox⟩
theorem StI.below {w W W' : World} {L : List (Nat × S24)} {gi : Nat} {x : Int} (h : StI w W L gi x) (hb : Below W.heap.size W W') : StI w W' L gi x := ⟨(h.st.below hb).1, (h.st.below hb).2, blk_below h.2.2 hb⟩
theorem StI.get {w W : World} {L : List (Nat × S24)} {gi : Nat} {x : Int} {g : Nat} {a b : Int} {l : List Int} (h : StI w W L gi x) (m : (g, (⟨a, b, l⟩ : S24)) ∈ L) :
    ∃ (A : Option Addr) (c : Nat), W.heap[g]? = some (.cells #[.int .i64 a, .int .i64 b, .slice A l.length c] 24 (0, 0)) ∧ l.length ≤ c ∧ Kd.C (Kd.int .i32) W A l.length l := h.2.1 _ m
theorem StI.box {w W W' : World} {L : List (Nat × S24)} {gi : Nat} {x : Int} {g : Nat} {a b : Int} {l : List Int} {A : Option Addr} {c : Nat} (h : StI w W L gi x) (hb : Below W.heap.size W W') (hbox : W'.heap[g]? = some (.cells #[.int .i64 a, .int .i64 b, .slice A l.length c] 24 (0, 0))) (hc : l.length ≤ c) (hC : Kd.C (Kd.int .i32) W A l.length l) : StI w W' ((g, ⟨a, b, l⟩) :: L) gi x :=
  ⟨(h.st.box hb hbox hc hC).1, (h.st.box hb hbox hc hC).2, blk_below h.2.2 hb⟩
def pelotonlaw03_GridParts.f (k : Nat) (a0_0 a0_1 : Int) (l0_2 : List Int) (a1_0 a1_1 : Int) (l1_2 : List Int) (a2 : Int) : Option Bool :=
  (pelotonlaw03_small.f k [(⟨a0_0, a0_1, l0_2⟩ : S24), ⟨a1_0, a1_1, l1_2⟩]).bind fun t => if t = true then
  (grid_Times.f k a0_0 a0_1 l0_2 a1_0 a1_1 l1_2).bind fun u => if u.2.2.2 = 0 then (if 0 ≤ a0_0 ∧ a0_0 ≤ 4096 ∧ 0 ≤ a0_1 ∧ a0_1 ≤ 4096 ∧ 0 ≤ a1_1 ∧ a1_1 ≤ 4096 then
  (grid_Rows.f k a0_0 a0_1 l0_2 0 (pelotonlaw03_GridParts_1.f a2 a0_0)).bind fun ra => (grid_Rows.f k a0_0 a0_1 l0_2 (pelotonlaw03_GridParts_1.f a2 a0_0) a0_0).bind fun rb =>
  (grid_Times.f k ra.1 ra.2.1 ra.2.2.1 a1_0 a1_1 l1_2).bind fun pa => (grid_Times.f k rb.1 rb.2.1 rb.2.2.1 a1_0 a1_1 l1_2).bind fun pb => (grid_Stack.f k [(⟨pa.1, pa.2.1, pa.2.2.1⟩ : S24), ⟨pb.1, pb.2.1, pb.2.2.1⟩]).bind fun x =>
  (grid_Cols.f k a1_0 a1_1 l1_2 0 (pelotonlaw03_GridParts_1.f a2 a1_1)).bind fun ca => (grid_Cols.f k a1_0 a1_1 l1_2 (pelotonlaw03_GridParts_1.f a2 a1_1) a1_1).bind fun cb =>
  (grid_Times.f k a0_0 a0_1 l0_2 ca.1 ca.2.1 ca.2.2.1).bind fun qa => (grid_Times.f k a0_0 a0_1 l0_2 cb.1 cb.2.1 cb.2.2.1).bind fun qb => (grid_Beside.f k [(⟨qa.1, qa.2.1, qa.2.2.1⟩ : S24), ⟨qb.1, qb.2.1, qb.2.2.1⟩]).bind fun y =>
  (grid_Cols.f k a0_0 a0_1 l0_2 0 (pelotonlaw03_GridParts_1.f a2 a0_1)).bind fun la => (grid_Cols.f k a0_0 a0_1 l0_2 (pelotonlaw03_GridParts_1.f a2 a0_1) a0_1).bind fun lb =>
  (grid_Rows.f k a1_0 a1_1 l1_2 0 (pelotonlaw03_GridParts_1.f a2 a0_1)).bind fun ma => (grid_Rows.f k a1_0 a1_1 l1_2 (pelotonlaw03_GridParts_1.f a2 a0_1) a1_0).bind fun mb =>
  (grid_Times.f k la.1 la.2.1 la.2.2.1 ma.1 ma.2.1 ma.2.2.1).bind fun sa => (grid_Times.f k lb.1 lb.2.1 lb.2.2.1 mb.1 mb.2.1 mb.2.2.1).bind fun sb => (grid_Add.f k [(⟨sa.1, sa.2.1, sa.2.2.1⟩ : S24), ⟨sb.1, sb.2.1, sb.2.2.1⟩]).bind fun z =>
  (pelotonlaw03_held.f k x.1 x.2.1 x.2.2.1 x.2.2.2 u.1 u.2.1 u.2.2.1 true).bind fun t1 => if t1 = true then (pelotonlaw03_held.f k y.1 y.2.1 y.2.2.1 y.2.2.2 u.1 u.2.1 u.2.2.1 true).bind fun t2 => if t2 = true then (pelotonlaw03_held.f k z.1 z.2.1 z.2.2.1 z.2.2.2 u.1 u.2.1 u.2.2.1 true).bind fun t3 => some t3 else none else none
  else none) else some true else some true
set_option maxHeartbeats 8000000 in
set_option maxRecDepth 100000 in
theorem pelotonlaw03_GridParts.calls (k : Nat) (a0_0 : Int) (a0_1 : Int) (A0_2 : Option Addr) (c0_2 : Nat) (l0_2 : List Int) (a1_0 : Int) (a1_1 : Int) (A1_2 : Option Addr) (c1_2 : Nat) (l1_2 : List Int) (a2 : Int) (r : Bool) (w : World) (hr0_2 : Kd.C (Kd.int .i32) w A0_2 l0_2.length l0_2) (hc0_2 : l0_2.length ≤ c0_2) (hr1_2 : Kd.C (Kd.int .i32) w A1_2 l1_2.length l1_2) (hc1_2 : l1_2.length ≤ c1_2) (h : pelotonlaw03_GridParts.f k a0_0 a0_1 l0_2 a1_0 a1_1 l1_2 a2 = some r) :
    Calls Try.prog 9 #[.agg #[.int .i64 a0_0, .int .i64 a0_1, .slice A0_2 l0_2.length c0_2], .agg #[.int .i64 a1_0, .int .i64 a1_1, .slice A1_2 l1_2.length c1_2], .int .i64 a2] w fun e w' => e = .returned (.bool r) ∧ Below w.heap.size w w' := by
  have hu24 := Try.underlying24
  have HR0 := Aside0.mk hr0_2
  have HC0 := Aside0.mk hc0_2
  clear hr0_2 hc0_2
  have HR1 := Aside0.mk hr1_2
  have HC1 := Aside0.mk hc1_2
  clear hr1_2 hc1_2
  unfold pelotonlaw03_GridParts.f at h
  have HH := Aside0.mk h
  clear h
  have S := Aside0.mk (St.none w)
  go_enter Try.func9, Try.ntmps9
  go_upto_region 1 with (first | ((with_reducible refine gate_dst (N := 3) rfl ?_); refine box_event ?hg (N := 3) ?hd (cs := #[.int .i64 a0_0, .int .i64 a0_1, .slice A0_2 l0_2.length c0_2]) (t := 24) ?hr ?_; (case hd => rfl); (case hg => rfl); (case hr => first | (go_simp; done) | (go_simp; rfl)); intro g_a hg_ wb_ hbox_ hb_; replace S := Aside0.mk (S.out.box hb_ hbox_ HC0.out (Kd.C_below HR0.out S.out.1)); clear hg_ hbox_ hb_) | ((with_reducible refine gate_dst (N := 4) rfl ?_); refine box_event ?hg (N := 4) ?hd (cs := #[.int .i64 a1_0, .int .i64 a1_1, .slice A1_2 l1_2.length c1_2]) (t := 24) ?hr ?_; (case hd => rfl); (case hg => rfl); (case hr => first | (go_simp; done) | (go_simp; rfl)); intro g_b hg_ wb_ hbox_ hb_; replace S := Aside0.mk (S.out.box hb_ hbox_ HC1.out (Kd.C_below HR1.out S.out.1)); clear hg_ hbox_ hb_) | ((with_reducible refine gate_dst (N := 5) rfl ?_); refine box_event ?hg (N := 5) ?hd (cs := #[.int .i64 a2]) (t := 3) ?hr ?_; (case hd => rfl); (case hg => rfl); (case hr => first | (go_simp; done) | (go_simp; rfl)); intro g_i hg_ wb_ hbox_ hb_; replace S := Aside0.mk (StI.mk_ S.out hb_ hbox_); clear hg_ hbox_ hb_))
  have h := HH.out
  clear HH
  obtain ⟨t, h_, h2_⟩ := Option.bind_eq_some_iff.1 h; clear h; have h := h2_; clear h2_
  have E0 := Aside0.mk h_
  clear h_
  try dsimp only at h
  cases t with
  | false =>
    obtain rfl : true = r := Option.some.inj h
    clear h
    go_wp2_with (first | (go_at_call 10; (refine (pelotonlaw03_awake.calls true _ rfl).mono ?_); rintro e wa_ ⟨rfl, hb_⟩; replace S := Aside0.mk (S.out.below hb_); clear hb_; obtain ⟨At0, ct0, k_, l_, r_⟩ := S.out.get (g := g_a) (a := a0_0) (b := a0_1) (l := l0_2) (.tail _ (.head _)); obtain ⟨xt0, yt0, zt0, _, _, _⟩ := cell3 k_; have Lt0 := Aside0.mk l_; have Rt0 := Aside0.mk r_; clear k_ l_ r_; obtain ⟨At1, ct1, k_, l_, r_⟩ := S.out.get (g := g_b) (a := a1_0) (b := a1_1) (l := l1_2) (.head _); obtain ⟨xt1, yt1, zt1, _, _, _⟩ := cell3 k_; have Lt1 := Aside0.mk l_; have Rt1 := Aside0.mk r_; clear k_ l_ r_) | ((with_reducible refine gate_dst (N := 52) rfl ?_); (try (refine gate_guard (by rfl) ?_; dsimp only)); refine Kd.N_lit k24 _ 24 ?hg (N' := 52) ?hd (xs := ([(⟨a0_0, a0_1, l0_2⟩ : S24), (⟨a1_0, a1_1, l1_2⟩ : S24)] : List S24)) (inner := [.int .i64 a0_0, .int .i64 a0_1, .slice At0 l0_2.length ct0, .int .i64 a1_0, .int .i64 a1_1, .slice At1 l1_2.length ct1]) (ok := fun _ => True) (okp := fun _ => True) ?hr ?hp (fun _ hk => hk) trivial (Below.refl _ _) (Nat.le_refl _) (by simp) ?_; (case hd => rfl); (case hg => rfl); (case hr => first | exact bld_ 3 (.agg #[.int .i64 0, .int .i64 0, .slice none 0 0]) rfl rfl (by simp only [Act.eval, Array.getD_eq_getD_getElem?, List.map_toArray, List.map_cons, List.map_nil, List.getElem?_toArray, List.getElem?_cons_succ, List.getElem?_cons_zero, Option.getD_some]; kernel_rfl) | (go_simp; done) | (go_simp; rfl)); (case hp => exact (Reps.c3 (fk24 (⟨a0_0, a0_1, l0_2⟩ : S24) Lt0.out Rt0.out) (Reps.c3 (fk24 (⟨a1_0, a1_1, l1_2⟩ : S24) Lt1.out Rt1.out) (Reps.none _ _)))); intro v_ w_ ho_ hb_ hg_ hnew_; clear hg_ hnew_; replace S := Aside0.mk (S.out.below hb_); have HO1 := Aside0.mk ho_; clear ho_ hb_; obtain ⟨AoHO1, coHO1, eo_⟩ := Kd.N_slice HO1.out; subst eo_) | (go_at_call 11; (refine (pelotonlaw03_small.calls k _ _ [(⟨a0_0, a0_1, l0_2⟩ : S24), (⟨a1_0, a1_1, l1_2⟩ : S24)] _ _ ?sa ?sb E0.out).mono ?_); (case sa => exact (Kd.N_reads' HO1.out).2.2); (case sb => exact (Kd.N_reads' HO1.out).2.1); rintro e ws_ ⟨rfl, hd_⟩; replace S := Aside0.mk (S.out.below hd_.below); clear hd_))
    go_ret
    exact ⟨rfl, S.out.1⟩
  | true =>
    rw [if_pos rfl] at h
    have HH := Aside0.mk h
    clear h
    go_upto_region 3 with (first | (go_at_call 10; (refine (pelotonlaw03_awake.calls true _ rfl).mono ?_); rintro e wa_ ⟨rfl, hb_⟩; replace S := Aside0.mk (S.out.below hb_); clear hb_; obtain ⟨At0, ct0, k_, l_, r_⟩ := S.out.get (g := g_a) (a := a0_0) (b := a0_1) (l := l0_2) (.tail _ (.head _)); obtain ⟨xt0, yt0, zt0, _, _, _⟩ := cell3 k_; have Lt0 := Aside0.mk l_; have Rt0 := Aside0.mk r_; clear k_ l_ r_; obtain ⟨At1, ct1, k_, l_, r_⟩ := S.out.get (g := g_b) (a := a1_0) (b := a1_1) (l := l1_2) (.head _); obtain ⟨xt1, yt1, zt1, _, _, _⟩ := cell3 k_; have Lt1 := Aside0.mk l_; have Rt1 := Aside0.mk r_; clear k_ l_ r_) | ((with_reducible refine gate_dst (N := 52) rfl ?_); (try (refine gate_guard (by rfl) ?_; dsimp only)); refine Kd.N_lit k24 _ 24 ?hg (N' := 52) ?hd (xs := ([(⟨a0_0, a0_1, l0_2⟩ : S24), (⟨a1_0, a1_1, l1_2⟩ : S24)] : List S24)) (inner := [.int .i64 a0_0, .int .i64 a0_1, .slice At0 l0_2.length ct0, .int .i64 a1_0, .int .i64 a1_1, .slice At1 l1_2.length ct1]) (ok := fun _ => True) (okp := fun _ => True) ?hr ?hp (fun _ hk => hk) trivial (Below.refl _ _) (Nat.le_refl _) (by simp) ?_; (case hd => rfl); (case hg => rfl); (case hr => first | exact bld_ 3 (.agg #[.int .i64 0, .int .i64 0, .slice none 0 0]) rfl rfl (by simp only [Act.eval, Array.getD_eq_getD_getElem?, List.map_toArray, List.map_cons, List.map_nil, List.getElem?_toArray, List.getElem?_cons_succ, List.getElem?_cons_zero, Option.getD_some]; kernel_rfl) | (go_simp; done) | (go_simp; rfl)); (case hp => exact (Reps.c3 (fk24 (⟨a0_0, a0_1, l0_2⟩ : S24) Lt0.out Rt0.out) (Reps.c3 (fk24 (⟨a1_0, a1_1, l1_2⟩ : S24) Lt1.out Rt1.out) (Reps.none _ _)))); intro v_ w_ ho_ hb_ hg_ hnew_; clear hg_ hnew_; replace S := Aside0.mk (S.out.below hb_); have HO1 := Aside0.mk ho_; clear ho_ hb_; obtain ⟨AoHO1, coHO1, eo_⟩ := Kd.N_slice HO1.out; subst eo_) | (go_at_call 11; (refine (pelotonlaw03_small.calls k _ _ [(⟨a0_0, a0_1, l0_2⟩ : S24), (⟨a1_0, a1_1, l1_2⟩ : S24)] _ _ ?sa ?sb E0.out).mono ?_); (case sa => exact (Kd.N_reads' HO1.out).2.2); (case sb => exact (Kd.N_reads' HO1.out).2.1); rintro e ws_ ⟨rfl, hd_⟩; replace S := Aside0.mk (S.out.below hd_.below); clear hd_))
    clear xt0 yt0 zt0 Lt0 Rt0 xt1 yt1 zt1 Lt1 Rt1 HO1
    have h := HH.out
    clear HH
    obtain ⟨⟨u1, u2, u3, u4⟩, h_, h2_⟩ := Option.bind_eq_some_iff.1 h; clear h; have h := h2_; clear h2_
    have E1 := Aside0.mk h_
    clear h_
    try dsimp only at h
    have HH := Aside0.mk h
    clear h
    obtain ⟨At0, ct0, k_, l_, r_⟩ := S.out.get (g := g_a) (a := a0_0) (b := a0_1) (l := l0_2) (.tail _ (.head _)); obtain ⟨xt0, yt0, zt0, _, _, _⟩ := cell3 k_; have Lt0 := Aside0.mk l_; have Rt0 := Aside0.mk r_; clear k_ l_ r_
    obtain ⟨At1, ct1, k_, l_, r_⟩ := S.out.get (g := g_b) (a := a1_0) (b := a1_1) (l := l1_2) (.head _); obtain ⟨xt1, yt1, zt1, _, _, _⟩ := cell3 k_; have Lt1 := Aside0.mk l_; have Rt1 := Aside0.mk r_; clear k_ l_ r_
    go_upto_region 4 with (first | (go_at_call 12; (refine (grid_Times.calls k a0_0 a0_1 At0 ct0 l0_2 a1_0 a1_1 At1 ct1 l1_2 _ _ _ _ _ Rt0.out Lt0.out Rt1.out Lt1.out E1.out).mono ?_); rintro e wc_ ⟨v_, rfl, ho_, hb_⟩; replace S := Aside0.mk (S.out.below hb_); obtain ⟨Au, cu, e_⟩ := Kd.R_slice ho_; (have e1_ : v_ = .slice Au u3.length cu := e_); clear e_; subst e1_; have Ru := Aside0.mk (Kd.R_reads' ho_).2.2; have Lu := Aside0.mk (Kd.R_reads' ho_).2.1; clear ho_ hb_) | ((with_reducible refine gate_dst (N := 7) rfl ?_); refine box_event ?hg (N := 7) ?hd (cs := #[.int .i64 0, .int .i64 0, .slice none 0 0]) (t := 24) ?hr ?_; (case hd => rfl); (case hg => rfl); (case hr => first | (go_simp; done) | (go_simp; rfl)); intro g_u hg_ wb_ hbox_ hbb_; have BZ := Aside0.mk (fun u v x => below3 (u := u) (v := v) (x := x) hbb_ (Nat.le_of_eq hg_.symm)); have KZ := Aside0.mk (fun u v x => put3 (u := u) (v := v) (x := x) hbox_); obtain ⟨b1, b2, b3, b4, b5, b6⟩ := cell3 hbox_; clear hg_ hbox_ hbb_))
    replace S := Aside0.mk (S.out.box (BZ.out (.int .i64 u1) (.int .i64 u2) (.slice Au u3.length cu)) (KZ.out (.int .i64 u1) (.int .i64 u2) (.slice Au u3.length cu)) Lu.out Ru.out)
    generalize hW_ : (((wb_.setCell ⟨g_u, 0, none⟩ (.int .i64 u1)).setCell ⟨g_u, 1, none⟩ (.int .i64 u2)).setCell ⟨g_u, 2, none⟩ (.slice Au u3.length cu)) = W1 at *
    clear hW_ BZ KZ b1 b2 b3 b4 b5 b6 Lu Ru
    clear xt0 yt0 zt0 Lt0 Rt0 xt1 yt1 zt1 Lt1 Rt1
    have h := HH.out
    clear HH
    by_cases c1 : u4 = 0
    · rw [if_pos c1] at h
      subst c1
      by_cases c0 : 0 ≤ a0_0 ∧ a0_0 ≤ 4096 ∧ 0 ≤ a0_1 ∧ a0_1 ≤ 4096 ∧ 0 ≤ a1_1 ∧ a1_1 ≤ 4096
      · rw [if_pos c0] at h
        have HH := Aside0.mk h
        clear h
        have HC := Aside0.mk c0
        clear c0
        go_upto_region 7 with (fail)
        replace S := Aside0.mk (S.out.below (b_d (Below.refl _ _)))
        have hI := Aside0.mk ((blk_cell S.out.2.2 0).trans rfl)
        obtain ⟨At0, ct0, k_, l_, r_⟩ := S.out.get (g := g_a) (a := a0_0) (b := a0_1) (l := l0_2) (.tail _ (.tail _ (.head _))); obtain ⟨xt0, yt0, zt0, _, _, _⟩ := cell3 k_; have Lt0 := Aside0.mk l_; have Rt0 := Aside0.mk r_; clear k_ l_ r_
        obtain ⟨At1, ct1, k_, l_, r_⟩ := S.out.get (g := g_b) (a := a1_0) (b := a1_1) (l := l1_2) (.tail _ (.head _)); obtain ⟨xt1, yt1, zt1, _, _, _⟩ := cell3 k_; have Lt1 := Aside0.mk l_; have Rt1 := Aside0.mk r_; clear k_ l_ r_
        refine start_ (n := 15) (S := fun W_ => W_.cell? ⟨g_a, 0, none⟩ = some (.int .i64 a0_0) ∧ W_.cell? ⟨g_a, 1, none⟩ = some (.int .i64 a0_1) ∧ W_.cell? ⟨g_b, 1, none⟩ = some (.int .i64 a1_1)) (ds := []) #[false, false, false, false, false, false, false, false, false, false, false, false, false, false, false] (by kernel_rfl) rfl rfl ⟨xt0, yt0, yt1⟩ (fun hHeld => ?_); refine with_tabW pelotonlaw03_GridParts.tab7 pelotonlaw03_GridParts.bits7 (fun HT_ HW_ => ?_)
        have HS_ := Aside0.mk hHeld
        clear xt0 yt0 zt0 Lt0 Rt0 xt1 yt1 zt1 Lt1 Rt1
        generalize W1.drew = Wq at *
        refine pure_ (i := 0) (N := some 66) (v := ?_) (a' := ?_) #[true, false, false, false, false, false, false, false, false, false, false, false, false, false, false] rfl rfl (any_of HT_.out (by kernel_rfl)) (fun _ _ _ h => h) (Or.inl ⟨by rfl, ?_⟩) ?_ ?_
        rotate_left
        ·
          intro w'
          go_simp
          with_reducible rfl
        rotate_left
        ·
          simp only [Act.put, l_1, l_2, l_3, i64_w, i32_w]
          rfl
        refine pure_ (i := 1) (N := some 67) (v := ?_) (a' := ?_) #[true, true, false, false, false, false, false, false, false, false, false, false, false, false, false] rfl rfl (any_of HT_.out (by kernel_rfl)) (fun _ _ _ h => h) (Or.inl ⟨by rfl, ?_⟩) ?_ ?_
        rotate_left
        ·
          intro w'
          go_simp
          with_reducible rfl
        rotate_left
        ·
          simp only [Act.put, l_1, l_2, l_3, i64_w, i32_w]
          rfl
        refine take_ (i := 2) (N := some 68) (v := ?_) (a' := ?_) #[true, true, true, false, false, false, false, false, false, false, false, false, false, false, false] rfl rfl (take_ofW HT_.out HW_.out (by kernel_rfl)) (fun _ _ _ h => h) (Or.inl ⟨by rfl, ?_⟩) hHeld ?_ ?_
        rotate_left
        ·
          rintro w' ⟨s0, s1, s2⟩
          go_simp
          with_reducible rfl
        rotate_left
        ·
          simp only [Act.put, l_1, l_2, l_3, i64_w, i32_w]
          rfl
        refine pure_ (i := 4) (N := some 70) (v := ?_) (a' := ?_) #[true, true, true, false, true, false, false, false, false, false, false, false, false, false, false] rfl rfl (any_of HT_.out (by kernel_rfl)) (fun _ _ _ h => h) (Or.inl ⟨by rfl, ?_⟩) ?_ ?_
        rotate_left
        ·
          intro w'
          go_simp
          with_reducible rfl
        rotate_left
        ·
          simp only [Act.put, l_1, l_2, l_3, i64_w, i32_w]
          rfl
        refine pure_ (i := 5) (N := some 71) (v := ?_) (a' := ?_) #[true, true, true, false, true, true, false, false, false, false, false, false, false, false, false] rfl rfl (any_of HT_.out (by kernel_rfl)) (fun _ _ _ h => h) (Or.inl ⟨by rfl, ?_⟩) ?_ ?_
        rotate_left
        ·
          intro w'
          go_simp
          with_reducible rfl
        rotate_left
        ·
          simp only [Act.put, l_1, l_2, l_3, i64_w, i32_w]
          rfl
        refine take_ (i := 6) (N := some 72) (v := ?_) (a' := ?_) #[true, true, true, false, true, true, true, false, false, false, false, false, false, false, false] rfl rfl (take_ofW HT_.out HW_.out (by kernel_rfl)) (fun _ _ _ h => h) (Or.inl ⟨by rfl, ?_⟩) hHeld ?_ ?_
        rotate_left
        ·
          rintro w' ⟨s0, s1, s2⟩
          go_simp
          with_reducible rfl
        rotate_left
        ·
          simp only [Act.put, l_1, l_2, l_3, i64_w, i32_w]
          rfl
        refine pure_ (i := 8) (N := some 74) (v := ?_) (a' := ?_) #[true, true, true, false, true, true, true, false, true, false, false, false, false, false, false] rfl rfl (any_of HT_.out (by kernel_rfl)) (fun _ _ _ h => h) (Or.inl ⟨by rfl, ?_⟩) ?_ ?_
        rotate_left
        ·
          intro w'
          go_simp
          with_reducible rfl
        rotate_left
        ·
          simp only [Act.put, l_1, l_2, l_3, i64_w, i32_w]
          rfl
        refine pure_ (i := 9) (N := some 75) (v := ?_) (a' := ?_) #[true, true, true, false, true, true, true, false, true, true, false, false, false, false, false] rfl rfl (any_of HT_.out (by kernel_rfl)) (fun _ _ _ h => h) (Or.inl ⟨by rfl, ?_⟩) ?_ ?_
        rotate_left
        ·
          intro w'
          go_simp
          with_reducible rfl
        rotate_left
        ·
          simp only [Act.put, l_1, l_2, l_3, i64_w, i32_w]
          rfl
        refine take_ (i := 10) (N := some 76) (v := ?_) (a' := ?_) #[true, true, true, false, true, true, true, false, true, true, true, false, false, false, false] rfl rfl (take_ofW HT_.out HW_.out (by kernel_rfl)) (fun _ _ _ h => h) (Or.inl ⟨by rfl, ?_⟩) hHeld ?_ ?_
        rotate_left
        ·
          rintro w' ⟨s0, s1, s2⟩
          go_simp
          with_reducible rfl
        rotate_left
        ·
          simp only [Act.put, l_1, l_2, l_3, i64_w, i32_w]
          rfl
        refine one_ (i := 3) (N := some 69) #[true, true, true, true, true, true, true, false, true, true, true, false, false, false, false] rfl rfl (one_of HT_.out (by kernel_rfl)) (by decide) (fun K hK => ?_)
        refine pelotonlaw03_GridParts_1.closes Try.func35 (by kernel_rfl) rfl #[.int .i64 a0_0] #[.pointer (some ⟨g_i, 0, none⟩)] #[.int .i64 a0_0, .pointer (some ⟨g_i, 0, none⟩)] (by rfl) rfl rfl (by rfl) (by (try simp only [l_4, l_5, l_6]); first | done | rfl | (simp only [l_7, l_8]; rfl)) (by rfl) ?_
        refine (pelotonlaw03_GridParts_1.calls a2 a0_0 g_i _ hI.out (by have := HC.out; unfold wrap64; omega)).mono ?_
        rintro e w_ ⟨rfl, rfl⟩
        refine ⟨_, rfl, ?_⟩
        refine hK.out _ _ HS_.out (fun hHeld => ?_)
        clear hK K
        refine norm_ (a' := ?_) ?_ ?_
        rotate_left
        ·
          show Act.put _ (some 69) _ = _
          simp only [Act.put, l_1, l_2, l_3, i64_w, i32_w]
          rfl
        refine one_ (i := 7) (N := some 73) #[true, true, true, true, true, true, true, true, true, true, true, false, false, false, false] rfl rfl (one_of HT_.out (by kernel_rfl)) (by decide) (fun K hK => ?_)
        refine pelotonlaw03_GridParts_1.closes Try.func35 (by kernel_rfl) rfl #[.int .i64 a0_1] #[.pointer (some ⟨g_i, 0, none⟩)] #[.int .i64 a0_1, .pointer (some ⟨g_i, 0, none⟩)] (by rfl) rfl rfl (by rfl) (by (try simp only [l_4, l_5, l_6]); first | done | rfl | (simp only [l_7, l_8]; rfl)) (by rfl) ?_
        refine (pelotonlaw03_GridParts_1.calls a2 a0_1 g_i _ hI.out (by have := HC.out; unfold wrap64; omega)).mono ?_
        rintro e w_ ⟨rfl, rfl⟩
        refine ⟨_, rfl, ?_⟩
        refine hK.out _ _ HS_.out (fun hHeld => ?_)
        clear hK K
        refine norm_ (a' := ?_) ?_ ?_
        rotate_left
        ·
          show Act.put _ (some 73) _ = _
          simp only [Act.put, l_1, l_2, l_3, i64_w, i32_w]
          rfl
        refine one_ (i := 11) (N := some 77) #[true, true, true, true, true, true, true, true, true, true, true, true, false, false, false] rfl rfl (one_of HT_.out (by kernel_rfl)) (by decide) (fun K hK => ?_)
        refine pelotonlaw03_GridParts_1.closes Try.func35 (by kernel_rfl) rfl #[.int .i64 a1_1] #[.pointer (some ⟨g_i, 0, none⟩)] #[.int .i64 a1_1, .pointer (some ⟨g_i, 0, none⟩)] (by rfl) rfl rfl (by rfl) (by (try simp only [l_4, l_5, l_6]); first | done | rfl | (simp only [l_7, l_8]; rfl)) (by rfl) ?_
        refine (pelotonlaw03_GridParts_1.calls a2 a1_1 g_i _ hI.out (by have := HC.out; unfold wrap64; omega)).mono ?_
        rintro e w_ ⟨rfl, rfl⟩
        refine ⟨_, rfl, ?_⟩
        refine hK.out _ _ HS_.out (fun hHeld => ?_)
        clear hK K
        refine norm_ (a' := ?_) ?_ ?_
        rotate_left
        ·
          show Act.put _ (some 77) _ = _
          simp only [Act.put, l_1, l_2, l_3, i64_w, i32_w]
          rfl
        refine pure_ (i := 12) (N := some 10) (v := ?_) (a' := ?_) #[true, true, true, true, true, true, true, true, true, true, true, true, true, false, false] rfl rfl (any_of HT_.out (by kernel_rfl)) (fun _ _ _ h => h) (Or.inl ⟨by rfl, ?_⟩) ?_ ?_
        rotate_left
        ·
          intro w'
          go_simp
          with_reducible rfl
        rotate_left
        ·
          simp only [Act.put, l_1, l_2, l_3, i64_w, i32_w]
          rfl
        refine pure_ (i := 13) (N := some 11) (v := ?_) (a' := ?_) #[true, true, true, true, true, true, true, true, true, true, true, true, true, true, false] rfl rfl (any_of HT_.out (by kernel_rfl)) (fun _ _ _ h => h) (Or.inl ⟨by rfl, ?_⟩) ?_ ?_
        rotate_left
        ·
          intro w'
          go_simp
          with_reducible rfl
        rotate_left
        ·
          simp only [Act.put, l_1, l_2, l_3, i64_w, i32_w]
          rfl
        refine pure_ (i := 14) (N := some 12) (v := ?_) (a' := ?_) #[true, true, true, true, true, true, true, true, true, true, true, true, true, true, true] rfl rfl (any_of HT_.out (by kernel_rfl)) (fun _ _ _ h => h) (Or.inl ⟨by rfl, ?_⟩) ?_ ?_
        rotate_left
        ·
          intro w'
          go_simp
          with_reducible rfl
        rotate_left
        ·
          simp only [Act.put, l_1, l_2, l_3, i64_w, i32_w]
          rfl
        refine done_ (done_of HT_.out (by kernel_rfl)) ?_
        clear hHeld HT_ HW_ HS_ hI
        obtain ⟨R_, hR_⟩ : ∃ z, pelotonlaw03_GridParts_1.f a2 a0_0 = z := ⟨_, rfl⟩
        obtain ⟨K_, hK_⟩ : ∃ z, pelotonlaw03_GridParts_1.f a2 a0_1 = z := ⟨_, rfl⟩
        obtain ⟨C_, hC_⟩ : ∃ z, pelotonlaw03_GridParts_1.f a2 a1_1 = z := ⟨_, rfl⟩
        have h := HH.out
        clear HH
        rw [hR_, hK_, hC_] at h
        have HH := Aside0.mk h
        clear h
        rw [hR_, hK_, hC_]
        clear hR_ hK_ hC_
        replace S := Aside0.mk S.out.st
        have h := HH.out
        clear HH
        obtain ⟨⟨ra1, ra2, ra3, ra4⟩, h_, h2_⟩ := Option.bind_eq_some_iff.1 h; clear h; have h := h2_; clear h2_
        have E2 := Aside0.mk h_
        clear h_
        try dsimp only at h
        have HH := Aside0.mk h
        clear h
        obtain ⟨At0, ct0, k_, l_, r_⟩ := S.out.get (g := g_a) (a := a0_0) (b := a0_1) (l := l0_2) (.tail _ (.tail _ (.head _))); obtain ⟨xt0, yt0, zt0, _, _, _⟩ := cell3 k_; have Lt0 := Aside0.mk l_; have Rt0 := Aside0.mk r_; clear k_ l_ r_
        go_upto_region 9 with (first | (go_at_call 30; (refine (grid_Rows.calls k a0_0 a0_1 At0 ct0 l0_2 0 R_ _ _ _ _ _ Rt0.out Lt0.out E2.out).mono ?_); rintro e wc_ ⟨v_, rfl, ho_, hb_⟩; replace S := Aside0.mk (S.out.below hb_); obtain ⟨Ara, cra, e_⟩ := Kd.R_slice ho_; (have e1_ : v_ = .slice Ara ra3.length cra := e_); clear e_; subst e1_; have Rra := Aside0.mk (Kd.R_reads' ho_).2.2; have Lra := Aside0.mk (Kd.R_reads' ho_).2.1; clear ho_ hb_) | ((with_reducible refine gate_dst (N := 13) rfl ?_); refine box_event ?hg (N := 13) ?hd (cs := #[.int .i64 0, .int .i64 0, .slice none 0 0]) (t := 24) ?hr ?_; (case hd => rfl); (case hg => rfl); (case hr => first | (go_simp; done) | (go_simp; rfl)); intro g_ra hg_ wb_ hbox_ hbb_; have BZ := Aside0.mk (fun u v x => below3 (u := u) (v := v) (x := x) hbb_ (Nat.le_of_eq hg_.symm)); have KZ := Aside0.mk (fun u v x => put3 (u := u) (v := v) (x := x) hbox_); obtain ⟨b1, b2, b3, b4, b5, b6⟩ := cell3 hbox_; clear hg_ hbox_ hbb_))
        replace S := Aside0.mk (S.out.box (BZ.out (.int .i64 ra1) (.int .i64 ra2) (.slice Ara ra3.length cra)) (KZ.out (.int .i64 ra1) (.int .i64 ra2) (.slice Ara ra3.length cra)) Lra.out Rra.out)
        generalize hW_ : (((wb_.setCell ⟨g_ra, 0, none⟩ (.int .i64 ra1)).setCell ⟨g_ra, 1, none⟩ (.int .i64 ra2)).setCell ⟨g_ra, 2, none⟩ (.slice Ara ra3.length cra)) = W2 at *
        clear hW_ BZ KZ b1 b2 b3 b4 b5 b6 Lra Rra
        clear xt0 yt0 zt0 Lt0 Rt0
        have h := HH.out
        clear HH
        obtain ⟨⟨rb1, rb2, rb3, rb4⟩, h_, h2_⟩ := Option.bind_eq_some_iff.1 h; clear h; have h := h2_; clear h2_
        have E3 := Aside0.mk h_
        clear h_
        try dsimp only at h
        have HH := Aside0.mk h
        clear h
        obtain ⟨At0, ct0, k_, l_, r_⟩ := S.out.get (g := g_a) (a := a0_0) (b := a0_1) (l := l0_2) (.tail _ (.tail _ (.tail _ (.head _)))); obtain ⟨xt0, yt0, zt0, _, _, _⟩ := cell3 k_; have Lt0 := Aside0.mk l_; have Rt0 := Aside0.mk r_; clear k_ l_ r_
        go_upto_region 10 with (first | (go_at_call 30; (refine (grid_Rows.calls k a0_0 a0_1 At0 ct0 l0_2 R_ a0_0 _ _ _ _ _ Rt0.out Lt0.out E3.out).mono ?_); rintro e wc_ ⟨v_, rfl, ho_, hb_⟩; replace S := Aside0.mk (S.out.below hb_); obtain ⟨Arb, crb, e_⟩ := Kd.R_slice ho_; (have e1_ : v_ = .slice Arb rb3.length crb := e_); clear e_; subst e1_; have Rrb := Aside0.mk (Kd.R_reads' ho_).2.2; have Lrb := Aside0.mk (Kd.R_reads' ho_).2.1; clear ho_ hb_) | ((with_reducible refine gate_dst (N := 15) rfl ?_); refine box_event ?hg (N := 15) ?hd (cs := #[.int .i64 0, .int .i64 0, .slice none 0 0]) (t := 24) ?hr ?_; (case hd => rfl); (case hg => rfl); (case hr => first | (go_simp; done) | (go_simp; rfl)); intro g_rb hg_ wb_ hbox_ hbb_; have BZ := Aside0.mk (fun u v x => below3 (u := u) (v := v) (x := x) hbb_ (Nat.le_of_eq hg_.symm)); have KZ := Aside0.mk (fun u v x => put3 (u := u) (v := v) (x := x) hbox_); obtain ⟨b1, b2, b3, b4, b5, b6⟩ := cell3 hbox_; clear hg_ hbox_ hbb_))
        replace S := Aside0.mk (S.out.box (BZ.out (.int .i64 rb1) (.int .i64 rb2) (.slice Arb rb3.length crb)) (KZ.out (.int .i64 rb1) (.int .i64 rb2) (.slice Arb rb3.length crb)) Lrb.out Rrb.out)
        generalize hW_ : (((wb_.setCell ⟨g_rb, 0, none⟩ (.int .i64 rb1)).setCell ⟨g_rb, 1, none⟩ (.int .i64 rb2)).setCell ⟨g_rb, 2, none⟩ (.slice Arb rb3.length crb)) = W3 at *
        clear hW_ BZ KZ b1 b2 b3 b4 b5 b6 Lrb Rrb
        clear xt0 yt0 zt0 Lt0 Rt0
        have h := HH.out
        clear HH
        obtain ⟨⟨pa1, pa2, pa3, pa4⟩, h_, h2_⟩ := Option.bind_eq_some_iff.1 h; clear h; have h := h2_; clear h2_
        have E4 := Aside0.mk h_
        clear h_
        try dsimp only at h
        have HH := Aside0.mk h
        clear h
        obtain ⟨At0, ct0, k_, l_, r_⟩ := S.out.get (g := g_ra) (a := ra1) (b := ra2) (l := ra3) (.tail _ (.head _)); obtain ⟨xt0, yt0, zt0, _, _, _⟩ := cell3 k_; have Lt0 := Aside0.mk l_; have Rt0 := Aside0.mk r_; clear k_ l_ r_
        obtain ⟨At1, ct1, k_, l_, r_⟩ := S.out.get (g := g_b) (a := a1_0) (b := a1_1) (l := l1_2) (.tail _ (.tail _ (.tail _ (.head _)))); obtain ⟨xt1, yt1, zt1, _, _, _⟩ := cell3 k_; have Lt1 := Aside0.mk l_; have Rt1 := Aside0.mk r_; clear k_ l_ r_
        go_upto_region 11 with (first | (go_at_call 12; (refine (grid_Times.calls k ra1 ra2 At0 ct0 ra3 a1_0 a1_1 At1 ct1 l1_2 _ _ _ _ _ Rt0.out Lt0.out Rt1.out Lt1.out E4.out).mono ?_); rintro e wc_ ⟨v_, rfl, ho_, hb_⟩; replace S := Aside0.mk (S.out.below hb_); obtain ⟨Apa, cpa, e_⟩ := Kd.R_slice ho_; (have e1_ : v_ = .slice Apa pa3.length cpa := e_); clear e_; subst e1_; have Rpa := Aside0.mk (Kd.R_reads' ho_).2.2; have Lpa := Aside0.mk (Kd.R_reads' ho_).2.1; clear ho_ hb_) | ((with_reducible refine gate_dst (N := 17) rfl ?_); refine box_event ?hg (N := 17) ?hd (cs := #[.int .i64 0, .int .i64 0, .slice none 0 0]) (t := 24) ?hr ?_; (case hd => rfl); (case hg => rfl); (case hr => first | (go_simp; done) | (go_simp; rfl)); intro g_pa hg_ wb_ hbox_ hbb_; have BZ := Aside0.mk (fun u v x => below3 (u := u) (v := v) (x := x) hbb_ (Nat.le_of_eq hg_.symm)); have KZ := Aside0.mk (fun u v x => put3 (u := u) (v := v) (x := x) hbox_); obtain ⟨b1, b2, b3, b4, b5, b6⟩ := cell3 hbox_; clear hg_ hbox_ hbb_))
        replace S := Aside0.mk (S.out.box (BZ.out (.int .i64 pa1) (.int .i64 pa2) (.slice Apa pa3.length cpa)) (KZ.out (.int .i64 pa1) (.int .i64 pa2) (.slice Apa pa3.length cpa)) Lpa.out Rpa.out)
        generalize hW_ : (((wb_.setCell ⟨g_pa, 0, none⟩ (.int .i64 pa1)).setCell ⟨g_pa, 1, none⟩ (.int .i64 pa2)).setCell ⟨g_pa, 2, none⟩ (.slice Apa pa3.length cpa)) = W4 at *
        clear hW_ BZ KZ b1 b2 b3 b4 b5 b6 Lpa Rpa
        clear xt0 yt0 zt0 Lt0 Rt0 xt1 yt1 zt1 Lt1 Rt1
        have h := HH.out
        clear HH
        obtain ⟨⟨pb1, pb2, pb3, pb4⟩, h_, h2_⟩ := Option.bind_eq_some_iff.1 h; clear h; have h := h2_; clear h2_
        have E5 := Aside0.mk h_
        clear h_
        try dsimp only at h
        have HH := Aside0.mk h
        clear h
        obtain ⟨At0, ct0, k_, l_, r_⟩ := S.out.get (g := g_rb) (a := rb1) (b := rb2) (l := rb3) (.tail _ (.head _)); obtain ⟨xt0, yt0, zt0, _, _, _⟩ := cell3 k_; have Lt0 := Aside0.mk l_; have Rt0 := Aside0.mk r_; clear k_ l_ r_
        obtain ⟨At1, ct1, k_, l_, r_⟩ := S.out.get (g := g_b) (a := a1_0) (b := a1_1) (l := l1_2) (.tail _ (.tail _ (.tail _ (.tail _ (.head _))))); obtain ⟨xt1, yt1, zt1, _, _, _⟩ := cell3 k_; have Lt1 := Aside0.mk l_; have Rt1 := Aside0.mk r_; clear k_ l_ r_
        go_upto_region 12 with (first | (go_at_call 12; (refine (grid_Times.calls k rb1 rb2 At0 ct0 rb3 a1_0 a1_1 At1 ct1 l1_2 _ _ _ _ _ Rt0.out Lt0.out Rt1.out Lt1.out E5.out).mono ?_); rintro e wc_ ⟨v_, rfl, ho_, hb_⟩; replace S := Aside0.mk (S.out.below hb_); obtain ⟨Apb, cpb, e_⟩ := Kd.R_slice ho_; (have e1_ : v_ = .slice Apb pb3.length cpb := e_); clear e_; subst e1_; have Rpb := Aside0.mk (Kd.R_reads' ho_).2.2; have Lpb := Aside0.mk (Kd.R_reads' ho_).2.1; clear ho_ hb_) | ((with_reducible refine gate_dst (N := 19) rfl ?_); refine box_event ?hg (N := 19) ?hd (cs := #[.int .i64 0, .int .i64 0, .slice none 0 0]) (t := 24) ?hr ?_; (case hd => rfl); (case hg => rfl); (case hr => first | (go_simp; done) | (go_simp; rfl)); intro g_pb hg_ wb_ hbox_ hbb_; have BZ := Aside0.mk (fun u v x => below3 (u := u) (v := v) (x := x) hbb_ (Nat.le_of_eq hg_.symm)); have KZ := Aside0.mk (fun u v x => put3 (u := u) (v := v) (x := x) hbox_); obtain ⟨b1, b2, b3, b4, b5, b6⟩ := cell3 hbox_; clear hg_ hbox_ hbb_))
        replace S := Aside0.mk (S.out.box (BZ.out (.int .i64 pb1) (.int .i64 pb2) (.slice Apb pb3.length cpb)) (KZ.out (.int .i64 pb1) (.int .i64 pb2) (.slice Apb pb3.length cpb)) Lpb.out Rpb.out)
        generalize hW_ : (((wb_.setCell ⟨g_pb, 0, none⟩ (.int .i64 pb1)).setCell ⟨g_pb, 1, none⟩ (.int .i64 pb2)).setCell ⟨g_pb, 2, none⟩ (.slice Apb pb3.length cpb)) = W5 at *
        clear hW_ BZ KZ b1 b2 b3 b4 b5 b6 Lpb Rpb
        clear xt0 yt0 zt0 Lt0 Rt0 xt1 yt1 zt1 Lt1 Rt1
        have h := HH.out
        clear HH
        obtain ⟨⟨x1, x2, x3, x4⟩, h_, h2_⟩ := Option.bind_eq_some_iff.1 h; clear h; have h := h2_; clear h2_
        have E6 := Aside0.mk h_
        clear h_
        try dsimp only at h
        have HH := Aside0.mk h
        clear h
        obtain ⟨At0, ct0, k_, l_, r_⟩ := S.out.get (g := g_pa) (a := pa1) (b := pa2) (l := pa3) (.tail _ (.head _)); obtain ⟨xt0, yt0, zt0, _, _, _⟩ := cell3 k_; have Lt0 := Aside0.mk l_; have Rt0 := Aside0.mk r_; clear k_ l_ r_
        obtain ⟨At1, ct1, k_, l_, r_⟩ := S.out.get (g := g_pb) (a := pb1) (b := pb2) (l := pb3) (.head _); obtain ⟨xt1, yt1, zt1, _, _, _⟩ := cell3 k_; have Lt1 := Aside0.mk l_; have Rt1 := Aside0.mk r_; clear k_ l_ r_
        go_upto_region 13 with (first | ((with_reducible refine gate_dst (N := 107) rfl ?_); refine Kd.N_lit k24 _ 24 ?hg (N' := 107) ?hd (xs := ([(⟨pa1, pa2, pa3⟩ : S24), (⟨pb1, pb2, pb3⟩ : S24)] : List S24)) (inner := [.int .i64 pa1, .int .i64 pa2, .slice At0 pa3.length ct0, .int .i64 pb1, .int .i64 pb2, .slice At1 pb3.length ct1]) (ok := fun _ => True) (okp := fun _ => True) ?hr ?hp (fun _ hk => hk) trivial (Below.refl _ _) (Nat.le_refl _) (by simp) ?_; (case hd => rfl); (case hg => rfl); (case hr => first | exact bld_ 3 (.agg #[.int .i64 0, .int .i64 0, .slice none 0 0]) rfl rfl (by simp only [Act.eval, Array.getD_eq_getD_getElem?, List.map_toArray, List.map_cons, List.map_nil, List.getElem?_toArray, List.getElem?_cons_succ, List.getElem?_cons_zero, Option.getD_some]; kernel_rfl) | (go_simp; done) | (go_simp; rfl)); (case hp => exact (Reps.c3 (fk24 (⟨pa1, pa2, pa3⟩ : S24) Lt0.out Rt0.out) (Reps.c3 (fk24 (⟨pb1, pb2, pb3⟩ : S24) Lt1.out Rt1.out) (Reps.none _ _)))); intro v_ w_ ho_ hb_ hg_ hnew_; clear hg_ hnew_; replace S := Aside0.mk (S.out.below hb_); have HOx := Aside0.mk ho_; clear ho_ hb_; obtain ⟨AoHOx, coHOx, eo_⟩ := Kd.N_slice HOx.out; subst eo_) | (go_at_call 24; (refine (grid_Stack.calls k _ _ [(⟨pa1, pa2, pa3⟩ : S24), (⟨pb1, pb2, pb3⟩ : S24)] _ _ _ _ _ (Kd.N_reads' HOx.out).2.2 (Kd.N_reads' HOx.out).2.1 E6.out).mono ?_); rintro e wc_ ⟨v_, rfl, ho_, hb_⟩; replace S := Aside0.mk (S.out.below hb_); obtain ⟨Ax, cx, e_⟩ := Kd.R_slice ho_; (have e1_ : v_ = .slice Ax x3.length cx := e_); clear e_; subst e1_; have Rx := Aside0.mk (Kd.R_reads' ho_).2.2; have Lx := Aside0.mk (Kd.R_reads' ho_).2.1; clear ho_ hb_) | ((with_reducible refine gate_dst (N := 21) rfl ?_); refine box_event ?hg (N := 21) ?hd (cs := #[.int .i64 0, .int .i64 0, .slice none 0 0]) (t := 24) ?hr ?_; (case hd => rfl); (case hg => rfl); (case hr => first | (go_simp; done) | (go_simp; rfl)); intro g_x hg_ wb_ hbox_ hbb_; have BZ := Aside0.mk (fun u v x => below3 (u := u) (v := v) (x := x) hbb_ (Nat.le_of_eq hg_.symm)); have KZ := Aside0.mk (fun u v x => put3 (u := u) (v := v) (x := x) hbox_); obtain ⟨b1, b2, b3, b4, b5, b6⟩ := cell3 hbox_; clear hg_ hbox_ hbb_))
        replace S := Aside0.mk (S.out.box (BZ.out (.int .i64 x1) (.int .i64 x2) (.slice Ax x3.length cx)) (KZ.out (.int .i64 x1) (.int .i64 x2) (.slice Ax x3.length cx)) Lx.out Rx.out)
        generalize hW_ : (((wb_.setCell ⟨g_x, 0, none⟩ (.int .i64 x1)).setCell ⟨g_x, 1, none⟩ (.int .i64 x2)).setCell ⟨g_x, 2, none⟩ (.slice Ax x3.length cx)) = W6 at *
        clear hW_ BZ KZ b1 b2 b3 b4 b5 b6 Lx Rx
        clear xt0 yt0 zt0 Lt0 Rt0 xt1 yt1 zt1 Lt1 Rt1 HOx
        have h := HH.out
        clear HH
        obtain ⟨⟨ca1, ca2, ca3, ca4⟩, h_, h2_⟩ := Option.bind_eq_some_iff.1 h; clear h; have h := h2_; clear h2_
        have E7 := Aside0.mk h_
        clear h_
        try dsimp only at h
        have HH := Aside0.mk h
        clear h
        obtain ⟨At0, ct0, k_, l_, r_⟩ := S.out.get (g := g_b) (a := a1_0) (b := a1_1) (l := l1_2) (.tail _ (.tail _ (.tail _ (.tail _ (.tail _ (.tail _ (.head _))))))); obtain ⟨xt0, yt0, zt0, _, _, _⟩ := cell3 k_; have Lt0 := Aside0.mk l_; have Rt0 := Aside0.mk r_; clear k_ l_ r_
        go_upto_region 14 with (first | (go_at_call 31; (refine (grid_Cols.calls k a1_0 a1_1 At0 ct0 l1_2 0 C_ _ _ _ _ _ Rt0.out Lt0.out E7.out).mono ?_); rintro e wc_ ⟨v_, rfl, ho_, hb_⟩; replace S := Aside0.mk (S.out.below hb_); obtain ⟨Aca, cca, e_⟩ := Kd.R_slice ho_; (have e1_ : v_ = .slice Aca ca3.length cca := e_); clear e_; subst e1_; have Rca := Aside0.mk (Kd.R_reads' ho_).2.2; have Lca := Aside0.mk (Kd.R_reads' ho_).2.1; clear ho_ hb_) | ((with_reducible refine gate_dst (N := 23) rfl ?_); refine box_event ?hg (N := 23) ?hd (cs := #[.int .i64 0, .int .i64 0, .slice none 0 0]) (t := 24) ?hr ?_; (case hd => rfl); (case hg => rfl); (case hr => first | (go_simp; done) | (go_simp; rfl)); intro g_ca hg_ wb_ hbox_ hbb_; have BZ := Aside0.mk (fun u v x => below3 (u := u) (v := v) (x := x) hbb_ (Nat.le_of_eq hg_.symm)); have KZ := Aside0.mk (fun u v x => put3 (u := u) (v := v) (x := x) hbox_); obtain ⟨b1, b2, b3, b4, b5, b6⟩ := cell3 hbox_; clear hg_ hbox_ hbb_))
        replace S := Aside0.mk (S.out.box (BZ.out (.int .i64 ca1) (.int .i64 ca2) (.slice Aca ca3.length cca)) (KZ.out (.int .i64 ca1) (.int .i64 ca2) (.slice Aca ca3.length cca)) Lca.out Rca.out)
        generalize hW_ : (((wb_.setCell ⟨g_ca, 0, none⟩ (.int .i64 ca1)).setCell ⟨g_ca, 1, none⟩ (.int .i64 ca2)).setCell ⟨g_ca, 2, none⟩ (.slice Aca ca3.length cca)) = W7 at *
        clear hW_ BZ KZ b1 b2 b3 b4 b5 b6 Lca Rca
        clear xt0 yt0 zt0 Lt0 Rt0
        have h := HH.out
        clear HH
        obtain ⟨⟨cb1, cb2, cb3, cb4⟩, h_, h2_⟩ := Option.bind_eq_some_iff.1 h; clear h; have h := h2_; clear h2_
        have E8 := Aside0.mk h_
        clear h_
        try dsimp only at h
        have HH := Aside0.mk h
        clear h
        obtain ⟨At0, ct0, k_, l_, r_⟩ := S.out.get (g := g_b) (a := a1_0) (b := a1_1) (l := l1_2) (.tail _ (.tail _ (.tail _ (.tail _ (.tail _ (.tail _ (.tail _ (.head _)))))))); obtain ⟨xt0, yt0, zt0, _, _, _⟩ := cell3 k_; have Lt0 := Aside0.mk l_; have Rt0 := Aside0.mk r_; clear k_ l_ r_
        go_upto_region 15 with (first | (go_at_call 31; (refine (grid_Cols.calls k a1_0 a1_1 At0 ct0 l1_2 C_ a1_1 _ _ _ _ _ Rt0.out Lt0.out E8.out).mono ?_); rintro e wc_ ⟨v_, rfl, ho_, hb_⟩; replace S := Aside0.mk (S.out.below hb_); obtain ⟨Acb, ccb, e_⟩ := Kd.R_slice ho_; (have e1_ : v_ = .slice Acb cb3.length ccb := e_); clear e_; subst e1_; have Rcb := Aside0.mk (Kd.R_reads' ho_).2.2; have Lcb := Aside0.mk (Kd.R_reads' ho_).2.1; clear ho_ hb_) | ((with_reducible refine gate_dst (N := 25) rfl ?_); refine box_event ?hg (N := 25) ?hd (cs := #[.int .i64 0, .int .i64 0, .slice none 0 0]) (t := 24) ?hr ?_; (case hd => rfl); (case hg => rfl); (case hr => first | (go_simp; done) | (go_simp; rfl)); intro g_cb hg_ wb_ hbox_ hbb_; have BZ := Aside0.mk (fun u v x => below3 (u := u) (v := v) (x := x) hbb_ (Nat.le_of_eq hg_.symm)); have KZ := Aside0.mk (fun u v x => put3 (u := u) (v := v) (x := x) hbox_); obtain ⟨b1, b2, b3, b4, b5, b6⟩ := cell3 hbox_; clear hg_ hbox_ hbb_))
        replace S := Aside0.mk (S.out.box (BZ.out (.int .i64 cb1) (.int .i64 cb2) (.slice Acb cb3.length ccb)) (KZ.out (.int .i64 cb1) (.int .i64 cb2) (.slice Acb cb3.length ccb)) Lcb.out Rcb.out)
        generalize hW_ : (((wb_.setCell ⟨g_cb, 0, none⟩ (.int .i64 cb1)).setCell ⟨g_cb, 1, none⟩ (.int .i64 cb2)).setCell ⟨g_cb, 2, none⟩ (.slice Acb cb3.length ccb)) = W8 at *
        clear hW_ BZ KZ b1 b2 b3 b4 b5 b6 Lcb Rcb
        clear xt0 yt0 zt0 Lt0 Rt0
        have h := HH.out
        clear HH
        obtain ⟨⟨qa1, qa2, qa3, qa4⟩, h_, h2_⟩ := Option.bind_eq_some_iff.1 h; clear h; have h := h2_; clear h2_
        have E9 := Aside0.mk h_
        clear h_
        try dsimp only at h
        have HH := Aside0.mk h
        clear h
        obtain ⟨At0, ct0, k_, l_, r_⟩ := S.out.get (g := g_a) (a := a0_0) (b := a0_1) (l := l0_2) (.tail _ (.tail _ (.tail _ (.tail _ (.tail _ (.tail _ (.tail _ (.tail _ (.tail _ (.head _)))))))))); obtain ⟨xt0, yt0, zt0, _, _, _⟩ := cell3 k_; have Lt0 := Aside0.mk l_; have Rt0 := Aside0.mk r_; clear k_ l_ r_
        obtain ⟨At1, ct1, k_, l_, r_⟩ := S.out.get (g := g_ca) (a := ca1) (b := ca2) (l := ca3) (.tail _ (.head _)); obtain ⟨xt1, yt1, zt1, _, _, _⟩ := cell3 k_; have Lt1 := Aside0.mk l_; have Rt1 := Aside0.mk r_; clear k_ l_ r_
        go_upto_region 16 with (first | (go_at_call 12; (refine (grid_Times.calls k a0_0 a0_1 At0 ct0 l0_2 ca1 ca2 At1 ct1 ca3 _ _ _ _ _ Rt0.out Lt0.out Rt1.out Lt1.out E9.out).mono ?_); rintro e wc_ ⟨v_, rfl, ho_, hb_⟩; replace S := Aside0.mk (S.out.below hb_); obtain ⟨Aqa, cqa, e_⟩ := Kd.R_slice ho_; (have e1_ : v_ = .slice Aqa qa3.length cqa := e_); clear e_; subst e1_; have Rqa := Aside0.mk (Kd.R_reads' ho_).2.2; have Lqa := Aside0.mk (Kd.R_reads' ho_).2.1; clear ho_ hb_) | ((with_reducible refine gate_dst (N := 27) rfl ?_); refine box_event ?hg (N := 27) ?hd (cs := #[.int .i64 0, .int .i64 0, .slice none 0 0]) (t := 24) ?hr ?_; (case hd => rfl); (case hg => rfl); (case hr => first | (go_simp; done) | (go_simp; rfl)); intro g_qa hg_ wb_ hbox_ hbb_; have BZ := Aside0.mk (fun u v x => below3 (u := u) (v := v) (x := x) hbb_ (Nat.le_of_eq hg_.symm)); have KZ := Aside0.mk (fun u v x => put3 (u := u) (v := v) (x := x) hbox_); obtain ⟨b1, b2, b3, b4, b5, b6⟩ := cell3 hbox_; clear hg_ hbox_ hbb_))
        replace S := Aside0.mk (S.out.box (BZ.out (.int .i64 qa1) (.int .i64 qa2) (.slice Aqa qa3.length cqa)) (KZ.out (.int .i64 qa1) (.int .i64 qa2) (.slice Aqa qa3.length cqa)) Lqa.out Rqa.out)
        generalize hW_ : (((wb_.setCell ⟨g_qa, 0, none⟩ (.int .i64 qa1)).setCell ⟨g_qa, 1, none⟩ (.int .i64 qa2)).setCell ⟨g_qa, 2, none⟩ (.slice Aqa qa3.length cqa)) = W9 at *
        clear hW_ BZ KZ b1 b2 b3 b4 b5 b6 Lqa Rqa
        clear xt0 yt0 zt0 Lt0 Rt0 xt1 yt1 zt1 Lt1 Rt1
        have h := HH.out
        clear HH
        obtain ⟨⟨qb1, qb2, qb3, qb4⟩, h_, h2_⟩ := Option.bind_eq_some_iff.1 h; clear h; have h := h2_; clear h2_
        have E10 := Aside0.mk h_
        clear h_
        try dsimp only at h
        have HH := Aside0.mk h
        clear h
        obtain ⟨At0, ct0, k_, l_, r_⟩ := S.out.get (g := g_a) (a := a0_0) (b := a0_1) (l := l0_2) (.tail _ (.tail _ (.tail _ (.tail _ (.tail _ (.tail _ (.tail _ (.tail _ (.tail _ (.tail _ (.head _))))))))))); obtain ⟨xt0, yt0, zt0, _, _, _⟩ := cell3 k_; have Lt0 := Aside0.mk l_; have Rt0 := Aside0.mk r_; clear k_ l_ r_
        obtain ⟨At1, ct1, k_, l_, r_⟩ := S.out.get (g := g_cb) (a := cb1) (b := cb2) (l := cb3) (.tail _ (.head _)); obtain ⟨xt1, yt1, zt1, _, _, _⟩ := cell3 k_; have Lt1 := Aside0.mk l_; have Rt1 := Aside0.mk r_; clear k_ l_ r_
        go_upto_region 17 with (first | (go_at_call 12; (refine (grid_Times.calls k a0_0 a0_1 At0 ct0 l0_2 cb1 cb2 At1 ct1 cb3 _ _ _ _ _ Rt0.out Lt0.out Rt1.out Lt1.out E10.out).mono ?_); rintro e wc_ ⟨v_, rfl, ho_, hb_⟩; replace S := Aside0.mk (S.out.below hb_); obtain ⟨Aqb, cqb, e_⟩ := Kd.R_slice ho_; (have e1_ : v_ = .slice Aqb qb3.length cqb := e_); clear e_; subst e1_; have Rqb := Aside0.mk (Kd.R_reads' ho_).2.2; have Lqb := Aside0.mk (Kd.R_reads' ho_).2.1; clear ho_ hb_) | ((with_reducible refine gate_dst (N := 29) rfl ?_); refine box_event ?hg (N := 29) ?hd (cs := #[.int .i64 0, .int .i64 0, .slice none 0 0]) (t := 24) ?hr ?_; (case hd => rfl); (case hg => rfl); (case hr => first | (go_simp; done) | (go_simp; rfl)); intro g_qb hg_ wb_ hbox_ hbb_; have BZ := Aside0.mk (fun u v x => below3 (u := u) (v := v) (x := x) hbb_ (Nat.le_of_eq hg_.symm)); have KZ := Aside0.mk (fun u v x => put3 (u := u) (v := v) (x := x) hbox_); obtain ⟨b1, b2, b3, b4, b5, b6⟩ := cell3 hbox_; clear hg_ hbox_ hbb_))
        replace S := Aside0.mk (S.out.box (BZ.out (.int .i64 qb1) (.int .i64 qb2) (.slice Aqb qb3.length cqb)) (KZ.out (.int .i64 qb1) (.int .i64 qb2) (.slice Aqb qb3.length cqb)) Lqb.out Rqb.out)
        generalize hW_ : (((wb_.setCell ⟨g_qb, 0, none⟩ (.int .i64 qb1)).setCell ⟨g_qb, 1, none⟩ (.int .i64 qb2)).setCell ⟨g_qb, 2, none⟩ (.slice Aqb qb3.length cqb)) = W10 at *
        clear hW_ BZ KZ b1 b2 b3 b4 b5 b6 Lqb Rqb
        clear xt0 yt0 zt0 Lt0 Rt0 xt1 yt1 zt1 Lt1 Rt1
        have h := HH.out
        clear HH
        obtain ⟨⟨y1, y2, y3, y4⟩, h_, h2_⟩ := Option.bind_eq_some_iff.1 h; clear h; have h := h2_; clear h2_
        have E11 := Aside0.mk h_
        clear h_
        try dsimp only at h
        have HH := Aside0.mk h
        clear h
        obtain ⟨At0, ct0, k_, l_, r_⟩ := S.out.get (g := g_qa) (a := qa1) (b := qa2) (l := qa3) (.tail _ (.head _)); obtain ⟨xt0, yt0, zt0, _, _, _⟩ := cell3 k_; have Lt0 := Aside0.mk l_; have Rt0 := Aside0.mk r_; clear k_ l_ r_
        obtain ⟨At1, ct1, k_, l_, r_⟩ := S.out.get (g := g_qb) (a := qb1) (b := qb2) (l := qb3) (.head _); obtain ⟨xt1, yt1, zt1, _, _, _⟩ := cell3 k_; have Lt1 := Aside0.mk l_; have Rt1 := Aside0.mk r_; clear k_ l_ r_
        go_upto_region 18 with (first | ((with_reducible refine gate_dst (N := 140) rfl ?_); refine Kd.N_lit k24 _ 24 ?hg (N' := 140) ?hd (xs := ([(⟨qa1, qa2, qa3⟩ : S24), (⟨qb1, qb2, qb3⟩ : S24)] : List S24)) (inner := [.int .i64 qa1, .int .i64 qa2, .slice At0 qa3.length ct0, .int .i64 qb1, .int .i64 qb2, .slice At1 qb3.length ct1]) (ok := fun _ => True) (okp := fun _ => True) ?hr ?hp (fun _ hk => hk) trivial (Below.refl _ _) (Nat.le_refl _) (by simp) ?_; (case hd => rfl); (case hg => rfl); (case hr => first | exact bld_ 3 (.agg #[.int .i64 0, .int .i64 0, .slice none 0 0]) rfl rfl (by simp only [Act.eval, Array.getD_eq_getD_getElem?, List.map_toArray, List.map_cons, List.map_nil, List.getElem?_toArray, List.getElem?_cons_succ, List.getElem?_cons_zero, Option.getD_some]; kernel_rfl) | (go_simp; done) | (go_simp; rfl)); (case hp => exact (Reps.c3 (fk24 (⟨qa1, qa2, qa3⟩ : S24) Lt0.out Rt0.out) (Reps.c3 (fk24 (⟨qb1, qb2, qb3⟩ : S24) Lt1.out Rt1.out) (Reps.none _ _)))); intro v_ w_ ho_ hb_ hg_ hnew_; clear hg_ hnew_; replace S := Aside0.mk (S.out.below hb_); have HOy := Aside0.mk ho_; clear ho_ hb_; obtain ⟨AoHOy, coHOy, eo_⟩ := Kd.N_slice HOy.out; subst eo_) | (go_at_call 25; (refine (grid_Beside.calls k _ _ [(⟨qa1, qa2, qa3⟩ : S24), (⟨qb1, qb2, qb3⟩ : S24)] _ _ _ _ _ (Kd.N_reads' HOy.out).2.2 (Kd.N_reads' HOy.out).2.1 E11.out).mono ?_); rintro e wc_ ⟨v_, rfl, ho_, hb_⟩; replace S := Aside0.mk (S.out.below hb_); obtain ⟨Ay, cy, e_⟩ := Kd.R_slice ho_; (have e1_ : v_ = .slice Ay y3.length cy := e_); clear e_; subst e1_; have Ry := Aside0.mk (Kd.R_reads' ho_).2.2; have Ly := Aside0.mk (Kd.R_reads' ho_).2.1; clear ho_ hb_) | ((with_reducible refine gate_dst (N := 31) rfl ?_); refine box_event ?hg (N := 31) ?hd (cs := #[.int .i64 0, .int .i64 0, .slice none 0 0]) (t := 24) ?hr ?_; (case hd => rfl); (case hg => rfl); (case hr => first | (go_simp; done) | (go_simp; rfl)); intro g_y hg_ wb_ hbox_ hbb_; have BZ := Aside0.mk (fun u v x => below3 (u := u) (v := v) (x := x) hbb_ (Nat.le_of_eq hg_.symm)); have KZ := Aside0.mk (fun u v x => put3 (u := u) (v := v) (x := x) hbox_); obtain ⟨b1, b2, b3, b4, b5, b6⟩ := cell3 hbox_; clear hg_ hbox_ hbb_))
        replace S := Aside0.mk (S.out.box (BZ.out (.int .i64 y1) (.int .i64 y2) (.slice Ay y3.length cy)) (KZ.out (.int .i64 y1) (.int .i64 y2) (.slice Ay y3.length cy)) Ly.out Ry.out)
        generalize hW_ : (((wb_.setCell ⟨g_y, 0, none⟩ (.int .i64 y1)).setCell ⟨g_y, 1, none⟩ (.int .i64 y2)).setCell ⟨g_y, 2, none⟩ (.slice Ay y3.length cy)) = W11 at *
        clear hW_ BZ KZ b1 b2 b3 b4 b5 b6 Ly Ry
        clear xt0 yt0 zt0 Lt0 Rt0 xt1 yt1 zt1 Lt1 Rt1 HOy
        have h := HH.out
        clear HH
        obtain ⟨⟨la1, la2, la3, la4⟩, h_, h2_⟩ := Option.bind_eq_some_iff.1 h; clear h; have h := h2_; clear h2_
        have E12 := Aside0.mk h_
        clear h_
        try dsimp only at h
        have HH := Aside0.mk h
        clear h
        obtain ⟨At0, ct0, k_, l_, r_⟩ := S.out.get (g := g_a) (a := a0_0) (b := a0_1) (l := l0_2) (.tail _ (.tail _ (.tail _ (.tail _ (.tail _ (.tail _ (.tail _ (.tail _ (.tail _ (.tail _ (.tail _ (.tail _ (.head _))))))))))))); obtain ⟨xt0, yt0, zt0, _, _, _⟩ := cell3 k_; have Lt0 := Aside0.mk l_; have Rt0 := Aside0.mk r_; clear k_ l_ r_
        go_upto_region 19 with (first | (go_at_call 31; (refine (grid_Cols.calls k a0_0 a0_1 At0 ct0 l0_2 0 K_ _ _ _ _ _ Rt0.out Lt0.out E12.out).mono ?_); rintro e wc_ ⟨v_, rfl, ho_, hb_⟩; replace S := Aside0.mk (S.out.below hb_); obtain ⟨Ala, cla, e_⟩ := Kd.R_slice ho_; (have e1_ : v_ = .slice Ala la3.length cla := e_); clear e_; subst e1_; have Rla := Aside0.mk (Kd.R_reads' ho_).2.2; have Lla := Aside0.mk (Kd.R_reads' ho_).2.1; clear ho_ hb_) | ((with_reducible refine gate_dst (N := 33) rfl ?_); refine box_event ?hg (N := 33) ?hd (cs := #[.int .i64 0, .int .i64 0, .slice none 0 0]) (t := 24) ?hr ?_; (case hd => rfl); (case hg => rfl); (case hr => first | (go_simp; done) | (go_simp; rfl)); intro g_la hg_ wb_ hbox_ hbb_; have BZ := Aside0.mk (fun u v x => below3 (u := u) (v := v) (x := x) hbb_ (Nat.le_of_eq hg_.symm)); have KZ := Aside0.mk (fun u v x => put3 (u := u) (v := v) (x := x) hbox_); obtain ⟨b1, b2, b3, b4, b5, b6⟩ := cell3 hbox_; clear hg_ hbox_ hbb_))
        replace S := Aside0.mk (S.out.box (BZ.out (.int .i64 la1) (.int .i64 la2) (.slice Ala la3.length cla)) (KZ.out (.int .i64 la1) (.int .i64 la2) (.slice Ala la3.length cla)) Lla.out Rla.out)
        generalize hW_ : (((wb_.setCell ⟨g_la, 0, none⟩ (.int .i64 la1)).setCell ⟨g_la, 1, none⟩ (.int .i64 la2)).setCell ⟨g_la, 2, none⟩ (.slice Ala la3.length cla)) = W12 at *
        clear hW_ BZ KZ b1 b2 b3 b4 b5 b6 Lla Rla
        clear xt0 yt0 zt0 Lt0 Rt0
        have h := HH.out
        clear HH
        obtain ⟨⟨lb1, lb2, lb3, lb4⟩, h_, h2_⟩ := Option.bind_eq_some_iff.1 h; clear h; have h := h2_; clear h2_
        have E13 := Aside0.mk h_
        clear h_
        try dsimp only at h
        have HH := Aside0.mk h
        clear h
        obtain ⟨At0, ct0, k_, l_, r_⟩ := S.out.get (g := g_a) (a := a0_0) (b := a0_1) (l := l0_2) (.tail _ (.tail _ (.tail _ (.tail _ (.tail _ (.tail _ (.tail _ (.tail _ (.tail _ (.tail _ (.tail _ (.tail _ (.tail _ (.head _)))))))))))))); obtain ⟨xt0, yt0, zt0, _, _, _⟩ := cell3 k_; have Lt0 := Aside0.mk l_; have Rt0 := Aside0.mk r_; clear k_ l_ r_
        go_upto_region 20 with (first | (go_at_call 31; (refine (grid_Cols.calls k a0_0 a0_1 At0 ct0 l0_2 K_ a0_1 _ _ _ _ _ Rt0.out Lt0.out E13.out).mono ?_); rintro e wc_ ⟨v_, rfl, ho_, hb_⟩; replace S := Aside0.mk (S.out.below hb_); obtain ⟨Alb, clb, e_⟩ := Kd.R_slice ho_; (have e1_ : v_ = .slice Alb lb3.length clb := e_); clear e_; subst e1_; have Rlb := Aside0.mk (Kd.R_reads' ho_).2.2; have Llb := Aside0.mk (Kd.R_reads' ho_).2.1; clear ho_ hb_) | ((with_reducible refine gate_dst (N := 35) rfl ?_); refine box_event ?hg (N := 35) ?hd (cs := #[.int .i64 0, .int .i64 0, .slice none 0 0]) (t := 24) ?hr ?_; (case hd => rfl); (case hg => rfl); (case hr => first | (go_simp; done) | (go_simp; rfl)); intro g_lb hg_ wb_ hbox_ hbb_; have BZ := Aside0.mk (fun u v x => below3 (u := u) (v := v) (x := x) hbb_ (Nat.le_of_eq hg_.symm)); have KZ := Aside0.mk (fun u v x => put3 (u := u) (v := v) (x := x) hbox_); obtain ⟨b1, b2, b3, b4, b5, b6⟩ := cell3 hbox_; clear hg_ hbox_ hbb_))
        replace S := Aside0.mk (S.out.box (BZ.out (.int .i64 lb1) (.int .i64 lb2) (.slice Alb lb3.length clb)) (KZ.out (.int .i64 lb1) (.int .i64 lb2) (.slice Alb lb3.length clb)) Llb.out Rlb.out)
        generalize hW_ : (((wb_.setCell ⟨g_lb, 0, none⟩ (.int .i64 lb1)).setCell ⟨g_lb, 1, none⟩ (.int .i64 lb2)).setCell ⟨g_lb, 2, none⟩ (.slice Alb lb3.length clb)) = W13 at *
        clear hW_ BZ KZ b1 b2 b3 b4 b5 b6 Llb Rlb
        clear xt0 yt0 zt0 Lt0 Rt0
        have h := HH.out
        clear HH
        obtain ⟨⟨ma1, ma2, ma3, ma4⟩, h_, h2_⟩ := Option.bind_eq_some_iff.1 h; clear h; have h := h2_; clear h2_
        have E14 := Aside0.mk h_
        clear h_
        try dsimp only at h
        have HH := Aside0.mk h
        clear h
        obtain ⟨At0, ct0, k_, l_, r_⟩ := S.out.get (g := g_b) (a := a1_0) (b := a1_1) (l := l1_2) (.tail _ (.tail _ (.tail _ (.tail _ (.tail _ (.tail _ (.tail _ (.tail _ (.tail _ (.tail _ (.tail _ (.tail _ (.tail _ (.head _)))))))))))))); obtain ⟨xt0, yt0, zt0, _, _, _⟩ := cell3 k_; have Lt0 := Aside0.mk l_; have Rt0 := Aside0.mk r_; clear k_ l_ r_
        go_upto_region 21 with (first | (go_at_call 30; (refine (grid_Rows.calls k a1_0 a1_1 At0 ct0 l1_2 0 K_ _ _ _ _ _ Rt0.out Lt0.out E14.out).mono ?_); rintro e wc_ ⟨v_, rfl, ho_, hb_⟩; replace S := Aside0.mk (S.out.below hb_); obtain ⟨Ama, cma, e_⟩ := Kd.R_slice ho_; (have e1_ : v_ = .slice Ama ma3.length cma := e_); clear e_; subst e1_; have Rma := Aside0.mk (Kd.R_reads' ho_).2.2; have Lma := Aside0.mk (Kd.R_reads' ho_).2.1; clear ho_ hb_) | ((with_reducible refine gate_dst (N := 37) rfl ?_); refine box_event ?hg (N := 37) ?hd (cs := #[.int .i64 0, .int .i64 0, .slice none 0 0]) (t := 24) ?hr ?_; (case hd => rfl); (case hg => rfl); (case hr => first | (go_simp; done) | (go_simp; rfl)); intro g_ma hg_ wb_ hbox_ hbb_; have BZ := Aside0.mk (fun u v x => below3 (u := u) (v := v) (x := x) hbb_ (Nat.le_of_eq hg_.symm)); have KZ := Aside0.mk (fun u v x => put3 (u := u) (v := v) (x := x) hbox_); obtain ⟨b1, b2, b3, b4, b5, b6⟩ := cell3 hbox_; clear hg_ hbox_ hbb_))
        replace S := Aside0.mk (S.out.box (BZ.out (.int .i64 ma1) (.int .i64 ma2) (.slice Ama ma3.length cma)) (KZ.out (.int .i64 ma1) (.int .i64 ma2) (.slice Ama ma3.length cma)) Lma.out Rma.out)
        generalize hW_ : (((wb_.setCell ⟨g_ma, 0, none⟩ (.int .i64 ma1)).setCell ⟨g_ma, 1, none⟩ (.int .i64 ma2)).setCell ⟨g_ma, 2, none⟩ (.slice Ama ma3.length cma)) = W14 at *
        clear hW_ BZ KZ b1 b2 b3 b4 b5 b6 Lma Rma
        clear xt0 yt0 zt0 Lt0 Rt0
        have h := HH.out
        clear HH
        obtain ⟨⟨mb1, mb2, mb3, mb4⟩, h_, h2_⟩ := Option.bind_eq_some_iff.1 h; clear h; have h := h2_; clear h2_
        have E15 := Aside0.mk h_
        clear h_
        try dsimp only at h
        have HH := Aside0.mk h
        clear h
        obtain ⟨At0, ct0, k_, l_, r_⟩ := S.out.get (g := g_b) (a := a1_0) (b := a1_1) (l := l1_2) (.tail _ (.tail _ (.tail _ (.tail _ (.tail _ (.tail _ (.tail _ (.tail _ (.tail _ (.tail _ (.tail _ (.tail _ (.tail _ (.tail _ (.head _))))))))))))))); obtain ⟨xt0, yt0, zt0, _, _, _⟩ := cell3 k_; have Lt0 := Aside0.mk l_; have Rt0 := Aside0.mk r_; clear k_ l_ r_
        go_upto_region 22 with (first | (go_at_call 30; (refine (grid_Rows.calls k a1_0 a1_1 At0 ct0 l1_2 K_ a1_0 _ _ _ _ _ Rt0.out Lt0.out E15.out).mono ?_); rintro e wc_ ⟨v_, rfl, ho_, hb_⟩; replace S := Aside0.mk (S.out.below hb_); obtain ⟨Amb, cmb, e_⟩ := Kd.R_slice ho_; (have e1_ : v_ = .slice Amb mb3.length cmb := e_); clear e_; subst e1_; have Rmb := Aside0.mk (Kd.R_reads' ho_).2.2; have Lmb := Aside0.mk (Kd.R_reads' ho_).2.1; clear ho_ hb_) | ((with_reducible refine gate_dst (N := 39) rfl ?_); refine box_event ?hg (N := 39) ?hd (cs := #[.int .i64 0, .int .i64 0, .slice none 0 0]) (t := 24) ?hr ?_; (case hd => rfl); (case hg => rfl); (case hr => first | (go_simp; done) | (go_simp; rfl)); intro g_mb hg_ wb_ hbox_ hbb_; have BZ := Aside0.mk (fun u v x => below3 (u := u) (v := v) (x := x) hbb_ (Nat.le_of_eq hg_.symm)); have KZ := Aside0.mk (fun u v x => put3 (u := u) (v := v) (x := x) hbox_); obtain ⟨b1, b2, b3, b4, b5, b6⟩ := cell3 hbox_; clear hg_ hbox_ hbb_))
        replace S := Aside0.mk (S.out.box (BZ.out (.int .i64 mb1) (.int .i64 mb2) (.slice Amb mb3.length cmb)) (KZ.out (.int .i64 mb1) (.int .i64 mb2) (.slice Amb mb3.length cmb)) Lmb.out Rmb.out)
        generalize hW_ : (((wb_.setCell ⟨g_mb, 0, none⟩ (.int .i64 mb1)).setCell ⟨g_mb, 1, none⟩ (.int .i64 mb2)).setCell ⟨g_mb, 2, none⟩ (.slice Amb mb3.length cmb)) = W15 at *
        clear hW_ BZ KZ b1 b2 b3 b4 b5 b6 Lmb Rmb
        clear xt0 yt0 zt0 Lt0 Rt0
        have h := HH.out
        clear HH
        obtain ⟨⟨sa1, sa2, sa3, sa4⟩, h_, h2_⟩ := Option.bind_eq_some_iff.1 h; clear h; have h := h2_; clear h2_
        have E16 := Aside0.mk h_
        clear h_
        try dsimp only at h
        have HH := Aside0.mk h
        clear h
        obtain ⟨At0, ct0, k_, l_, r_⟩ := S.out.get (g := g_la) (a := la1) (b := la2) (l := la3) (.tail _ (.tail _ (.tail _ (.head _)))); obtain ⟨xt0, yt0, zt0, _, _, _⟩ := cell3 k_; have Lt0 := Aside0.mk l_; have Rt0 := Aside0.mk r_; clear k_ l_ r_
        obtain ⟨At1, ct1, k_, l_, r_⟩ := S.out.get (g := g_ma) (a := ma1) (b := ma2) (l := ma3) (.tail _ (.head _)); obtain ⟨xt1, yt1, zt1, _, _, _⟩ := cell3 k_; have Lt1 := Aside0.mk l_; have Rt1 := Aside0.mk r_; clear k_ l_ r_
        go_upto_region 23 with (first | (go_at_call 12; (refine (grid_Times.calls k la1 la2 At0 ct0 la3 ma1 ma2 At1 ct1 ma3 _ _ _ _ _ Rt0.out Lt0.out Rt1.out Lt1.out E16.out).mono ?_); rintro e wc_ ⟨v_, rfl, ho_, hb_⟩; replace S := Aside0.mk (S.out.below hb_); obtain ⟨Asa, csa, e_⟩ := Kd.R_slice ho_; (have e1_ : v_ = .slice Asa sa3.length csa := e_); clear e_; subst e1_; have Rsa := Aside0.mk (Kd.R_reads' ho_).2.2; have Lsa := Aside0.mk (Kd.R_reads' ho_).2.1; clear ho_ hb_) | ((with_reducible refine gate_dst (N := 41) rfl ?_); refine box_event ?hg (N := 41) ?hd (cs := #[.int .i64 0, .int .i64 0, .slice none 0 0]) (t := 24) ?hr ?_; (case hd => rfl); (case hg => rfl); (case hr => first | (go_simp; done) | (go_simp; rfl)); intro g_sa hg_ wb_ hbox_ hbb_; have BZ := Aside0.mk (fun u v x => below3 (u := u) (v := v) (x := x) hbb_ (Nat.le_of_eq hg_.symm)); have KZ := Aside0.mk (fun u v x => put3 (u := u) (v := v) (x := x) hbox_); obtain ⟨b1, b2, b3, b4, b5, b6⟩ := cell3 hbox_; clear hg_ hbox_ hbb_))
        replace S := Aside0.mk (S.out.box (BZ.out (.int .i64 sa1) (.int .i64 sa2) (.slice Asa sa3.length csa)) (KZ.out (.int .i64 sa1) (.int .i64 sa2) (.slice Asa sa3.length csa)) Lsa.out Rsa.out)
        generalize hW_ : (((wb_.setCell ⟨g_sa, 0, none⟩ (.int .i64 sa1)).setCell ⟨g_sa, 1, none⟩ (.int .i64 sa2)).setCell ⟨g_sa, 2, none⟩ (.slice Asa sa3.length csa)) = W16 at *
        clear hW_ BZ KZ b1 b2 b3 b4 b5 b6 Lsa Rsa
        clear xt0 yt0 zt0 Lt0 Rt0 xt1 yt1 zt1 Lt1 Rt1
        have h := HH.out
        clear HH
        obtain ⟨⟨sb1, sb2, sb3, sb4⟩, h_, h2_⟩ := Option.bind_eq_some_iff.1 h; clear h; have h := h2_; clear h2_
        have E17 := Aside0.mk h_
        clear h_
        try dsimp only at h
        have HH := Aside0.mk h
        clear h
        obtain ⟨At0, ct0, k_, l_, r_⟩ := S.out.get (g := g_lb) (a := lb1) (b := lb2) (l := lb3) (.tail _ (.tail _ (.tail _ (.head _)))); obtain ⟨xt0, yt0, zt0, _, _, _⟩ := cell3 k_; have Lt0 := Aside0.mk l_; have Rt0 := Aside0.mk r_; clear k_ l_ r_
        obtain ⟨At1, ct1, k_, l_, r_⟩ := S.out.get (g := g_mb) (a := mb1) (b := mb2) (l := mb3) (.tail _ (.head _)); obtain ⟨xt1, yt1, zt1, _, _, _⟩ := cell3 k_; have Lt1 := Aside0.mk l_; have Rt1 := Aside0.mk r_; clear k_ l_ r_
        go_upto_region 24 with (first | (go_at_call 12; (refine (grid_Times.calls k lb1 lb2 At0 ct0 lb3 mb1 mb2 At1 ct1 mb3 _ _ _ _ _ Rt0.out Lt0.out Rt1.out Lt1.out E17.out).mono ?_); rintro e wc_ ⟨v_, rfl, ho_, hb_⟩; replace S := Aside0.mk (S.out.below hb_); obtain ⟨Asb, csb, e_⟩ := Kd.R_slice ho_; (have e1_ : v_ = .slice Asb sb3.length csb := e_); clear e_; subst e1_; have Rsb := Aside0.mk (Kd.R_reads' ho_).2.2; have Lsb := Aside0.mk (Kd.R_reads' ho_).2.1; clear ho_ hb_) | ((with_reducible refine gate_dst (N := 43) rfl ?_); refine box_event ?hg (N := 43) ?hd (cs := #[.int .i64 0, .int .i64 0, .slice none 0 0]) (t := 24) ?hr ?_; (case hd => rfl); (case hg => rfl); (case hr => first | (go_simp; done) | (go_simp; rfl)); intro g_sb hg_ wb_ hbox_ hbb_; have BZ := Aside0.mk (fun u v x => below3 (u := u) (v := v) (x := x) hbb_ (Nat.le_of_eq hg_.symm)); have KZ := Aside0.mk (fun u v x => put3 (u := u) (v := v) (x := x) hbox_); obtain ⟨b1, b2, b3, b4, b5, b6⟩ := cell3 hbox_; clear hg_ hbox_ hbb_))
        replace S := Aside0.mk (S.out.box (BZ.out (.int .i64 sb1) (.int .i64 sb2) (.slice Asb sb3.length csb)) (KZ.out (.int .i64 sb1) (.int .i64 sb2) (.slice Asb sb3.length csb)) Lsb.out Rsb.out)
        generalize hW_ : (((wb_.setCell ⟨g_sb, 0, none⟩ (.int .i64 sb1)).setCell ⟨g_sb, 1, none⟩ (.int .i64 sb2)).setCell ⟨g_sb, 2, none⟩ (.slice Asb sb3.length csb)) = W17 at *
        clear hW_ BZ KZ b1 b2 b3 b4 b5 b6 Lsb Rsb
        clear xt0 yt0 zt0 Lt0 Rt0 xt1 yt1 zt1 Lt1 Rt1
        have h := HH.out
        clear HH
        obtain ⟨⟨z1, z2, z3, z4⟩, h_, h2_⟩ := Option.bind_eq_some_iff.1 h; clear h; have h := h2_; clear h2_
        have E18 := Aside0.mk h_
        clear h_
        try dsimp only at h
        have HH := Aside0.mk h
        clear h
        obtain ⟨At0, ct0, k_, l_, r_⟩ := S.out.get (g := g_sa) (a := sa1) (b := sa2) (l := sa3) (.tail _ (.head _)); obtain ⟨xt0, yt0, zt0, _, _, _⟩ := cell3 k_; have Lt0 := Aside0.mk l_; have Rt0 := Aside0.mk r_; clear k_ l_ r_
        obtain ⟨At1, ct1, k_, l_, r_⟩ := S.out.get (g := g_sb) (a := sb1) (b := sb2) (l := sb3) (.head _); obtain ⟨xt1, yt1, zt1, _, _, _⟩ := cell3 k_; have Lt1 := Aside0.mk l_; have Rt1 := Aside0.mk r_; clear k_ l_ r_
        go_upto_region 25 with (first | ((with_reducible refine gate_dst (N := 187) rfl ?_); refine Kd.N_lit k24 _ 24 ?hg (N' := 187) ?hd (xs := ([(⟨sa1, sa2, sa3⟩ : S24), (⟨sb1, sb2, sb3⟩ : S24)] : List S24)) (inner := [.int .i64 sa1, .int .i64 sa2, .slice At0 sa3.length ct0, .int .i64 sb1, .int .i64 sb2, .slice At1 sb3.length ct1]) (ok := fun _ => True) (okp := fun _ => True) ?hr ?hp (fun _ hk => hk) trivial (Below.refl _ _) (Nat.le_refl _) (by simp) ?_; (case hd => rfl); (case hg => rfl); (case hr => first | exact bld_ 3 (.agg #[.int .i64 0, .int .i64 0, .slice none 0 0]) rfl rfl (by simp only [Act.eval, Array.getD_eq_getD_getElem?, List.map_toArray, List.map_cons, List.map_nil, List.getElem?_toArray, List.getElem?_cons_succ, List.getElem?_cons_zero, Option.getD_some]; kernel_rfl) | (go_simp; done) | (go_simp; rfl)); (case hp => exact (Reps.c3 (fk24 (⟨sa1, sa2, sa3⟩ : S24) Lt0.out Rt0.out) (Reps.c3 (fk24 (⟨sb1, sb2, sb3⟩ : S24) Lt1.out Rt1.out) (Reps.none _ _)))); intro v_ w_ ho_ hb_ hg_ hnew_; clear hg_ hnew_; replace S := Aside0.mk (S.out.below hb_); have HOz := Aside0.mk ho_; clear ho_ hb_; obtain ⟨AoHOz, coHOz, eo_⟩ := Kd.N_slice HOz.out; subst eo_) | (go_at_call 21; (refine (grid_Add.calls k _ _ [(⟨sa1, sa2, sa3⟩ : S24), (⟨sb1, sb2, sb3⟩ : S24)] _ _ _ _ _ (Kd.N_reads' HOz.out).2.2 (Kd.N_reads' HOz.out).2.1 E18.out).mono ?_); rintro e wc_ ⟨v_, rfl, ho_, hb_⟩; replace S := Aside0.mk (S.out.below hb_); obtain ⟨Az, cz, e_⟩ := Kd.R_slice ho_; (have e1_ : v_ = .slice Az z3.length cz := e_); clear e_; subst e1_; have Rz := Aside0.mk (Kd.R_reads' ho_).2.2; have Lz := Aside0.mk (Kd.R_reads' ho_).2.1; clear ho_ hb_) | ((with_reducible refine gate_dst (N := 45) rfl ?_); refine box_event ?hg (N := 45) ?hd (cs := #[.int .i64 0, .int .i64 0, .slice none 0 0]) (t := 24) ?hr ?_; (case hd => rfl); (case hg => rfl); (case hr => first | (go_simp; done) | (go_simp; rfl)); intro g_z hg_ wb_ hbox_ hbb_; have BZ := Aside0.mk (fun u v x => below3 (u := u) (v := v) (x := x) hbb_ (Nat.le_of_eq hg_.symm)); have KZ := Aside0.mk (fun u v x => put3 (u := u) (v := v) (x := x) hbox_); obtain ⟨b1, b2, b3, b4, b5, b6⟩ := cell3 hbox_; clear hg_ hbox_ hbb_))
        replace S := Aside0.mk (S.out.box (BZ.out (.int .i64 z1) (.int .i64 z2) (.slice Az z3.length cz)) (KZ.out (.int .i64 z1) (.int .i64 z2) (.slice Az z3.length cz)) Lz.out Rz.out)
        generalize hW_ : (((wb_.setCell ⟨g_z, 0, none⟩ (.int .i64 z1)).setCell ⟨g_z, 1, none⟩ (.int .i64 z2)).setCell ⟨g_z, 2, none⟩ (.slice Az z3.length cz)) = W18 at *
        clear hW_ BZ KZ b1 b2 b3 b4 b5 b6 Lz Rz
        clear xt0 yt0 zt0 Lt0 Rt0 xt1 yt1 zt1 Lt1 Rt1 HOz
        have h := HH.out
        clear HH
        obtain ⟨t1, h_, h2_⟩ := Option.bind_eq_some_iff.1 h; clear h; have h := h2_; clear h2_
        have E19 := Aside0.mk h_
        clear h_
        try dsimp only at h
        cases t1 with
        | false => cases h
        | true =>
          rw [if_pos rfl] at h
          obtain ⟨t2, h_, h2_⟩ := Option.bind_eq_some_iff.1 h; clear h; have h := h2_; clear h2_
          have E20 := Aside0.mk h_
          clear h_
          try dsimp only at h
          cases t2 with
          | false => cases h
          | true =>
            rw [if_pos rfl] at h
            obtain ⟨t3, h_, h2_⟩ := Option.bind_eq_some_iff.1 h; clear h; have h := h2_; clear h2_
            have E21 := Aside0.mk h_
            clear h_
            try dsimp only at h
            obtain rfl := Option.some.inj h
            clear h
            obtain ⟨At0, ct0, k_, l_, r_⟩ := S.out.get (g := g_x) (a := x1) (b := x2) (l := x3) (.tail _ (.tail _ (.tail _ (.tail _ (.tail _ (.tail _ (.tail _ (.tail _ (.tail _ (.tail _ (.tail _ (.tail _ (.head _))))))))))))); obtain ⟨xt0, yt0, zt0, _, _, _⟩ := cell3 k_; have Lt0 := Aside0.mk l_; have Rt0 := Aside0.mk r_; clear k_ l_ r_
            obtain ⟨At1, ct1, k_, l_, r_⟩ := S.out.get (g := g_u) (a := u1) (b := u2) (l := u3) (.tail _ (.tail _ (.tail _ (.tail _ (.tail _ (.tail _ (.tail _ (.tail _ (.tail _ (.tail _ (.tail _ (.tail _ (.tail _ (.tail _ (.tail _ (.tail _ (.tail _ (.head _)))))))))))))))))); obtain ⟨xt1, yt1, zt1, _, _, _⟩ := cell3 k_; have Lt1 := Aside0.mk l_; have Rt1 := Aside0.mk r_; clear k_ l_ r_
            go_wp2_with (first | (go_at_call 14; (refine (pelotonlaw03_held.calls k x1 x2 At0 ct0 x3 x4 u1 u2 At1 ct1 u3 true true _ Rt0.out Lt0.out Rt1.out Lt1.out E19.out).mono ?_); rintro e wh_ ⟨rfl, hb_⟩; replace S := Aside0.mk (S.out.below hb_); clear hb_ E19; obtain ⟨At2, ct2, k_, l_, r_⟩ := S.out.get (g := g_y) (a := y1) (b := y2) (l := y3) (.tail _ (.tail _ (.tail _ (.tail _ (.tail _ (.tail _ (.tail _ (.head _)))))))); obtain ⟨xt2, yt2, zt2, _, _, _⟩ := cell3 k_; have Lt2 := Aside0.mk l_; have Rt2 := Aside0.mk r_; clear k_ l_ r_; obtain ⟨At3, ct3, k_, l_, r_⟩ := S.out.get (g := g_u) (a := u1) (b := u2) (l := u3) (.tail _ (.tail _ (.tail _ (.tail _ (.tail _ (.tail _ (.tail _ (.tail _ (.tail _ (.tail _ (.tail _ (.tail _ (.tail _ (.tail _ (.tail _ (.tail _ (.tail _ (.head _)))))))))))))))))); obtain ⟨xt3, yt3, zt3, _, _, _⟩ := cell3 k_; have Lt3 := Aside0.mk l_; have Rt3 := Aside0.mk r_; clear k_ l_ r_) | (go_at_call 14; (refine (pelotonlaw03_held.calls k y1 y2 At2 ct2 y3 y4 u1 u2 At3 ct3 u3 true true _ Rt2.out Lt2.out Rt3.out Lt3.out E20.out).mono ?_); rintro e wh_ ⟨rfl, hb_⟩; replace S := Aside0.mk (S.out.below hb_); clear hb_ E20; obtain ⟨At4, ct4, k_, l_, r_⟩ := S.out.get (g := g_z) (a := z1) (b := z2) (l := z3) (.head _); obtain ⟨xt4, yt4, zt4, _, _, _⟩ := cell3 k_; have Lt4 := Aside0.mk l_; have Rt4 := Aside0.mk r_; clear k_ l_ r_; obtain ⟨At5, ct5, k_, l_, r_⟩ := S.out.get (g := g_u) (a := u1) (b := u2) (l := u3) (.tail _ (.tail _ (.tail _ (.tail _ (.tail _ (.tail _ (.tail _ (.tail _ (.tail _ (.tail _ (.tail _ (.tail _ (.tail _ (.tail _ (.tail _ (.tail _ (.tail _ (.head _)))))))))))))))))); obtain ⟨xt5, yt5, zt5, _, _, _⟩ := cell3 k_; have Lt5 := Aside0.mk l_; have Rt5 := Aside0.mk r_; clear k_ l_ r_) | (go_at_call 14; (refine (pelotonlaw03_held.calls k z1 z2 At4 ct4 z3 z4 u1 u2 At5 ct5 u3 true _ _ Rt4.out Lt4.out Rt5.out Lt5.out E21.out).mono ?_); rintro e wh_ ⟨rfl, hb_⟩; replace S := Aside0.mk (S.out.below hb_); clear hb_ E21))
            go_ret
            exact ⟨rfl, S.out.1⟩
      · rw [if_neg c0] at h; cases h
    · rw [if_neg c1] at h
      obtain rfl : true = r := Option.some.inj h
      clear h
      have c4 : (u4 != 0) = true := bne_iff_ne.2 c1
      have c5 : decide (u4 = 0) = false := decide_eq_false c1
      go_wp2
      go_ret
      exact ⟨rfl, S.out.1⟩
/-- THE ONE PURE STATEMENT of pelotonlaw03_GridParts. -/
def pelotonlaw03_GridParts.Pure : Prop := ∀ (a0_0 : Int) (a0_1 : Int) (l0_2 : List Int) (a1_0 : Int) (a1_1 : Int) (l1_2 : List Int) (a2 : Int), ((Lit.int .i64 a0_0).wf = true ∧ (Lit.int .i64 a0_1).wf = true ∧ l0_2.length ≤ maxLen ∧ ∀ y0 ∈ l0_2, (Lit.int .i32 y0).wf = true) → ((Lit.int .i64 a1_0).wf = true ∧ (Lit.int .i64 a1_1).wf = true ∧ l1_2.length ≤ maxLen ∧ ∀ y0 ∈ l1_2, (Lit.int .i32 y0).wf = true) → ((Lit.int .i64 a2).wf = true) → ∃ k, pelotonlaw03_GridParts.f k a0_0 a0_1 l0_2 a1_0 a1_1 l1_2 a2 = some true
end Go.Proofs.Ytggcgacndknlaaa.QGridParts
