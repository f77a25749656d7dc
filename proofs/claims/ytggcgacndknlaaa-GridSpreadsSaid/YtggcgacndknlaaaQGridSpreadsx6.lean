-- Written by a program of this session (a turned copy of the print) out of the translation. Lean checks it.
import Derived.Test.YtggcgacndknlaaaQGridSpreadsx0
import Derived.Test.YtggcgacndknlaaaQGridSpreadsx1
import Derived.Test.YtggcgacndknlaaaQGridSpreadsx2
import Derived.Test.YtggcgacndknlaaaQGridSpreadsx4
import Derived.Test.YtggcgacndknlaaaQGridSpreadsx5
namespace Go.Proofs.Ytggcgacndknlaaa.QGridSpreads
open Go.RowKit Go.Proofs.YtggcgacndknlaaaW.PrintWords Go.Proofs.YtggcgacndknlaaaW.PrintLast Go.Proofs.YtggcgacndknlaaaW.PrintMore
attribute [local go_sem] max2_int min2_int max_two min_two max_three min_three max_four min_four   -- for this text's walks alone
open Go.Proofs.YtggcgacndknlaaaW.PrintWords renaming below_alloc → b_a, pw_below_drewN → b_n, below_drew1 → b_d, below_set → b_s, blk_drewN → k_n, blk_drew → k_d, blk_alloc → k_a
open List renaming setIfInBounds_toArray → l_1, set_cons_zero → l_2, set_cons_succ → l_3, map_toArray → l_4, map_cons → l_5, map_nil → l_6, length_drop → l_7, length_take → l_8
set_option linter.unusedVariables false
set_option linter.unusedSimpArgs false

/-! ### pelotonlaw03_GridSpreads: function 5, by hand -/
/-! the grids of a law that runs straight on: each in its block, none written again -/
def St (w W : World) (L : List (Nat × S24)) : Prop :=
  Below w.heap.size w W ∧ ∀ p ∈ L, ∃ (A : Option Addr) (c : Nat), W.heap[p.1]? = some (.cells #[.int .i64 p.2.f0, .int .i64 p.2.f1, .slice A p.2.f2.length c] 24 (0, 0)) ∧ p.2.f2.length ≤ c ∧ Kd.C (Kd.int .i32) W A p.2.f2.length p.2.f2
theorem St.none (w : World) : St w w [] := ⟨Below.refl _ _, fun _ h => by cases h⟩
theorem St.below {w W W' : World} {L : List (Nat × S24)} (h : St w W L) (hb : Below W.heap.size W W') : St w W' L :=
  ⟨below_step h.1 hb, fun p hp => by
    obtain ⟨A, c, h1, h2, h3⟩ := h.2 p hp
    exact ⟨A, c, blk_below h1 hb, h2, Kd.C_below h3 hb⟩⟩
theorem St.get {w W : World} {L : List (Nat × S24)} {g : Nat} {a b : Int} {l : List Int} (h : St w W L) (m : (g, (⟨a, b, l⟩ : S24)) ∈ L) :
    ∃ (A : Option Addr) (c : Nat), W.heap[g]? = some (.cells #[.int .i64 a, .int .i64 b, .slice A l.length c] 24 (0, 0)) ∧ l.length ≤ c ∧ Kd.C (Kd.int .i32) W A l.length l := h.2 _ m
/-- a grid in a new block -/
theorem St.box {w W W' : World} {L : List (Nat × S24)} {g : Nat} {a b : Int} {l : List Int} {A : Option Addr} {c : Nat} (h : St w W L) (hb : Below W.heap.size W W') (hbox : W'.heap[g]? = some (.cells #[.int .i64 a, .int .i64 b, .slice A l.length c] 24 (0, 0))) (hc : l.length ≤ c) (hC : Kd.C (Kd.int .i32) W A l.length l) : St w W' ((g, ⟨a, b, l⟩) :: L) :=
  ⟨below_step h.1 hb, fun p hp => by
    rcases List.mem_cons.1 hp with rfl | hp
    · exact ⟨A, c, hbox, hc, Kd.C_below hC hb⟩
    · exact (h.below hb).2 p hp⟩
def pelotonlaw03_GridSpreads.f (k : Nat) (a0_0 a0_1 : Int) (l0_2 : List Int) (a1_0 a1_1 : Int) (l1_2 : List Int) (a2_0 a2_1 : Int) (l2_2 : List Int) : Option Bool :=
  (pelotonlaw03_small.f k [(⟨a0_0, a0_1, l0_2⟩ : S24), ⟨a1_0, a1_1, l1_2⟩, ⟨a2_0, a2_1, l2_2⟩]).bind fun t => if t = true then
  (grid_Add.f k [(⟨a1_0, a1_1, l1_2⟩ : S24), ⟨a2_0, a2_1, l2_2⟩]).bind fun s => (grid_Times.f k a0_0 a0_1 l0_2 s.1 s.2.1 s.2.2.1).bind fun x => if s.2.2.2 = 0 ∧ x.2.2.2 = 0 then
  (grid_Times.f k a0_0 a0_1 l0_2 a1_0 a1_1 l1_2).bind fun p => (grid_Times.f k a0_0 a0_1 l0_2 a2_0 a2_1 l2_2).bind fun q => (grid_Add.f k [(⟨p.1, p.2.1, p.2.2.1⟩ : S24), ⟨q.1, q.2.1, q.2.2.1⟩]).bind fun y =>
  (grid_Turn.f k a0_0 a0_1 l0_2).bind fun u => (grid_Turn.f k a1_0 a1_1 l1_2).bind fun v => (grid_Times.f k v.1 v.2.1 v.2.2.1 u.1 u.2.1 u.2.2.1).bind fun o => (grid_Turn.f k p.1 p.2.1 p.2.2.1).bind fun z =>
  (pelotonlaw03_held.f k y.1 y.2.1 y.2.2.1 y.2.2.2 x.1 x.2.1 x.2.2.1 true).bind fun t1 => if t1 = true ∧ o.2.2.2 = 0 then (pelotonlaw03_held.f k z.1 z.2.1 z.2.2.1 z.2.2.2 o.1 o.2.1 o.2.2.1 true).bind fun t2 => some t2 else none
  else some true else some true
set_option maxHeartbeats 8000000 in
set_option maxRecDepth 100000 in
theorem pelotonlaw03_GridSpreads.calls (k : Nat) (a0_0 : Int) (a0_1 : Int) (A0_2 : Option Addr) (c0_2 : Nat) (l0_2 : List Int) (a1_0 : Int) (a1_1 : Int) (A1_2 : Option Addr) (c1_2 : Nat) (l1_2 : List Int) (a2_0 : Int) (a2_1 : Int) (A2_2 : Option Addr) (c2_2 : Nat) (l2_2 : List Int) (r : Bool) (w : World) (hr0_2 : Kd.C (Kd.int .i32) w A0_2 l0_2.length l0_2) (hc0_2 : l0_2.length ≤ c0_2) (hr1_2 : Kd.C (Kd.int .i32) w A1_2 l1_2.length l1_2) (hc1_2 : l1_2.length ≤ c1_2) (hr2_2 : Kd.C (Kd.int .i32) w A2_2 l2_2.length l2_2) (hc2_2 : l2_2.length ≤ c2_2) (h : pelotonlaw03_GridSpreads.f k a0_0 a0_1 l0_2 a1_0 a1_1 l1_2 a2_0 a2_1 l2_2 = some r) :
    Calls Try.prog 5 #[.agg #[.int .i64 a0_0, .int .i64 a0_1, .slice A0_2 l0_2.length c0_2], .agg #[.int .i64 a1_0, .int .i64 a1_1, .slice A1_2 l1_2.length c1_2], .agg #[.int .i64 a2_0, .int .i64 a2_1, .slice A2_2 l2_2.length c2_2]] w fun e w' => e = .returned (.bool r) ∧ Below w.heap.size w w' := by
  have hu24 := Try.underlying24
  have HR0 := Aside0.mk hr0_2
  have HC0 := Aside0.mk hc0_2
  clear hr0_2 hc0_2
  have HR1 := Aside0.mk hr1_2
  have HC1 := Aside0.mk hc1_2
  clear hr1_2 hc1_2
  have HR2 := Aside0.mk hr2_2
  have HC2 := Aside0.mk hc2_2
  clear hr2_2 hc2_2
  unfold pelotonlaw03_GridSpreads.f at h
  have HH := Aside0.mk h
  clear h
  have S := Aside0.mk (St.none w)
  go_enter Try.func5, Try.ntmps5
  go_upto_region 1 with (first | ((with_reducible refine gate_dst (N := 3) rfl ?_); refine box_event ?hg (N := 3) ?hd (cs := #[.int .i64 a0_0, .int .i64 a0_1, .slice A0_2 l0_2.length c0_2]) (t := 24) ?hr ?_; (case hd => rfl); (case hg => rfl); (case hr => first | (go_simp; done) | (go_simp; rfl)); intro g_a hg_ wb_ hbox_ hb_; replace S := Aside0.mk (S.out.box hb_ hbox_ HC0.out (Kd.C_below HR0.out S.out.1)); clear hg_ hbox_ hb_) | ((with_reducible refine gate_dst (N := 4) rfl ?_); refine box_event ?hg (N := 4) ?hd (cs := #[.int .i64 a1_0, .int .i64 a1_1, .slice A1_2 l1_2.length c1_2]) (t := 24) ?hr ?_; (case hd => rfl); (case hg => rfl); (case hr => first | (go_simp; done) | (go_simp; rfl)); intro g_b hg_ wb_ hbox_ hb_; replace S := Aside0.mk (S.out.box hb_ hbox_ HC1.out (Kd.C_below HR1.out S.out.1)); clear hg_ hbox_ hb_) | ((with_reducible refine gate_dst (N := 5) rfl ?_); refine box_event ?hg (N := 5) ?hd (cs := #[.int .i64 a2_0, .int .i64 a2_1, .slice A2_2 l2_2.length c2_2]) (t := 24) ?hr ?_; (case hd => rfl); (case hg => rfl); (case hr => first | (go_simp; done) | (go_simp; rfl)); intro g_c hg_ wb_ hbox_ hb_; replace S := Aside0.mk (S.out.box hb_ hbox_ HC2.out (Kd.C_below HR2.out S.out.1)); clear hg_ hbox_ hb_))
  have h := HH.out
  clear HH
  obtain ⟨t, h_, h2_⟩ := Option.bind_eq_some_iff.1 h; clear h; have h := h2_; clear h2_
  have E0 := Aside0.mk h_
  clear h_
  try dsimp only at h
  cases t with
  | false =>
    obtain rfl : true = r := Option.some.inj h
    clear h
    go_wp2_with (first | (go_at_call 10; (refine (pelotonlaw03_awake.calls true _ rfl).mono ?_); rintro e wa_ ⟨rfl, hb_⟩; replace S := Aside0.mk (S.out.below hb_); clear hb_; obtain ⟨At0, ct0, k_, l_, r_⟩ := S.out.get (g := g_a) (a := a0_0) (b := a0_1) (l := l0_2) (.tail _ (.tail _ (.head _))); obtain ⟨xt0, yt0, zt0, _, _, _⟩ := cell3 k_; have Lt0 := Aside0.mk l_; have Rt0 := Aside0.mk r_; clear k_ l_ r_; obtain ⟨At1, ct1, k_, l_, r_⟩ := S.out.get (g := g_b) (a := a1_0) (b := a1_1) (l := l1_2) (.tail _ (.head _)); obtain ⟨xt1, yt1, zt1, _, _, _⟩ := cell3 k_; have Lt1 := Aside0.mk l_; have Rt1 := Aside0.mk r_; clear k_ l_ r_; obtain ⟨At2, ct2, k_, l_, r_⟩ := S.out.get (g := g_c) (a := a2_0) (b := a2_1) (l := l2_2) (.head _); obtain ⟨xt2, yt2, zt2, _, _, _⟩ := cell3 k_; have Lt2 := Aside0.mk l_; have Rt2 := Aside0.mk r_; clear k_ l_ r_) | ((with_reducible refine gate_dst (N := 31) rfl ?_); (try (refine gate_guard (by rfl) ?_; dsimp only)); refine Kd.N_lit k24 _ 24 ?hg (N' := 31) ?hd (xs := ([(⟨a0_0, a0_1, l0_2⟩ : S24), (⟨a1_0, a1_1, l1_2⟩ : S24), (⟨a2_0, a2_1, l2_2⟩ : S24)] : List S24)) (inner := [.int .i64 a0_0, .int .i64 a0_1, .slice At0 l0_2.length ct0, .int .i64 a1_0, .int .i64 a1_1, .slice At1 l1_2.length ct1, .int .i64 a2_0, .int .i64 a2_1, .slice At2 l2_2.length ct2]) (ok := fun _ => True) (okp := fun _ => True) ?hr ?hp (fun _ hk => hk) trivial (Below.refl _ _) (Nat.le_refl _) (by simp) ?_; (case hd => rfl); (case hg => rfl); (case hr => first | exact bld_ 3 (.agg #[.int .i64 0, .int .i64 0, .slice none 0 0]) rfl rfl (by simp only [Act.eval, Array.getD_eq_getD_getElem?, List.map_toArray, List.map_cons, List.map_nil, List.getElem?_toArray, List.getElem?_cons_succ, List.getElem?_cons_zero, Option.getD_some]; kernel_rfl) | (go_simp; done) | (go_simp; rfl)); (case hp => exact (Reps.c3 (fk24 (⟨a0_0, a0_1, l0_2⟩ : S24) Lt0.out Rt0.out) (Reps.c3 (fk24 (⟨a1_0, a1_1, l1_2⟩ : S24) Lt1.out Rt1.out) (Reps.c3 (fk24 (⟨a2_0, a2_1, l2_2⟩ : S24) Lt2.out Rt2.out) (Reps.none _ _))))); intro v_ w_ ho_ hb_ hg_ hnew_; clear hg_ hnew_; replace S := Aside0.mk (S.out.below hb_); have HO1 := Aside0.mk ho_; clear ho_ hb_; obtain ⟨AoHO1, coHO1, eo_⟩ := Kd.N_slice HO1.out; subst eo_) | (go_at_call 11; (refine (pelotonlaw03_small.calls k _ _ [(⟨a0_0, a0_1, l0_2⟩ : S24), (⟨a1_0, a1_1, l1_2⟩ : S24), (⟨a2_0, a2_1, l2_2⟩ : S24)] _ _ ?sa ?sb E0.out).mono ?_); (case sa => exact (Kd.N_reads' HO1.out).2.2); (case sb => exact (Kd.N_reads' HO1.out).2.1); rintro e ws_ ⟨rfl, hd_⟩; replace S := Aside0.mk (S.out.below hd_.below); clear hd_))
    go_ret
    exact ⟨rfl, S.out.1⟩
  | true =>
    rw [if_pos rfl] at h
    have HH := Aside0.mk h
    clear h
    go_upto_region 3 with (first | (go_at_call 10; (refine (pelotonlaw03_awake.calls true _ rfl).mono ?_); rintro e wa_ ⟨rfl, hb_⟩; replace S := Aside0.mk (S.out.below hb_); clear hb_; obtain ⟨At0, ct0, k_, l_, r_⟩ := S.out.get (g := g_a) (a := a0_0) (b := a0_1) (l := l0_2) (.tail _ (.tail _ (.head _))); obtain ⟨xt0, yt0, zt0, _, _, _⟩ := cell3 k_; have Lt0 := Aside0.mk l_; have Rt0 := Aside0.mk r_; clear k_ l_ r_; obtain ⟨At1, ct1, k_, l_, r_⟩ := S.out.get (g := g_b) (a := a1_0) (b := a1_1) (l := l1_2) (.tail _ (.head _)); obtain ⟨xt1, yt1, zt1, _, _, _⟩ := cell3 k_; have Lt1 := Aside0.mk l_; have Rt1 := Aside0.mk r_; clear k_ l_ r_; obtain ⟨At2, ct2, k_, l_, r_⟩ := S.out.get (g := g_c) (a := a2_0) (b := a2_1) (l := l2_2) (.head _); obtain ⟨xt2, yt2, zt2, _, _, _⟩ := cell3 k_; have Lt2 := Aside0.mk l_; have Rt2 := Aside0.mk r_; clear k_ l_ r_) | ((with_reducible refine gate_dst (N := 31) rfl ?_); (try (refine gate_guard (by rfl) ?_; dsimp only)); refine Kd.N_lit k24 _ 24 ?hg (N' := 31) ?hd (xs := ([(⟨a0_0, a0_1, l0_2⟩ : S24), (⟨a1_0, a1_1, l1_2⟩ : S24), (⟨a2_0, a2_1, l2_2⟩ : S24)] : List S24)) (inner := [.int .i64 a0_0, .int .i64 a0_1, .slice At0 l0_2.length ct0, .int .i64 a1_0, .int .i64 a1_1, .slice At1 l1_2.length ct1, .int .i64 a2_0, .int .i64 a2_1, .slice At2 l2_2.length ct2]) (ok := fun _ => True) (okp := fun _ => True) ?hr ?hp (fun _ hk => hk) trivial (Below.refl _ _) (Nat.le_refl _) (by simp) ?_; (case hd => rfl); (case hg => rfl); (case hr => first | exact bld_ 3 (.agg #[.int .i64 0, .int .i64 0, .slice none 0 0]) rfl rfl (by simp only [Act.eval, Array.getD_eq_getD_getElem?, List.map_toArray, List.map_cons, List.map_nil, List.getElem?_toArray, List.getElem?_cons_succ, List.getElem?_cons_zero, Option.getD_some]; kernel_rfl) | (go_simp; done) | (go_simp; rfl)); (case hp => exact (Reps.c3 (fk24 (⟨a0_0, a0_1, l0_2⟩ : S24) Lt0.out Rt0.out) (Reps.c3 (fk24 (⟨a1_0, a1_1, l1_2⟩ : S24) Lt1.out Rt1.out) (Reps.c3 (fk24 (⟨a2_0, a2_1, l2_2⟩ : S24) Lt2.out Rt2.out) (Reps.none _ _))))); intro v_ w_ ho_ hb_ hg_ hnew_; clear hg_ hnew_; replace S := Aside0.mk (S.out.below hb_); have HO1 := Aside0.mk ho_; clear ho_ hb_; obtain ⟨AoHO1, coHO1, eo_⟩ := Kd.N_slice HO1.out; subst eo_) | (go_at_call 11; (refine (pelotonlaw03_small.calls k _ _ [(⟨a0_0, a0_1, l0_2⟩ : S24), (⟨a1_0, a1_1, l1_2⟩ : S24), (⟨a2_0, a2_1, l2_2⟩ : S24)] _ _ ?sa ?sb E0.out).mono ?_); (case sa => exact (Kd.N_reads' HO1.out).2.2); (case sb => exact (Kd.N_reads' HO1.out).2.1); rintro e ws_ ⟨rfl, hd_⟩; replace S := Aside0.mk (S.out.below hd_.below); clear hd_))
    clear xt0 yt0 zt0 Lt0 Rt0 xt1 yt1 zt1 Lt1 Rt1 xt2 yt2 zt2 Lt2 Rt2 HO1
    have h := HH.out
    clear HH
    obtain ⟨⟨s1, s2, s3, s4⟩, h_, h2_⟩ := Option.bind_eq_some_iff.1 h; clear h; have h := h2_; clear h2_
    have E1 := Aside0.mk h_
    clear h_
    try dsimp only at h
    have HH := Aside0.mk h
    clear h
    obtain ⟨At0, ct0, k_, l_, r_⟩ := S.out.get (g := g_b) (a := a1_0) (b := a1_1) (l := l1_2) (.tail _ (.head _)); obtain ⟨xt0, yt0, zt0, _, _, _⟩ := cell3 k_; have Lt0 := Aside0.mk l_; have Rt0 := Aside0.mk r_; clear k_ l_ r_
    obtain ⟨At1, ct1, k_, l_, r_⟩ := S.out.get (g := g_c) (a := a2_0) (b := a2_1) (l := l2_2) (.head _); obtain ⟨xt1, yt1, zt1, _, _, _⟩ := cell3 k_; have Lt1 := Aside0.mk l_; have Rt1 := Aside0.mk r_; clear k_ l_ r_
    go_upto_region 4 with (first | ((with_reducible refine gate_dst (N := 39) rfl ?_); refine Kd.N_lit k24 _ 24 ?hg (N' := 39) ?hd (xs := ([(⟨a1_0, a1_1, l1_2⟩ : S24), (⟨a2_0, a2_1, l2_2⟩ : S24)] : List S24)) (inner := [.int .i64 a1_0, .int .i64 a1_1, .slice At0 l1_2.length ct0, .int .i64 a2_0, .int .i64 a2_1, .slice At1 l2_2.length ct1]) (ok := fun _ => True) (okp := fun _ => True) ?hr ?hp (fun _ hk => hk) trivial (Below.refl _ _) (Nat.le_refl _) (by simp) ?_; (case hd => rfl); (case hg => rfl); (case hr => first | exact bld_ 3 (.agg #[.int .i64 0, .int .i64 0, .slice none 0 0]) rfl rfl (by simp only [Act.eval, Array.getD_eq_getD_getElem?, List.map_toArray, List.map_cons, List.map_nil, List.getElem?_toArray, List.getElem?_cons_succ, List.getElem?_cons_zero, Option.getD_some]; kernel_rfl) | (go_simp; done) | (go_simp; rfl)); (case hp => exact (Reps.c3 (fk24 (⟨a1_0, a1_1, l1_2⟩ : S24) Lt0.out Rt0.out) (Reps.c3 (fk24 (⟨a2_0, a2_1, l2_2⟩ : S24) Lt1.out Rt1.out) (Reps.none _ _)))); intro v_ w_ ho_ hb_ hg_ hnew_; clear hg_ hnew_; replace S := Aside0.mk (S.out.below hb_); have HOs := Aside0.mk ho_; clear ho_ hb_; obtain ⟨AoHOs, coHOs, eo_⟩ := Kd.N_slice HOs.out; subst eo_) | (go_at_call 21; (refine (grid_Add.calls k _ _ [(⟨a1_0, a1_1, l1_2⟩ : S24), (⟨a2_0, a2_1, l2_2⟩ : S24)] _ _ _ _ _ (Kd.N_reads' HOs.out).2.2 (Kd.N_reads' HOs.out).2.1 E1.out).mono ?_); rintro e wc_ ⟨v_, rfl, ho_, hb_⟩; replace S := Aside0.mk (S.out.below hb_); obtain ⟨As, cs, e_⟩ := Kd.R_slice ho_; (have e1_ : v_ = .slice As s3.length cs := e_); clear e_; subst e1_; have Rs := Aside0.mk (Kd.R_reads' ho_).2.2; have Ls := Aside0.mk (Kd.R_reads' ho_).2.1; clear ho_ hb_) | ((with_reducible refine gate_dst (N := 7) rfl ?_); refine box_event ?hg (N := 7) ?hd (cs := #[.int .i64 0, .int .i64 0, .slice none 0 0]) (t := 24) ?hr ?_; (case hd => rfl); (case hg => rfl); (case hr => first | (go_simp; done) | (go_simp; rfl)); intro g_s hg_ wb_ hbox_ hbb_; have BZ := Aside0.mk (fun u v x => below3 (u := u) (v := v) (x := x) hbb_ (Nat.le_of_eq hg_.symm)); have KZ := Aside0.mk (fun u v x => put3 (u := u) (v := v) (x := x) hbox_); obtain ⟨b1, b2, b3, b4, b5, b6⟩ := cell3 hbox_; clear hg_ hbox_ hbb_))
    replace S := Aside0.mk (S.out.box (BZ.out (.int .i64 s1) (.int .i64 s2) (.slice As s3.length cs)) (KZ.out (.int .i64 s1) (.int .i64 s2) (.slice As s3.length cs)) Ls.out Rs.out)
    generalize hW_ : (((wb_.setCell ⟨g_s, 0, none⟩ (.int .i64 s1)).setCell ⟨g_s, 1, none⟩ (.int .i64 s2)).setCell ⟨g_s, 2, none⟩ (.slice As s3.length cs)) = W1 at *
    clear hW_ BZ KZ b1 b2 b3 b4 b5 b6 Ls Rs
    clear xt0 yt0 zt0 Lt0 Rt0 xt1 yt1 zt1 Lt1 Rt1 HOs
    have h := HH.out
    clear HH
    obtain ⟨⟨x1, x2, x3, x4⟩, h_, h2_⟩ := Option.bind_eq_some_iff.1 h; clear h; have h := h2_; clear h2_
    have E2 := Aside0.mk h_
    clear h_
    try dsimp only at h
    have HH := Aside0.mk h
    clear h
    obtain ⟨At0, ct0, k_, l_, r_⟩ := S.out.get (g := g_a) (a := a0_0) (b := a0_1) (l := l0_2) (.tail _ (.tail _ (.tail _ (.head _)))); obtain ⟨xt0, yt0, zt0, _, _, _⟩ := cell3 k_; have Lt0 := Aside0.mk l_; have Rt0 := Aside0.mk r_; clear k_ l_ r_
    obtain ⟨At1, ct1, k_, l_, r_⟩ := S.out.get (g := g_s) (a := s1) (b := s2) (l := s3) (.head _); obtain ⟨xt1, yt1, zt1, _, _, _⟩ := cell3 k_; have Lt1 := Aside0.mk l_; have Rt1 := Aside0.mk r_; clear k_ l_ r_
    go_upto_region 5 with (first | (go_at_call 12; (refine (grid_Times.calls k a0_0 a0_1 At0 ct0 l0_2 s1 s2 At1 ct1 s3 _ _ _ _ _ Rt0.out Lt0.out Rt1.out Lt1.out E2.out).mono ?_); rintro e wc_ ⟨v_, rfl, ho_, hb_⟩; replace S := Aside0.mk (S.out.below hb_); obtain ⟨Ax, cx, e_⟩ := Kd.R_slice ho_; (have e1_ : v_ = .slice Ax x3.length cx := e_); clear e_; subst e1_; have Rx := Aside0.mk (Kd.R_reads' ho_).2.2; have Lx := Aside0.mk (Kd.R_reads' ho_).2.1; clear ho_ hb_) | ((with_reducible refine gate_dst (N := 9) rfl ?_); refine box_event ?hg (N := 9) ?hd (cs := #[.int .i64 0, .int .i64 0, .slice none 0 0]) (t := 24) ?hr ?_; (case hd => rfl); (case hg => rfl); (case hr => first | (go_simp; done) | (go_simp; rfl)); intro g_x hg_ wb_ hbox_ hbb_; have BZ := Aside0.mk (fun u v x => below3 (u := u) (v := v) (x := x) hbb_ (Nat.le_of_eq hg_.symm)); have KZ := Aside0.mk (fun u v x => put3 (u := u) (v := v) (x := x) hbox_); obtain ⟨b1, b2, b3, b4, b5, b6⟩ := cell3 hbox_; clear hg_ hbox_ hbb_))
    replace S := Aside0.mk (S.out.box (BZ.out (.int .i64 x1) (.int .i64 x2) (.slice Ax x3.length cx)) (KZ.out (.int .i64 x1) (.int .i64 x2) (.slice Ax x3.length cx)) Lx.out Rx.out)
    generalize hW_ : (((wb_.setCell ⟨g_x, 0, none⟩ (.int .i64 x1)).setCell ⟨g_x, 1, none⟩ (.int .i64 x2)).setCell ⟨g_x, 2, none⟩ (.slice Ax x3.length cx)) = W2 at *
    clear hW_ BZ KZ b1 b2 b3 b4 b5 b6 Lx Rx
    clear xt0 yt0 zt0 Lt0 Rt0 xt1 yt1 zt1 Lt1 Rt1
    have h := HH.out
    clear HH
    by_cases c1 : s4 = 0 ∧ x4 = 0
    · rw [if_pos c1] at h
      obtain ⟨rfl, rfl⟩ := c1
      have HH := Aside0.mk h
      clear h
      go_upto_region 7 with (fail)
      have h := HH.out
      clear HH
      obtain ⟨⟨p1, p2, p3, p4⟩, h_, h2_⟩ := Option.bind_eq_some_iff.1 h; clear h; have h := h2_; clear h2_
      have E3 := Aside0.mk h_
      clear h_
      try dsimp only at h
      have HH := Aside0.mk h
      clear h
      obtain ⟨At0, ct0, k_, l_, r_⟩ := S.out.get (g := g_a) (a := a0_0) (b := a0_1) (l := l0_2) (.tail _ (.tail _ (.tail _ (.tail _ (.head _))))); obtain ⟨xt0, yt0, zt0, _, _, _⟩ := cell3 k_; have Lt0 := Aside0.mk l_; have Rt0 := Aside0.mk r_; clear k_ l_ r_
      obtain ⟨At1, ct1, k_, l_, r_⟩ := S.out.get (g := g_b) (a := a1_0) (b := a1_1) (l := l1_2) (.tail _ (.tail _ (.tail _ (.head _)))); obtain ⟨xt1, yt1, zt1, _, _, _⟩ := cell3 k_; have Lt1 := Aside0.mk l_; have Rt1 := Aside0.mk r_; clear k_ l_ r_
      go_upto_region 8 with (first | (go_at_call 12; (refine (grid_Times.calls k a0_0 a0_1 At0 ct0 l0_2 a1_0 a1_1 At1 ct1 l1_2 _ _ _ _ _ Rt0.out Lt0.out Rt1.out Lt1.out E3.out).mono ?_); rintro e wc_ ⟨v_, rfl, ho_, hb_⟩; replace S := Aside0.mk (S.out.below hb_); obtain ⟨Ap, cp, e_⟩ := Kd.R_slice ho_; (have e1_ : v_ = .slice Ap p3.length cp := e_); clear e_; subst e1_; have Rp := Aside0.mk (Kd.R_reads' ho_).2.2; have Lp := Aside0.mk (Kd.R_reads' ho_).2.1; clear ho_ hb_) | ((with_reducible refine gate_dst (N := 11) rfl ?_); refine box_event ?hg (N := 11) ?hd (cs := #[.int .i64 0, .int .i64 0, .slice none 0 0]) (t := 24) ?hr ?_; (case hd => rfl); (case hg => rfl); (case hr => first | (go_simp; done) | (go_simp; rfl)); intro g_p hg_ wb_ hbox_ hbb_; have BZ := Aside0.mk (fun u v x => below3 (u := u) (v := v) (x := x) hbb_ (Nat.le_of_eq hg_.symm)); have KZ := Aside0.mk (fun u v x => put3 (u := u) (v := v) (x := x) hbox_); obtain ⟨b1, b2, b3, b4, b5, b6⟩ := cell3 hbox_; clear hg_ hbox_ hbb_))
      replace S := Aside0.mk (S.out.box (BZ.out (.int .i64 p1) (.int .i64 p2) (.slice Ap p3.length cp)) (KZ.out (.int .i64 p1) (.int .i64 p2) (.slice Ap p3.length cp)) Lp.out Rp.out)
      generalize hW_ : (((wb_.setCell ⟨g_p, 0, none⟩ (.int .i64 p1)).setCell ⟨g_p, 1, none⟩ (.int .i64 p2)).setCell ⟨g_p, 2, none⟩ (.slice Ap p3.length cp)) = W3 at *
      clear hW_ BZ KZ b1 b2 b3 b4 b5 b6 Lp Rp
      clear xt0 yt0 zt0 Lt0 Rt0 xt1 yt1 zt1 Lt1 Rt1
      have h := HH.out
      clear HH
      obtain ⟨⟨q1, q2, q3, q4⟩, h_, h2_⟩ := Option.bind_eq_some_iff.1 h; clear h; have h := h2_; clear h2_
      have E4 := Aside0.mk h_
      clear h_
      try dsimp only at h
      have HH := Aside0.mk h
      clear h
      obtain ⟨At0, ct0, k_, l_, r_⟩ := S.out.get (g := g_a) (a := a0_0) (b := a0_1) (l := l0_2) (.tail _ (.tail _ (.tail _ (.tail _ (.tail _ (.head _)))))); obtain ⟨xt0, yt0, zt0, _, _, _⟩ := cell3 k_; have Lt0 := Aside0.mk l_; have Rt0 := Aside0.mk r_; clear k_ l_ r_
      obtain ⟨At1, ct1, k_, l_, r_⟩ := S.out.get (g := g_c) (a := a2_0) (b := a2_1) (l := l2_2) (.tail _ (.tail _ (.tail _ (.head _)))); obtain ⟨xt1, yt1, zt1, _, _, _⟩ := cell3 k_; have Lt1 := Aside0.mk l_; have Rt1 := Aside0.mk r_; clear k_ l_ r_
      go_upto_region 9 with (first | (go_at_call 12; (refine (grid_Times.calls k a0_0 a0_1 At0 ct0 l0_2 a2_0 a2_1 At1 ct1 l2_2 _ _ _ _ _ Rt0.out Lt0.out Rt1.out Lt1.out E4.out).mono ?_); rintro e wc_ ⟨v_, rfl, ho_, hb_⟩; replace S := Aside0.mk (S.out.below hb_); obtain ⟨Aq, cq, e_⟩ := Kd.R_slice ho_; (have e1_ : v_ = .slice Aq q3.length cq := e_); clear e_; subst e1_; have Rq := Aside0.mk (Kd.R_reads' ho_).2.2; have Lq := Aside0.mk (Kd.R_reads' ho_).2.1; clear ho_ hb_) | ((with_reducible refine gate_dst (N := 13) rfl ?_); refine box_event ?hg (N := 13) ?hd (cs := #[.int .i64 0, .int .i64 0, .slice none 0 0]) (t := 24) ?hr ?_; (case hd => rfl); (case hg => rfl); (case hr => first | (go_simp; done) | (go_simp; rfl)); intro g_q hg_ wb_ hbox_ hbb_; have BZ := Aside0.mk (fun u v x => below3 (u := u) (v := v) (x := x) hbb_ (Nat.le_of_eq hg_.symm)); have KZ := Aside0.mk (fun u v x => put3 (u := u) (v := v) (x := x) hbox_); obtain ⟨b1, b2, b3, b4, b5, b6⟩ := cell3 hbox_; clear hg_ hbox_ hbb_))
      replace S := Aside0.mk (S.out.box (BZ.out (.int .i64 q1) (.int .i64 q2) (.slice Aq q3.length cq)) (KZ.out (.int .i64 q1) (.int .i64 q2) (.slice Aq q3.length cq)) Lq.out Rq.out)
      generalize hW_ : (((wb_.setCell ⟨g_q, 0, none⟩ (.int .i64 q1)).setCell ⟨g_q, 1, none⟩ (.int .i64 q2)).setCell ⟨g_q, 2, none⟩ (.slice Aq q3.length cq)) = W4 at *
      clear hW_ BZ KZ b1 b2 b3 b4 b5 b6 Lq Rq
      clear xt0 yt0 zt0 Lt0 Rt0 xt1 yt1 zt1 Lt1 Rt1
      have h := HH.out
      clear HH
      obtain ⟨⟨y1, y2, y3, y4⟩, h_, h2_⟩ := Option.bind_eq_some_iff.1 h; clear h; have h := h2_; clear h2_
      have E5 := Aside0.mk h_
      clear h_
      try dsimp only at h
      have HH := Aside0.mk h
      clear h
      obtain ⟨At0, ct0, k_, l_, r_⟩ := S.out.get (g := g_p) (a := p1) (b := p2) (l := p3) (.tail _ (.head _)); obtain ⟨xt0, yt0, zt0, _, _, _⟩ := cell3 k_; have Lt0 := Aside0.mk l_; have Rt0 := Aside0.mk r_; clear k_ l_ r_
      obtain ⟨At1, ct1, k_, l_, r_⟩ := S.out.get (g := g_q) (a := q1) (b := q2) (l := q3) (.head _); obtain ⟨xt1, yt1, zt1, _, _, _⟩ := cell3 k_; have Lt1 := Aside0.mk l_; have Rt1 := Aside0.mk r_; clear k_ l_ r_
      go_upto_region 10 with (first | ((with_reducible refine gate_dst (N := 70) rfl ?_); refine Kd.N_lit k24 _ 24 ?hg (N' := 70) ?hd (xs := ([(⟨p1, p2, p3⟩ : S24), (⟨q1, q2, q3⟩ : S24)] : List S24)) (inner := [.int .i64 p1, .int .i64 p2, .slice At0 p3.length ct0, .int .i64 q1, .int .i64 q2, .slice At1 q3.length ct1]) (ok := fun _ => True) (okp := fun _ => True) ?hr ?hp (fun _ hk => hk) trivial (Below.refl _ _) (Nat.le_refl _) (by simp) ?_; (case hd => rfl); (case hg => rfl); (case hr => first | exact bld_ 3 (.agg #[.int .i64 0, .int .i64 0, .slice none 0 0]) rfl rfl (by simp only [Act.eval, Array.getD_eq_getD_getElem?, List.map_toArray, List.map_cons, List.map_nil, List.getElem?_toArray, List.getElem?_cons_succ, List.getElem?_cons_zero, Option.getD_some]; kernel_rfl) | (go_simp; done) | (go_simp; rfl)); (case hp => exact (Reps.c3 (fk24 (⟨p1, p2, p3⟩ : S24) Lt0.out Rt0.out) (Reps.c3 (fk24 (⟨q1, q2, q3⟩ : S24) Lt1.out Rt1.out) (Reps.none _ _)))); intro v_ w_ ho_ hb_ hg_ hnew_; clear hg_ hnew_; replace S := Aside0.mk (S.out.below hb_); have HOy := Aside0.mk ho_; clear ho_ hb_; obtain ⟨AoHOy, coHOy, eo_⟩ := Kd.N_slice HOy.out; subst eo_) | (go_at_call 21; (refine (grid_Add.calls k _ _ [(⟨p1, p2, p3⟩ : S24), (⟨q1, q2, q3⟩ : S24)] _ _ _ _ _ (Kd.N_reads' HOy.out).2.2 (Kd.N_reads' HOy.out).2.1 E5.out).mono ?_); rintro e wc_ ⟨v_, rfl, ho_, hb_⟩; replace S := Aside0.mk (S.out.below hb_); obtain ⟨Ay, cy, e_⟩ := Kd.R_slice ho_; (have e1_ : v_ = .slice Ay y3.length cy := e_); clear e_; subst e1_; have Ry := Aside0.mk (Kd.R_reads' ho_).2.2; have Ly := Aside0.mk (Kd.R_reads' ho_).2.1; clear ho_ hb_) | ((with_reducible refine gate_dst (N := 15) rfl ?_); refine box_event ?hg (N := 15) ?hd (cs := #[.int .i64 0, .int .i64 0, .slice none 0 0]) (t := 24) ?hr ?_; (case hd => rfl); (case hg => rfl); (case hr => first | (go_simp; done) | (go_simp; rfl)); intro g_y hg_ wb_ hbox_ hbb_; have BZ := Aside0.mk (fun u v x => below3 (u := u) (v := v) (x := x) hbb_ (Nat.le_of_eq hg_.symm)); have KZ := Aside0.mk (fun u v x => put3 (u := u) (v := v) (x := x) hbox_); obtain ⟨b1, b2, b3, b4, b5, b6⟩ := cell3 hbox_; clear hg_ hbox_ hbb_))
      replace S := Aside0.mk (S.out.box (BZ.out (.int .i64 y1) (.int .i64 y2) (.slice Ay y3.length cy)) (KZ.out (.int .i64 y1) (.int .i64 y2) (.slice Ay y3.length cy)) Ly.out Ry.out)
      generalize hW_ : (((wb_.setCell ⟨g_y, 0, none⟩ (.int .i64 y1)).setCell ⟨g_y, 1, none⟩ (.int .i64 y2)).setCell ⟨g_y, 2, none⟩ (.slice Ay y3.length cy)) = W5 at *
      clear hW_ BZ KZ b1 b2 b3 b4 b5 b6 Ly Ry
      clear xt0 yt0 zt0 Lt0 Rt0 xt1 yt1 zt1 Lt1 Rt1 HOy
      have h := HH.out
      clear HH
      obtain ⟨⟨u1, u2, u3, u4⟩, h_, h2_⟩ := Option.bind_eq_some_iff.1 h; clear h; have h := h2_; clear h2_
      have E6 := Aside0.mk h_
      clear h_
      try dsimp only at h
      have HH := Aside0.mk h
      clear h
      obtain ⟨At0, ct0, k_, l_, r_⟩ := S.out.get (g := g_a) (a := a0_0) (b := a0_1) (l := l0_2) (.tail _ (.tail _ (.tail _ (.tail _ (.tail _ (.tail _ (.tail _ (.head _)))))))); obtain ⟨xt0, yt0, zt0, _, _, _⟩ := cell3 k_; have Lt0 := Aside0.mk l_; have Rt0 := Aside0.mk r_; clear k_ l_ r_
      go_upto_region 11 with (first | (go_at_call 22; (refine (grid_Turn.calls k a0_0 a0_1 At0 ct0 l0_2 _ _ _ _ _ Rt0.out Lt0.out E6.out).mono ?_); rintro e wc_ ⟨v_, rfl, ho_, hb_⟩; replace S := Aside0.mk (S.out.below hb_); obtain ⟨Au, cu, e_⟩ := Kd.R_slice ho_; (have e1_ : v_ = .slice Au u3.length cu := e_); clear e_; subst e1_; have Ru := Aside0.mk (Kd.R_reads' ho_).2.2; have Lu := Aside0.mk (Kd.R_reads' ho_).2.1; clear ho_ hb_) | ((with_reducible refine gate_dst (N := 17) rfl ?_); refine box_event ?hg (N := 17) ?hd (cs := #[.int .i64 0, .int .i64 0, .slice none 0 0]) (t := 24) ?hr ?_; (case hd => rfl); (case hg => rfl); (case hr => first | (go_simp; done) | (go_simp; rfl)); intro g_u hg_ wb_ hbox_ hbb_; have BZ := Aside0.mk (fun u v x => below3 (u := u) (v := v) (x := x) hbb_ (Nat.le_of_eq hg_.symm)); have KZ := Aside0.mk (fun u v x => put3 (u := u) (v := v) (x := x) hbox_); obtain ⟨b1, b2, b3, b4, b5, b6⟩ := cell3 hbox_; clear hg_ hbox_ hbb_))
      replace S := Aside0.mk (S.out.box (BZ.out (.int .i64 u1) (.int .i64 u2) (.slice Au u3.length cu)) (KZ.out (.int .i64 u1) (.int .i64 u2) (.slice Au u3.length cu)) Lu.out Ru.out)
      generalize hW_ : (((wb_.setCell ⟨g_u, 0, none⟩ (.int .i64 u1)).setCell ⟨g_u, 1, none⟩ (.int .i64 u2)).setCell ⟨g_u, 2, none⟩ (.slice Au u3.length cu)) = W6 at *
      clear hW_ BZ KZ b1 b2 b3 b4 b5 b6 Lu Ru
      clear xt0 yt0 zt0 Lt0 Rt0
      have h := HH.out
      clear HH
      obtain ⟨⟨v1, v2, v3, v4⟩, h_, h2_⟩ := Option.bind_eq_some_iff.1 h; clear h; have h := h2_; clear h2_
      have E7 := Aside0.mk h_
      clear h_
      try dsimp only at h
      have HH := Aside0.mk h
      clear h
      obtain ⟨At0, ct0, k_, l_, r_⟩ := S.out.get (g := g_b) (a := a1_0) (b := a1_1) (l := l1_2) (.tail _ (.tail _ (.tail _ (.tail _ (.tail _ (.tail _ (.tail _ (.head _)))))))); obtain ⟨xt0, yt0, zt0, _, _, _⟩ := cell3 k_; have Lt0 := Aside0.mk l_; have Rt0 := Aside0.mk r_; clear k_ l_ r_
      go_upto_region 12 with (first | (go_at_call 22; (refine (grid_Turn.calls k a1_0 a1_1 At0 ct0 l1_2 _ _ _ _ _ Rt0.out Lt0.out E7.out).mono ?_); rintro e wc_ ⟨v_, rfl, ho_, hb_⟩; replace S := Aside0.mk (S.out.below hb_); obtain ⟨Av, cv, e_⟩ := Kd.R_slice ho_; (have e1_ : v_ = .slice Av v3.length cv := e_); clear e_; subst e1_; have Rv := Aside0.mk (Kd.R_reads' ho_).2.2; have Lv := Aside0.mk (Kd.R_reads' ho_).2.1; clear ho_ hb_) | ((with_reducible refine gate_dst (N := 19) rfl ?_); refine box_event ?hg (N := 19) ?hd (cs := #[.int .i64 0, .int .i64 0, .slice none 0 0]) (t := 24) ?hr ?_; (case hd => rfl); (case hg => rfl); (case hr => first | (go_simp; done) | (go_simp; rfl)); intro g_v hg_ wb_ hbox_ hbb_; have BZ := Aside0.mk (fun u v x => below3 (u := u) (v := v) (x := x) hbb_ (Nat.le_of_eq hg_.symm)); have KZ := Aside0.mk (fun u v x => put3 (u := u) (v := v) (x := x) hbox_); obtain ⟨b1, b2, b3, b4, b5, b6⟩ := cell3 hbox_; clear hg_ hbox_ hbb_))
      replace S := Aside0.mk (S.out.box (BZ.out (.int .i64 v1) (.int .i64 v2) (.slice Av v3.length cv)) (KZ.out (.int .i64 v1) (.int .i64 v2) (.slice Av v3.length cv)) Lv.out Rv.out)
      generalize hW_ : (((wb_.setCell ⟨g_v, 0, none⟩ (.int .i64 v1)).setCell ⟨g_v, 1, none⟩ (.int .i64 v2)).setCell ⟨g_v, 2, none⟩ (.slice Av v3.length cv)) = W7 at *
      clear hW_ BZ KZ b1 b2 b3 b4 b5 b6 Lv Rv
      clear xt0 yt0 zt0 Lt0 Rt0
      have h := HH.out
      clear HH
      obtain ⟨⟨o1, o2, o3, o4⟩, h_, h2_⟩ := Option.bind_eq_some_iff.1 h; clear h; have h := h2_; clear h2_
      have E8 := Aside0.mk h_
      clear h_
      try dsimp only at h
      have HH := Aside0.mk h
      clear h
      obtain ⟨At0, ct0, k_, l_, r_⟩ := S.out.get (g := g_v) (a := v1) (b := v2) (l := v3) (.head _); obtain ⟨xt0, yt0, zt0, _, _, _⟩ := cell3 k_; have Lt0 := Aside0.mk l_; have Rt0 := Aside0.mk r_; clear k_ l_ r_
      obtain ⟨At1, ct1, k_, l_, r_⟩ := S.out.get (g := g_u) (a := u1) (b := u2) (l := u3) (.tail _ (.head _)); obtain ⟨xt1, yt1, zt1, _, _, _⟩ := cell3 k_; have Lt1 := Aside0.mk l_; have Rt1 := Aside0.mk r_; clear k_ l_ r_
      go_upto_region 13 with (first | (go_at_call 12; (refine (grid_Times.calls k v1 v2 At0 ct0 v3 u1 u2 At1 ct1 u3 _ _ _ _ _ Rt0.out Lt0.out Rt1.out Lt1.out E8.out).mono ?_); rintro e wc_ ⟨v_, rfl, ho_, hb_⟩; replace S := Aside0.mk (S.out.below hb_); obtain ⟨Ao, co, e_⟩ := Kd.R_slice ho_; (have e1_ : v_ = .slice Ao o3.length co := e_); clear e_; subst e1_; have Ro := Aside0.mk (Kd.R_reads' ho_).2.2; have Lo := Aside0.mk (Kd.R_reads' ho_).2.1; clear ho_ hb_) | ((with_reducible refine gate_dst (N := 21) rfl ?_); refine box_event ?hg (N := 21) ?hd (cs := #[.int .i64 0, .int .i64 0, .slice none 0 0]) (t := 24) ?hr ?_; (case hd => rfl); (case hg => rfl); (case hr => first | (go_simp; done) | (go_simp; rfl)); intro g_o hg_ wb_ hbox_ hbb_; have BZ := Aside0.mk (fun u v x => below3 (u := u) (v := v) (x := x) hbb_ (Nat.le_of_eq hg_.symm)); have KZ := Aside0.mk (fun u v x => put3 (u := u) (v := v) (x := x) hbox_); obtain ⟨b1, b2, b3, b4, b5, b6⟩ := cell3 hbox_; clear hg_ hbox_ hbb_))
      replace S := Aside0.mk (S.out.box (BZ.out (.int .i64 o1) (.int .i64 o2) (.slice Ao o3.length co)) (KZ.out (.int .i64 o1) (.int .i64 o2) (.slice Ao o3.length co)) Lo.out Ro.out)
      generalize hW_ : (((wb_.setCell ⟨g_o, 0, none⟩ (.int .i64 o1)).setCell ⟨g_o, 1, none⟩ (.int .i64 o2)).setCell ⟨g_o, 2, none⟩ (.slice Ao o3.length co)) = W8 at *
      clear hW_ BZ KZ b1 b2 b3 b4 b5 b6 Lo Ro
      clear xt0 yt0 zt0 Lt0 Rt0 xt1 yt1 zt1 Lt1 Rt1
      have h := HH.out
      clear HH
      obtain ⟨⟨z1, z2, z3, z4⟩, h_, h2_⟩ := Option.bind_eq_some_iff.1 h; clear h; have h := h2_; clear h2_
      have E9 := Aside0.mk h_
      clear h_
      try dsimp only at h
      have HH := Aside0.mk h
      clear h
      obtain ⟨At0, ct0, k_, l_, r_⟩ := S.out.get (g := g_p) (a := p1) (b := p2) (l := p3) (.tail _ (.tail _ (.tail _ (.tail _ (.tail _ (.head _)))))); obtain ⟨xt0, yt0, zt0, _, _, _⟩ := cell3 k_; have Lt0 := Aside0.mk l_; have Rt0 := Aside0.mk r_; clear k_ l_ r_
      go_upto_region 14 with (first | (go_at_call 22; (refine (grid_Turn.calls k p1 p2 At0 ct0 p3 _ _ _ _ _ Rt0.out Lt0.out E9.out).mono ?_); rintro e wc_ ⟨v_, rfl, ho_, hb_⟩; replace S := Aside0.mk (S.out.below hb_); obtain ⟨Az, cz, e_⟩ := Kd.R_slice ho_; (have e1_ : v_ = .slice Az z3.length cz := e_); clear e_; subst e1_; have Rz := Aside0.mk (Kd.R_reads' ho_).2.2; have Lz := Aside0.mk (Kd.R_reads' ho_).2.1; clear ho_ hb_) | ((with_reducible refine gate_dst (N := 23) rfl ?_); refine box_event ?hg (N := 23) ?hd (cs := #[.int .i64 0, .int .i64 0, .slice none 0 0]) (t := 24) ?hr ?_; (case hd => rfl); (case hg => rfl); (case hr => first | (go_simp; done) | (go_simp; rfl)); intro g_z hg_ wb_ hbox_ hbb_; have BZ := Aside0.mk (fun u v x => below3 (u := u) (v := v) (x := x) hbb_ (Nat.le_of_eq hg_.symm)); have KZ := Aside0.mk (fun u v x => put3 (u := u) (v := v) (x := x) hbox_); obtain ⟨b1, b2, b3, b4, b5, b6⟩ := cell3 hbox_; clear hg_ hbox_ hbb_))
      replace S := Aside0.mk (S.out.box (BZ.out (.int .i64 z1) (.int .i64 z2) (.slice Az z3.length cz)) (KZ.out (.int .i64 z1) (.int .i64 z2) (.slice Az z3.length cz)) Lz.out Rz.out)
      generalize hW_ : (((wb_.setCell ⟨g_z, 0, none⟩ (.int .i64 z1)).setCell ⟨g_z, 1, none⟩ (.int .i64 z2)).setCell ⟨g_z, 2, none⟩ (.slice Az z3.length cz)) = W9 at *
      clear hW_ BZ KZ b1 b2 b3 b4 b5 b6 Lz Rz
      clear xt0 yt0 zt0 Lt0 Rt0
      have h := HH.out
      clear HH
      obtain ⟨t1, h_, h2_⟩ := Option.bind_eq_some_iff.1 h; clear h; have h := h2_; clear h2_
      have E10 := Aside0.mk h_
      clear h_
      try dsimp only at h
      by_cases c2 : t1 = true ∧ o4 = 0
      · rw [if_pos c2] at h
        obtain ⟨rfl, rfl⟩ := c2
        obtain ⟨t2, h_, h2_⟩ := Option.bind_eq_some_iff.1 h; clear h; have h := h2_; clear h2_
        have E11 := Aside0.mk h_
        clear h_
        try dsimp only at h
        obtain rfl := Option.some.inj h
        clear h
        obtain ⟨At0, ct0, k_, l_, r_⟩ := S.out.get (g := g_y) (a := y1) (b := y2) (l := y3) (.tail _ (.tail _ (.tail _ (.tail _ (.head _))))); obtain ⟨xt0, yt0, zt0, _, _, _⟩ := cell3 k_; have Lt0 := Aside0.mk l_; have Rt0 := Aside0.mk r_; clear k_ l_ r_
        obtain ⟨At1, ct1, k_, l_, r_⟩ := S.out.get (g := g_x) (a := x1) (b := x2) (l := x3) (.tail _ (.tail _ (.tail _ (.tail _ (.tail _ (.tail _ (.tail _ (.head _)))))))); obtain ⟨xt1, yt1, zt1, _, _, _⟩ := cell3 k_; have Lt1 := Aside0.mk l_; have Rt1 := Aside0.mk r_; clear k_ l_ r_
        go_wp2_with (first | (go_at_call 14; (refine (pelotonlaw03_held.calls k y1 y2 At0 ct0 y3 y4 x1 x2 At1 ct1 x3 true true _ Rt0.out Lt0.out Rt1.out Lt1.out E10.out).mono ?_); rintro e wh_ ⟨rfl, hb_⟩; replace S := Aside0.mk (S.out.below hb_); clear hb_ E10; obtain ⟨At2, ct2, k_, l_, r_⟩ := S.out.get (g := g_z) (a := z1) (b := z2) (l := z3) (.head _); obtain ⟨xt2, yt2, zt2, _, _, _⟩ := cell3 k_; have Lt2 := Aside0.mk l_; have Rt2 := Aside0.mk r_; clear k_ l_ r_; obtain ⟨At3, ct3, k_, l_, r_⟩ := S.out.get (g := g_o) (a := o1) (b := o2) (l := o3) (.tail _ (.head _)); obtain ⟨xt3, yt3, zt3, _, _, _⟩ := cell3 k_; have Lt3 := Aside0.mk l_; have Rt3 := Aside0.mk r_; clear k_ l_ r_) | (go_at_call 14; (refine (pelotonlaw03_held.calls k z1 z2 At2 ct2 z3 z4 o1 o2 At3 ct3 o3 true _ _ Rt2.out Lt2.out Rt3.out Lt3.out E11.out).mono ?_); rintro e wh_ ⟨rfl, hb_⟩; replace S := Aside0.mk (S.out.below hb_); clear hb_ E11))
        go_ret
        exact ⟨rfl, S.out.1⟩
      · rw [if_neg c2] at h; cases h
    · rw [if_neg c1] at h
      obtain rfl : true = r := Option.some.inj h
      clear h
      by_cases c2 : s4 = 0
      · have c3 : ¬ x4 = 0 := fun h => c1 ⟨c2, h⟩
        clear c1
        subst c2
        have c4 : (x4 != 0) = true := bne_iff_ne.2 c3
        have c5 : decide (x4 = 0) = false := decide_eq_false c3
        go_wp2
        go_ret
        exact ⟨rfl, S.out.1⟩
      · clear c1
        have c4 : (s4 != 0) = true := bne_iff_ne.2 c2
        have c5 : decide (s4 = 0) = false := decide_eq_false c2
        go_wp2
        go_ret
        exact ⟨rfl, S.out.1⟩
/-- THE ONE PURE STATEMENT of pelotonlaw03_GridSpreads. -/
def pelotonlaw03_GridSpreads.Pure : Prop := ∀ (a0_0 : Int) (a0_1 : Int) (l0_2 : List Int) (a1_0 : Int) (a1_1 : Int) (l1_2 : List Int) (a2_0 : Int) (a2_1 : Int) (l2_2 : List Int), ((Lit.int .i64 a0_0).wf = true ∧ (Lit.int .i64 a0_1).wf = true ∧ l0_2.length ≤ maxLen ∧ ∀ y0 ∈ l0_2, (Lit.int .i32 y0).wf = true) → ((Lit.int .i64 a1_0).wf = true ∧ (Lit.int .i64 a1_1).wf = true ∧ l1_2.length ≤ maxLen ∧ ∀ y0 ∈ l1_2, (Lit.int .i32 y0).wf = true) → ((Lit.int .i64 a2_0).wf = true ∧ (Lit.int .i64 a2_1).wf = true ∧ l2_2.length ≤ maxLen ∧ ∀ y0 ∈ l2_2, (Lit.int .i32 y0).wf = true) → ∃ k, pelotonlaw03_GridSpreads.f k a0_0 a0_1 l0_2 a1_0 a1_1 l1_2 a2_0 a2_1 l2_2 = some true
end Go.Proofs.Ytggcgacndknlaaa.QGridSpreads
