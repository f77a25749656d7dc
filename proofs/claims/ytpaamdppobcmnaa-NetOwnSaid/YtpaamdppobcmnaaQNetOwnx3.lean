-- Written by a program of this session (a turned copy of the print) out of the translation. Lean checks it.
import Derived.Test.YtpaamdppobcmnaaQNetOwnx0
import Derived.Test.YtpaamdppobcmnaaQNetOwnx1
import Derived.Test.YtpaamdppobcmnaaQNetOwnx2
namespace Go.Proofs.Ytpaamdppobcmnaa.QNetOwn
open Go.RowKit Go.Proofs.YtpaamdppobcmnaaW.PrintWords Go.Proofs.YtpaamdppobcmnaaW.PrintLast Go.Proofs.YtpaamdppobcmnaaW.PrintMore
attribute [local go_sem] max2_int min2_int max_two min_two max_three min_three max_four min_four   -- for this text's walks alone
open Go.Proofs.YtpaamdppobcmnaaW.PrintWords renaming below_alloc → b_a, pw_below_drewN → b_n, below_drew1 → b_d, below_set → b_s, blk_drewN → k_n, blk_drew → k_d, blk_alloc → k_a
open List renaming setIfInBounds_toArray → l_1, set_cons_zero → l_2, set_cons_succ → l_3, map_toArray → l_4, map_cons → l_5, map_nil → l_6, length_drop → l_7, length_take → l_8
set_option linter.unusedVariables false
set_option linter.unusedSimpArgs false

/-! ### pelotonlaw17_NetOwn: function 4, by hand -/
def pelotonlaw17_NetOwn.T6 : Bool × List (List Nat × List Nat) := (true, [([], []), ([0], [0]), ([], []), ([2], [2]), ([], []), ([], []), ([5], [5]), ([4, 6], [4, 6]), ([1, 3, 7], [1, 3, 7]), ([], []), ([9, 8, 7, 0, 1, 2, 3, 4, 5, 6, 7, 8, 9], [8, 9])])
def pelotonlaw17_NetOwn.B6 : List Nat := [0, 1, 0, 4, 0, 0, 32, 112, 255, 0, 1023]
theorem pelotonlaw17_NetOwn.tab6 : rtab .any (opsOf Try.f4 6) = pelotonlaw17_NetOwn.T6 := by kernel_rfl
theorem pelotonlaw17_NetOwn.bits6 : waitsOk pelotonlaw17_NetOwn.T6.2 pelotonlaw17_NetOwn.B6 = true := by kernel_rfl
theorem stU_step {P : Program} {ops : Array Oper} {o : Oper} {a : Act} {Q : Exit → Act → World → Prop} {Kc : Act → World → Prop} {W : World} {T : TypeId} {p v : Operand} {g t : Nat} {cs cur : Array Value} (hw : Region.wanted o (yielded ops a.tmps) = true) (hd : o.dst = none) (hop : o.op = .store T p v) (hp : a.eval p = .pointer (some ⟨g, 0, none⟩)) (hv : a.eval v = .agg cs)
    (hb : W.heap[g]? = some (.cells cur t (0, 0))) (hn : cur.size = cs.size) (hi : (P.info? T).map (·.size) = some cs.size) (h1 : cs.all (·.oneCell') = true)
    (h : ∀ W' : World, W'.heap[g]? = some (.cells cs t (0, 0)) → Upd (fun k => k = g) W W' → Kc a W') : if Region.wanted o (yielded ops a.tmps) = true then Oper.wp P o a W Kc Q else Kc (a.put o.dst undef) W := by
  have hth : W.there g 0 cs.size := fun j hj => ⟨by
    rw [Nat.zero_add, blk_cell hb j, Array.getElem?_eq_getElem (by omega)]
    rfl, blk_frozen hb _⟩
  have hr := run_storeAt_mid (P := P) W g 0 T cs hth hi h1
  obtain ⟨cur', e1, e2, e3⟩ := setCells_row cs.toList 0 W cur hb (by simp; omega)
  have hc : cur' = cs := by
    apply Array.toList_inj.1
    rw [e3]
    simp [hn]
  subst hc
  rw [if_pos hw]
  unfold Oper.wp execOp
  simp only [hop, hp, hv, Sem.run_bind, hr, Result.andThen_ok]
  obtain ⟨s1, s2, s3, s4⟩ := setCells_same g cur'.toList 0 W
  have h2 := h _ e1 ⟨s1, s2, s3, Nat.le_of_eq s4.symm, fun k _ hk => setCells_far hk _ _ _⟩
  have h3 : Kc (a.put o.dst undef) (W.setCells g 0 cur'.toList) := by rw [hd]; exact h2
  exact h3
theorem R_free {W W' : World} {base : Nat} {V : Value} {l : List Int} {free : Nat → Prop} (h : (Kd.int .u8).R 5 W base (fun _ => True) V l) (hu : Upd (fun k => ¬ free k) W W') (hf : ∀ k, V.ownBlock = some k → free k) : (Kd.int .u8).R 5 W' base (fun _ => True) V l :=
  Kd.R_mono (Kd.R_step (w1 := W') (Kd.R_tight rfl h) (fun k hk hlt => hu.2.2.2.2 k hlt (fun h => h (hf k hk.symm)))) (fun _ _ => trivial)
theorem R_off {W W' : World} {base gb : Nat} {V : Value} {l : List Int} (h : (Kd.int .u8).R 5 W base (fun _ => True) V l) (hu : Upd (fun k => k = gb) W W') (hf : ∀ k, V.ownBlock = some k → k ≠ gb) : (Kd.int .u8).R 5 W' base (fun _ => True) V l :=
  Kd.R_mono (Kd.R_step (w1 := W') (Kd.R_tight rfl h) (fun k hk hlt => hu.2.2.2.2 k hlt (hf k hk.symm))) (fun _ _ => trivial)
theorem R_fresh {W : World} {base gb : Nat} {V : Value} {l : List Int} (h : (Kd.int .u8).R 5 W base (fun _ => True) V l) (hg : gb = W.heap.size) : ∀ k, V.ownBlock = some k → k ≠ gb := fun k hk e => by have := Kd.R_lt h k hk; omega
theorem R_F {W : World} {base n c : Nat} {A : Option Addr} {l : List Int} (h : (Kd.int .u8).R 5 W base (fun _ => True) (.slice A n c) l) : Kd.F (Kd.int .u8) W (fun j => (Value.slice A n c).ownBlock = some j) A l.length l := by
  intro W2 hW
  exact (Kd.R_reads' (Kd.R_step (w1 := W2) (Kd.R_tight rfl h) (fun k hk hlt => hW k hk.symm hlt))).2.2
theorem bld32_ {P : Program} {ev : Operand → Value} {o : Oper} {W : World} {t e : TypeId} {x y : Operand} {v0 v1 v2 u0 u1 u2 : Value} (z0 z1 z2 : Value) (ho : o.op = .buildSlice t 2 #[(0, x), (1, y)]) (hx : ev x = .agg #[v0, v1, v2]) (hy : ev y = .agg #[u0, u1, u2]) (hu : P.underlying t = some (.slice e) := by kernel_rfl) (hi : (P.info? e).map (fun i => (i.zero, i.size)) = some (some (.agg #[z0, z1, z2]), 3) := by kernel_rfl) :
    (execOp ev o).run P W = .ok (.value (.slice (some ⟨W.heap.size, 0, none⟩) 2 2)) (W.alloc (.cells #[v0, v1, v2, u0, u1, u2] e)) :=
  bld_ 3 (.agg #[z0, z1, z2]) ho rfl (by simp only [l_4, l_5, l_6, List.map_toArray, List.map_cons, List.map_nil, hx, hy]; kernel_rfl) hu hi rfl rfl
theorem npk_F2 {W : World} {gl t : Nat} {fr : Nat × Nat} {ok : Nat → Prop} {x0 y0 x1 y1 : Int} {b0 b1 : List Int} {A0 A1 : Option Addr} {c0 c1 : Nat} (hb : W.heap[gl]? = some (.cells #[.int .i64 x0, .int .i64 y0, .slice A0 b0.length c0, .int .i64 x1, .int .i64 y1, .slice A1 b1.length c1] t fr)) (h0 : b0.length ≤ c0) (h1 : b1.length ≤ c1) (f0 : Kd.F (Kd.int .u8) W ok A0 b0.length b0) (f1 : Kd.F (Kd.int .u8) W ok A1 b1.length b1) :
    Kd.F (npk 5) W (fun k => k = gl ∨ ok k) (some ⟨gl, 0, none⟩) 2 [(x0, y0, b0), (x1, y1, b1)] :=
  npk_F [((x0, y0, b0), A0, c0), ((x1, y1, b1), A1, c1)] [.int .i64 x0, .int .i64 y0, .slice A0 b0.length c0, .int .i64 x1, .int .i64 y1, .slice A1 b1.length c1]
    (fun j x hj => by
      match j with
      | 0 => obtain rfl := Option.some.inj hj; rfl
      | 1 => obtain rfl := Option.some.inj hj; rfl
      | j + 2 => cases hj) hb
    (fun j x hj => by
      match j with
      | 0 => obtain rfl := Option.some.inj hj; exact ⟨h0, f0⟩
      | 1 => obtain rfl := Option.some.inj hj; exact ⟨h1, f1⟩
      | j + 2 => cases hj) (by simp)
theorem u8info : (Try.prog.info? 5).map (fun i => (i.zero, i.size, i.bytes)) = some (some (.int .u8 0), 1, 1) := by kernel_rfl
theorem net_send2 (p : NP) : net_send 9 [p, p] [] 0 0 0 = ([p, p], 2, 0, 2) := by
  rw [net_send, if_neg (by simp), net_send, if_neg (by simp), net_send]
  rw [show wrap64 (0 + 1) = 1 by decide +kernel, show wrap64 (1 + 1) = 2 by decide +kernel]
  rfl
/-- a byte of a row of the law's own is turned -/
theorem own_put {w W : World} {g hq n c base : Nat} {fr : Nat → Prop} {room c0 c1 c2 c3 : Int} {L : List NP} {l : List Int} (hst : LS w W g fr room L c0 c1 c2 c3) (h : (Kd.int .u8).R 5 W base (fun _ => True) (.slice (some ⟨hq, 0, none⟩) n c) l) (hf : ∀ k, (Value.slice (some ⟨hq, 0, none⟩) n c).ownBlock = some k → fr k) (hb : w.heap.size ≤ base) (i x : Int) :
    (Kd.int .u8).R 5 (W.setCell ⟨hq, i.toNat, none⟩ (.int .u8 x)) base (fun _ => True) (.slice (some ⟨hq, 0, none⟩) n c) (l.set i.toNat x) ∧ LS w (W.setCell ⟨hq, i.toNat, none⟩ (.int .u8 x)) g fr room L c0 c1 c2 c3 :=
  ⟨(Kd.R_putg h i x).1, hst.put (Upd.of_set (S := fun k => k = hq) hq i.toNat _ rfl) (hf hq rfl) (Nat.le_trans hb (Kd.R_base h hq rfl))⟩
theorem held2 {w W : World} {g2 t : Nat} {u v x : Value} (h : w.heap[g2]? = some (.cells #[u, v, x] t (0, 0))) (hb : Below w.heap.size w W) : W.cell? ⟨g2, 0, none⟩ = some u ∧ W.cell? ⟨g2, 1, none⟩ = some v ∧ W.cell? ⟨g2, 2, none⟩ = some x := ⟨(blk_cell (blk_below h hb) 0).trans rfl, (blk_cell (blk_below h hb) 1).trans rfl, (blk_cell (blk_below h hb) 2).trans rfl⟩
theorem below_lift {w W : World} (h : Below w.heap.size w W) : Below w.heap.size w W := h
theorem below_of_grown {w W : World} (h : w.grownBy W none) : Below w.heap.size w W := ⟨h.os, h.tape, h.output, h.size, fun k hk => h.block k hk (by simp)⟩
def pelotonlaw17_NetOwn.f (a0_0 a0_1 : Int) (l0_2 : List Int) (a1 : Int) : Option Bool := some true
set_option maxHeartbeats 8000000 in
set_option maxRecDepth 100000 in
theorem pelotonlaw17_NetOwn.calls (x0 y0 : Int) (A0 : Option Addr) (c0 : Nat) (l0 : List Int) (x : Int) (r : Bool) (w : World) (hr0 : Kd.C (Kd.int .u8) w A0 l0.length l0) (hc0 : l0.length ≤ c0) (h : pelotonlaw17_NetOwn.f x0 y0 l0 x = some r) :
    Calls Try.prog 4 #[.agg #[.int .i64 x0, .int .i64 y0, .slice A0 l0.length c0], .int .u8 x] w fun e w' => e = .returned (.bool r) ∧ Below w.heap.size w w' := by
  obtain rfl := Option.some.inj h
  clear h
  have HR := Aside0.mk hr0
  have HC0 := Aside0.mk hc0
  clear hr0 hc0
  have hu31 := Try.underlying31
  by_cases cA : 500 < (l0.length : Int)
  · have q1 : decide (500 < (l0.length : Int)) = true := decide_eq_true cA
    clear cA
    go_enter Try.func4, Try.ntmps4
    go_wp2_with (first
      | ((with_reducible refine gate_dst (N := 2) rfl ?_); refine box_event ?hg (N := 2) ?hd (cs := #[.int .i64 x0, .int .i64 y0, .slice A0 l0.length c0]) (t := 31) ?hr ?_; (case hd => rfl); (case hg => rfl); (case hr => first | (go_simp; done) | (go_simp; rfl)); intro g2 hg_ wb hbox hbb; have K2 := Aside0.mk hbox; have HB := Aside0.mk hbb; clear hg_ hbox hbb)
      | (go_at_call 6; (with_reducible refine (pelotonlaw17_awake.good _).mono ?_); rintro e wa ⟨rfl, hb⟩; replace HB := Aside0.mk (below_step HB.out hb); replace K2 := Aside0.mk (blk_below K2.out hb); clear hb; obtain ⟨z0, z1, z2, _⟩ := cells3 K2.out))
    go_ret
    exact ⟨rfl, HB.out⟩
  · have q1 : decide (500 < (l0.length : Int)) = false := decide_eq_false cA
    have HLN : Aside0 (l0.length ≤ 500) := ⟨by omega⟩
    clear cA
    go_enter Try.func4, Try.ntmps4
    go_upto_region 6 with (first
      | ((with_reducible refine gate_dst (N := 2) rfl ?_); refine box_event ?hg (N := 2) ?hd (cs := #[.int .i64 x0, .int .i64 y0, .slice A0 l0.length c0]) (t := 31) ?hr ?_; (case hd => rfl); (case hg => rfl); (case hr => first | (go_simp; done) | (go_simp; rfl)); intro g2 hg_ wb hbox hbb; have K2 := Aside0.mk hbox; have HB := Aside0.mk hbb; clear hg_ hbox hbb)
      | (go_at_call 6; (with_reducible refine (pelotonlaw17_awake.good _).mono ?_); rintro e wa ⟨rfl, hb⟩; replace HB := Aside0.mk (below_step HB.out hb); replace K2 := Aside0.mk (blk_below K2.out hb); clear hb; obtain ⟨z0, z1, z2, _⟩ := cells3 K2.out)
      | (go_at_call 7; (with_reducible refine (LS.new (w := w) (room := 9) HB.out (by omega) (by omega)).mono ?_); rintro e w1 ⟨g, rfl, hn, hb⟩; clear z0 z1 z2; have ST := Aside0.mk hn; have HW := Aside0.mk (show ∀ k, k < w.heap.size → k < _ from fun k hk => Nat.lt_of_lt_of_le hk HB.out.size); have HK2 := Aside0.mk (blk_lt K2.out); replace K2 := Aside0.mk (blk_below K2.out hb); clear hn hb HB))
    obtain ⟨fr, hfr⟩ : ∃ fr : Nat → Prop, fr = fun k => k < wa.heap.size := ⟨_, rfl⟩
    replace ST := Aside0.mk (show LS w w1 g fr 9 [] 0 0 0 0 from by rw [hfr]; exact ST.out)
    replace HW : Aside0 (∀ k, k < w.heap.size → fr k) := ⟨fun k hk => by rw [hfr]; exact HW.out k hk⟩
    replace HK2 : Aside0 (fr g2) := ⟨by rw [hfr]; exact HK2.out⟩
    have HCp := Aside0.mk (Kd.C_below HR.out ST.out.1)
    clear hfr
    go_cut [7] (fun v7 wc => ∃ (g7 : Nat) (Aq : Option Addr) (cq : Nat), v7 = .pointer (some ⟨g7, 0, none⟩) ∧ Aside0 (Below w1.heap.size w1 wc) ∧ Aside0 (wc.heap[g7]? = some (.cells #[.int .i64 x0, .int .i64 y0, .slice Aq l0.length cq] 31 (0, 0))) ∧ Aside0 ((Kd.int .u8).R 5 wc w1.heap.size (fun _ => True) (.slice Aq l0.length cq) l0) ∧ Aside0 (w1.heap.size ≤ g7) ∧ Aside0 (l0.length ≤ cq))
    case first =>
      refine start_ (n := 11) (S := fun W_ => W_.cell? ⟨g2, 0, none⟩ = some (.int .i64 x0) ∧ W_.cell? ⟨g2, 1, none⟩ = some (.int .i64 y0) ∧ W_.cell? ⟨g2, 2, none⟩ = some (.slice A0 l0.length c0)) (ds := [10]) #[false, false, false, false, false, false, false, false, false, false, false] (by kernel_rfl) rfl rfl (held2 K2.out (below_drew (Below.refl _ _))) (fun hHeld => ?_); refine with_tabW pelotonlaw17_NetOwn.tab6 pelotonlaw17_NetOwn.bits6 (fun HT_ HW_ => ?_)
      have HBv := Aside0.mk (below_drew (Below.refl w1.heap.size w1))
      have hHeld := hHeld
      generalize w1.drew = wv at *
      refine pure_ (i := 0) (N := some 33) (v := ?_) (a' := ?_) #[true, false, false, false, false, false, false, false, false, false, false] rfl rfl (any_of HT_.out (by kernel_rfl)) (fun _ _ _ h => h) (Or.inl ⟨by rfl, ?_⟩) ?_ ?_
      rotate_left
      ·
        intro w'
        go_simp
        with_reducible rfl
      rotate_left
      ·
        simp only [Act.put, l_1, l_2, l_3, i64_w, i32_w]
        rfl
      refine take_ (i := 1) (N := some 34) (v := ?_) (a' := ?_) #[true, true, false, false, false, false, false, false, false, false, false] rfl rfl (take_ofW HT_.out HW_.out (by kernel_rfl)) (fun _ _ _ h => h) (Or.inl ⟨by rfl, ?_⟩) hHeld ?_ ?_
      rotate_left
      ·
        rintro w' ⟨s0, s1, s2⟩
        go_simp
        with_reducible rfl
      rotate_left
      ·
        simp only [Act.put, l_1, l_2, l_3, i64_w, i32_w]
        rfl
      refine pure_ (i := 2) (N := some 35) (v := ?_) (a' := ?_) #[true, true, true, false, false, false, false, false, false, false, false] rfl rfl (any_of HT_.out (by kernel_rfl)) (fun _ _ _ h => h) (Or.inl ⟨by rfl, ?_⟩) ?_ ?_
      rotate_left
      ·
        intro w'
        go_simp
        with_reducible rfl
      rotate_left
      ·
        simp only [Act.put, l_1, l_2, l_3, i64_w, i32_w]
        rfl
      refine take_ (i := 3) (N := some 36) (v := ?_) (a' := ?_) #[true, true, true, true, false, false, false, false, false, false, false] rfl rfl (take_ofW HT_.out HW_.out (by kernel_rfl)) (fun _ _ _ h => h) (Or.inl ⟨by rfl, ?_⟩) hHeld ?_ ?_
      rotate_left
      ·
        rintro w' ⟨s0, s1, s2⟩
        go_simp
        with_reducible rfl
      rotate_left
      ·
        simp only [Act.put, l_1, l_2, l_3, i64_w, i32_w]
        rfl
      refine pure_ (i := 5) (N := some 38) (v := ?_) (a' := ?_) #[true, true, true, true, false, true, false, false, false, false, false] rfl rfl (any_of HT_.out (by kernel_rfl)) (fun _ _ _ h => h) (Or.inl ⟨by rfl, ?_⟩) ?_ ?_
      rotate_left
      ·
        intro w'
        go_simp
        with_reducible rfl
      rotate_left
      ·
        simp only [Act.put, l_1, l_2, l_3, i64_w, i32_w]
        rfl
      refine take_ (i := 6) (N := some 39) (v := ?_) (a' := ?_) #[true, true, true, true, false, true, true, false, false, false, false] rfl rfl (take_ofW HT_.out HW_.out (by kernel_rfl)) (fun _ _ _ h => h) (Or.inl ⟨by rfl, ?_⟩) hHeld ?_ ?_
      rotate_left
      ·
        rintro w' ⟨s0, s1, s2⟩
        go_simp
        with_reducible rfl
      rotate_left
      ·
        simp only [Act.put, l_1, l_2, l_3, i64_w, i32_w]
        rfl
      refine two_ (i := 4) (j := 9) (Ni := some 37) (Nj := some 7) #[true, true, true, true, true, true, true, false, false, false, false] #[true, true, true, true, false, true, true, false, false, true, false] rfl rfl rfl rfl (two_of HT_.out (by kernel_rfl)) (by decide) (by decide) (fun K hK => ?_) (fun K hK => ?_)
      ·
        refine Kd.R_lit_step (Kd.int .u8) w1.heap.size 5 ?hg (N := 37) ?hd (xs := ([] : List Int)) (inner := []) (ok := fun _ => True) (okp := fun _ => True) ?hr (Reps.none _ _) (fun _ hk => hk) trivial HBv.out HBv.out.size (by simp) ?_; (case hd => rfl); (case hg => rfl); (case hr => first | (go_simp; done) | (go_simp; rfl)); intro vl wl hol hbl hg_ hnew_; replace HBv := Aside0.mk hbl; have HQ := Aside0.mk hol; clear hol hbl hg_ hnew_
        refine hK.out _ _ (held2 K2.out HBv.out) (fun hHeld => ?_)
        clear hK K
        refine norm_ (a' := ?_) ?_ ?_
        rotate_left
        ·
          show Act.put _ (some 37) _ = _
          simp only [Act.put, l_1, l_2, l_3, i64_w, i32_w]
          rfl
        refine two_ (i := 7) (j := 9) (Ni := some 40) (Nj := some 7) #[true, true, true, true, true, true, true, true, false, false, false] #[true, true, true, true, true, true, true, false, false, true, false] rfl rfl rfl rfl (two_of HT_.out (by kernel_rfl)) (by decide) (by decide) (fun K hK => ?_) (fun K hK => ?_)
        ·
          refine Kd.R_append_rows_step (Kd.int .u8) (w0 := w1) w1.heap.size (by rfl) (.tmp 37) (.tmp 39) 28 5 (.int .u8 0) 1 rfl Try.underlying28 u8info rfl (by decide) (by omega) vl [] l0 _ _ _ (fun _ => True) (fun _ => False) rfl rfl HQ.out ?aR (fun _ _ h => h) (fun _ h => h.elim) (fun _ _ => trivial) HBv.out HBv.out.size ?aL ?_; (case aR => exact Kd.C_below HCp.out (below_lift HBv.out)); (case aL => (have := HLN.out; simp only [List.length_nil]; omega)); intro vq wn ho hb hg hat; rw [List.nil_append] at ho; obtain ⟨Aq, cq, ev, hlq, _⟩ := Kd.R_reads ho; subst ev; replace HBv := Aside0.mk hb; replace HQ := Aside0.mk ho; have HLQ := Aside0.mk hlq; clear ho hb hg hat hlq
          refine hK.out _ _ (held2 K2.out HBv.out) (fun hHeld => ?_)
          clear hK K
          refine norm_ (a' := ?_) ?_ ?_
          rotate_left
          ·
            show Act.put _ (some 40) _ = _
            simp only [Act.put, l_1, l_2, l_3, i64_w, i32_w]
            rfl
          refine pure_ (i := 8) (N := some 41) (v := ?_) (a' := ?_) #[true, true, true, true, true, true, true, true, true, false, false] rfl rfl (any_of HT_.out (by kernel_rfl)) (fun _ _ _ h => h) (Or.inl ⟨by rfl, ?_⟩) ?_ ?_
          rotate_left
          ·
            intro w'
            go_simp
            with_reducible rfl
          rotate_left
          ·
            simp only [Act.put, l_1, l_2, l_3, i64_w, i32_w]
            rfl
          refine one_ (i := 9) (N := some 7) #[true, true, true, true, true, true, true, true, true, true, false] rfl rfl (one_of HT_.out (by kernel_rfl)) (by decide) (fun K hK => ?_)
          refine box_step ?hg (N := 7) ?hd (cs := #[.int .i64 0, .int .i64 0, .slice none 0 0]) (t := 31) ?hr ?_; (case hd => rfl); (case hg => rfl); (case hr => first | (go_simp; done) | (go_simp; rfl)); intro g7 hg_ wb hbox hbb; have HG7 := Aside0.mk (show w1.heap.size ≤ g7 from by rw [hg_]; exact HBv.out.size); replace HQ := Aside0.mk (Kd.R_below HQ.out hbb); replace HBv := Aside0.mk (below_then HBv.out HBv.out.size hbb); have K7 := Aside0.mk hbox; clear hg_ hbox hbb
          refine hK.out _ _ (held2 K2.out HBv.out) (fun hHeld => ?_)
          clear hK K
          refine norm_ (a' := ?_) ?_ ?_
          rotate_left
          ·
            show Act.put _ (some 7) _ = _
            simp only [Act.put, l_1, l_2, l_3, i64_w, i32_w]
            rfl
          refine last_ (i := 10) (N := none) #[true, true, true, true, true, true, true, true, true, true, true] rfl rfl (one_of HT_.out (by kernel_rfl)) (by decide) (fun K hK => ?_)
          refine stU_step (by rfl) rfl rfl rfl rfl K7.out rfl (by kernel_rfl) (by simp [Value.oneCell']) ?_
          intro W7 hW1 hW2
          have hq7 : ∀ k, (Value.slice Aq l0.length cq).ownBlock = some k → k ≠ g7 := (fun k hk e => by obtain ⟨cells, hc⟩ := Kd.R_typed HQ.out k hk; rw [e, K7.out] at hc; injection hc with hc; injection hc with _ hc; cases hc)
          replace HQ := Aside0.mk (R_off HQ.out hW2 hq7)
          replace HBv := Aside0.mk (Upd.belowB HBv.out HBv.out.size hW2 (fun k e => by have e' : k = g7 := e; have := HG7.out; omega))
          replace K7 := Aside0.mk hW1
          refine hK.out _ _ ?_
          clear hK K hq7 hW1 hW2
          refine done_ (done_of HT_.out (by kernel_rfl)) ?_
          clear hHeld HT_ HW_
          go_wp2
          go_meet
          case rel => exact ⟨g7, Aq, cq, rfl, HBv, K7, HQ, HG7, HLQ⟩
        ·
          refine box_step ?hg (N := 7) ?hd (cs := #[.int .i64 0, .int .i64 0, .slice none 0 0]) (t := 31) ?hr ?_; (case hd => rfl); (case hg => rfl); (case hr => first | (go_simp; done) | (go_simp; rfl)); intro g7 hg_ wb hbox hbb; have HG7 := Aside0.mk (show w1.heap.size ≤ g7 from by rw [hg_]; exact HBv.out.size); replace HQ := Aside0.mk (Kd.R_below HQ.out hbb); replace HBv := Aside0.mk (below_then HBv.out HBv.out.size hbb); have K7 := Aside0.mk hbox; clear hg_ hbox hbb
          refine hK.out _ _ (held2 K2.out HBv.out) (fun hHeld => ?_)
          clear hK K
          refine norm_ (a' := ?_) ?_ ?_
          rotate_left
          ·
            show Act.put _ (some 7) _ = _
            simp only [Act.put, l_1, l_2, l_3, i64_w, i32_w]
            rfl
          refine one_ (i := 7) (N := some 40) #[true, true, true, true, true, true, true, true, false, true, false] rfl rfl (one_of HT_.out (by kernel_rfl)) (by decide) (fun K hK => ?_)
          refine Kd.R_append_rows_step (Kd.int .u8) (w0 := w1) w1.heap.size (by rfl) (.tmp 37) (.tmp 39) 28 5 (.int .u8 0) 1 rfl Try.underlying28 u8info rfl (by decide) (by omega) vl [] l0 _ _ _ (fun _ => True) (fun _ => False) rfl rfl HQ.out ?aR (fun _ _ h => h) (fun _ h => h.elim) (fun _ _ => trivial) HBv.out HBv.out.size ?aL ?_; (case aR => exact Kd.C_below HCp.out (below_lift HBv.out)); (case aL => (have := HLN.out; simp only [List.length_nil]; omega)); intro vq wn ho hb hg hat; rw [List.nil_append] at ho; obtain ⟨Aq, cq, ev, hlq, _⟩ := Kd.R_reads ho; subst ev; replace HBv := Aside0.mk hb; replace K7 := Aside0.mk (blk_grown K7.out hg (Kd.R_ne HQ.out K7.out (by decide))); replace HQ := Aside0.mk ho; have HLQ := Aside0.mk hlq; clear ho hb hg hat hlq
          refine hK.out _ _ (held2 K2.out HBv.out) (fun hHeld => ?_)
          clear hK K
          refine norm_ (a' := ?_) ?_ ?_
          rotate_left
          ·
            show Act.put _ (some 40) _ = _
            simp only [Act.put, l_1, l_2, l_3, i64_w, i32_w]
            rfl
          refine pure_ (i := 8) (N := some 41) (v := ?_) (a' := ?_) #[true, true, true, true, true, true, true, true, true, true, false] rfl rfl (any_of HT_.out (by kernel_rfl)) (fun _ _ _ h => h) (Or.inl ⟨by rfl, ?_⟩) ?_ ?_
          rotate_left
          ·
            intro w'
            go_simp
            with_reducible rfl
          rotate_left
          ·
            simp only [Act.put, l_1, l_2, l_3, i64_w, i32_w]
            rfl
          refine last_ (i := 10) (N := none) #[true, true, true, true, true, true, true, true, true, true, true] rfl rfl (one_of HT_.out (by kernel_rfl)) (by decide) (fun K hK => ?_)
          refine stU_step (by rfl) rfl rfl rfl rfl K7.out rfl (by kernel_rfl) (by simp [Value.oneCell']) ?_
          intro W7 hW1 hW2
          have hq7 : ∀ k, (Value.slice Aq l0.length cq).ownBlock = some k → k ≠ g7 := (fun k hk e => by obtain ⟨cells, hc⟩ := Kd.R_typed HQ.out k hk; rw [e, K7.out] at hc; injection hc with hc; injection hc with _ hc; cases hc)
          replace HQ := Aside0.mk (R_off HQ.out hW2 hq7)
          replace HBv := Aside0.mk (Upd.belowB HBv.out HBv.out.size hW2 (fun k e => by have e' : k = g7 := e; have := HG7.out; omega))
          replace K7 := Aside0.mk hW1
          refine hK.out _ _ ?_
          clear hK K hq7 hW1 hW2
          refine done_ (done_of HT_.out (by kernel_rfl)) ?_
          clear hHeld HT_ HW_
          go_wp2
          go_meet
          case rel => exact ⟨g7, Aq, cq, rfl, HBv, K7, HQ, HG7, HLQ⟩
      ·
        refine box_step ?hg (N := 7) ?hd (cs := #[.int .i64 0, .int .i64 0, .slice none 0 0]) (t := 31) ?hr ?_; (case hd => rfl); (case hg => rfl); (case hr => first | (go_simp; done) | (go_simp; rfl)); intro g7 hg_ wb hbox hbb; have HG7 := Aside0.mk (show w1.heap.size ≤ g7 from by rw [hg_]; exact HBv.out.size);  replace HBv := Aside0.mk (below_then HBv.out HBv.out.size hbb); have K7 := Aside0.mk hbox; clear hg_ hbox hbb
        refine hK.out _ _ (held2 K2.out HBv.out) (fun hHeld => ?_)
        clear hK K
        refine norm_ (a' := ?_) ?_ ?_
        rotate_left
        ·
          show Act.put _ (some 7) _ = _
          simp only [Act.put, l_1, l_2, l_3, i64_w, i32_w]
          rfl
        refine one_ (i := 4) (N := some 37) #[true, true, true, true, true, true, true, false, false, true, false] rfl rfl (one_of HT_.out (by kernel_rfl)) (by decide) (fun K hK => ?_)
        refine Kd.R_lit_step (Kd.int .u8) w1.heap.size 5 ?hg (N := 37) ?hd (xs := ([] : List Int)) (inner := []) (ok := fun _ => True) (okp := fun _ => True) ?hr (Reps.none _ _) (fun _ hk => hk) trivial HBv.out HBv.out.size (by simp) ?_; (case hd => rfl); (case hg => rfl); (case hr => first | (go_simp; done) | (go_simp; rfl)); intro vl wl hol hbl hg_ hnew_; replace HBv := Aside0.mk hbl; have HQ := Aside0.mk hol; replace K7 := Aside0.mk (blk_below K7.out (below_of_grown hg_)); clear hol hbl hg_ hnew_
        refine hK.out _ _ (held2 K2.out HBv.out) (fun hHeld => ?_)
        clear hK K
        refine norm_ (a' := ?_) ?_ ?_
        rotate_left
        ·
          show Act.put _ (some 37) _ = _
          simp only [Act.put, l_1, l_2, l_3, i64_w, i32_w]
          rfl
        refine one_ (i := 7) (N := some 40) #[true, true, true, true, true, true, true, true, false, true, false] rfl rfl (one_of HT_.out (by kernel_rfl)) (by decide) (fun K hK => ?_)
        refine Kd.R_append_rows_step (Kd.int .u8) (w0 := w1) w1.heap.size (by rfl) (.tmp 37) (.tmp 39) 28 5 (.int .u8 0) 1 rfl Try.underlying28 u8info rfl (by decide) (by omega) vl [] l0 _ _ _ (fun _ => True) (fun _ => False) rfl rfl HQ.out ?aR (fun _ _ h => h) (fun _ h => h.elim) (fun _ _ => trivial) HBv.out HBv.out.size ?aL ?_; (case aR => exact Kd.C_below HCp.out (below_lift HBv.out)); (case aL => (have := HLN.out; simp only [List.length_nil]; omega)); intro vq wn ho hb hg hat; rw [List.nil_append] at ho; obtain ⟨Aq, cq, ev, hlq, _⟩ := Kd.R_reads ho; subst ev; replace HBv := Aside0.mk hb; replace K7 := Aside0.mk (blk_grown K7.out hg (Kd.R_ne HQ.out K7.out (by decide))); replace HQ := Aside0.mk ho; have HLQ := Aside0.mk hlq; clear ho hb hg hat hlq
        refine hK.out _ _ (held2 K2.out HBv.out) (fun hHeld => ?_)
        clear hK K
        refine norm_ (a' := ?_) ?_ ?_
        rotate_left
        ·
          show Act.put _ (some 40) _ = _
          simp only [Act.put, l_1, l_2, l_3, i64_w, i32_w]
          rfl
        refine pure_ (i := 8) (N := some 41) (v := ?_) (a' := ?_) #[true, true, true, true, true, true, true, true, true, true, false] rfl rfl (any_of HT_.out (by kernel_rfl)) (fun _ _ _ h => h) (Or.inl ⟨by rfl, ?_⟩) ?_ ?_
        rotate_left
        ·
          intro w'
          go_simp
          with_reducible rfl
        rotate_left
        ·
          simp only [Act.put, l_1, l_2, l_3, i64_w, i32_w]
          rfl
        refine last_ (i := 10) (N := none) #[true, true, true, true, true, true, true, true, true, true, true] rfl rfl (one_of HT_.out (by kernel_rfl)) (by decide) (fun K hK => ?_)
        refine stU_step (by rfl) rfl rfl rfl rfl K7.out rfl (by kernel_rfl) (by simp [Value.oneCell']) ?_
        intro W7 hW1 hW2
        have hq7 : ∀ k, (Value.slice Aq l0.length cq).ownBlock = some k → k ≠ g7 := (fun k hk e => by obtain ⟨cells, hc⟩ := Kd.R_typed HQ.out k hk; rw [e, K7.out] at hc; injection hc with hc; injection hc with _ hc; cases hc)
        replace HQ := Aside0.mk (R_off HQ.out hW2 hq7)
        replace HBv := Aside0.mk (Upd.belowB HBv.out HBv.out.size hW2 (fun k e => by have e' : k = g7 := e; have := HG7.out; omega))
        replace K7 := Aside0.mk hW1
        refine hK.out _ _ ?_
        clear hK K hq7 hW1 hW2
        refine done_ (done_of HT_.out (by kernel_rfl)) ?_
        clear hHeld HT_ HW_
        go_wp2
        go_meet
        case rel => exact ⟨g7, Aq, cq, rfl, HBv, K7, HQ, HG7, HLQ⟩
    case rest =>
      obtain ⟨g7, Aq, cq, rfl, HBv, K7, HQ, HG7, HLQ⟩ := hcut
      obtain ⟨frn, hsub, hnew, hst⟩ := ST.out.on HBv.out
      replace HW := Aside0.mk (fun k hk => hsub k (HW.out k hk))
      replace K2 := Aside0.mk (blk_below K2.out HBv.out)
      replace HK2 := Aside0.mk (hsub _ HK2.out)
      have HK7 := Aside0.mk (hnew g7 HG7.out (blk_lt K7.out))
      have HQF := Aside0.mk (fun k hk => hnew k (Kd.R_base HQ.out k hk) (Kd.R_lt HQ.out k hk))
      have HWB := Aside0.mk (show w.heap.size ≤ w1.heap.size from ST.out.1.size)
      replace ST := Aside0.mk hst
      have HP := Aside0.mk (net_send2 (x0, y0, l0))
      have HBL : Aside0 (l0.length < 140737488355328) := ⟨by have := HLN.out; omega⟩
      clear hsub hnew hst HBv
      obtain ⟨z0, z1, z2, _⟩ := cells3 K7.out
      go_upto_region 8 with (first
        | ((with_reducible refine gate_dst (N := 45) rfl ?_); refine lit_ rfl rfl (bld32_ (e := 31) (.int .i64 0) (.int .i64 0) (.slice none 0 0) rfl rfl rfl) ?_; intro gl wl hgl hkl hbl; clear z0 z1 z2; obtain ⟨fr, hsub, hnew, hst⟩ := ST.out.on hbl; replace HW := Aside0.mk (fun k hk => hsub k (HW.out k hk)); replace K2 := Aside0.mk (blk_below K2.out hbl); replace HK2 := Aside0.mk (hsub _ HK2.out); replace K7 := Aside0.mk (blk_below K7.out hbl); replace HK7 := Aside0.mk (hsub _ HK7.out); replace HQ := Aside0.mk (Kd.R_below HQ.out hbl); replace HQF := Aside0.mk (fun k hk => hsub k (HQF.out k hk)); have HF := Aside0.mk (npk_F2 hkl HLQ.out HLQ.out (R_F HQ.out) (R_F HQ.out)); have HF2 := Aside0.mk (Kd.F_mono HF.out (fun k hk => hk.elim (fun e => hnew k (by rw [e, hgl]; exact Nat.le_refl _) (by rw [e]; exact blk_lt hkl)) (fun e => HQF.out k e))); replace ST := Aside0.mk hst; clear hgl hkl hbl hsub hnew hst HF)
        | (go_at_call 8; refine (LS.send 2 rfl ST.out HF2.out (Nat.le_refl _) (by omega) (by simp) ?s5 HP.out).mono ?_; (case s5 => (intro p hp; simp only [List.mem_cons, List.not_mem_nil, or_false] at hp; rcases hp with rfl | rfl <;> exact HBL.out)); rintro e ws ⟨rfl, hn, hu⟩; replace K2 := Aside0.mk (hu.blk K2.out (fun h => h HK2.out)); replace K7 := Aside0.mk (hu.blk K7.out (fun h => h HK7.out)); replace HQ := Aside0.mk (R_free HQ.out hu HQF.out); replace ST := Aside0.mk hn; clear hn hu HF2))
      obtain ⟨B0, hB0⟩ : ∃ B0, w1.heap.size = B0 := ⟨_, rfl⟩
      rw [hB0] at HQ HWB
      clear hB0
      go_wp2
      go_loopg [8] l0.length (fun m v8 W => ∃ (i : Int) (fr : Nat → Prop) (l : List Int), v8 = .int .i64 i ∧ 0 ≤ i ∧ Aside0 (i + m = l0.length) ∧ Aside0 (l.length = l0.length) ∧ Aside0 (LS w W g fr 9 [(x0, y0, l0), (x0, y0, l0)] 2 0 0 0) ∧ Aside0 (∀ k, k < w.heap.size → fr k) ∧ Aside0 (W.heap[g2]? = some (.cells #[.int .i64 x0, .int .i64 y0, .slice A0 l0.length c0] 31 (0, 0))) ∧ Aside0 (fr g2) ∧ Aside0 (W.heap[g7]? = some (.cells #[.int .i64 x0, .int .i64 y0, .slice Aq l0.length cq] 31 (0, 0))) ∧ Aside0 (fr g7) ∧ Aside0 ((Kd.int .u8).R 5 W B0 (fun _ => True) (.slice Aq l0.length cq) l) ∧ Aside0 (∀ k, (Value.slice Aq l0.length cq).ownBlock = some k → fr k))
      case atStart => exact ⟨0, fr, l0, rfl, by omega, ⟨by omega⟩, ⟨rfl⟩, ST, HW, K2, HK2, K7, HK7, HQ, HQF⟩
      case round =>
        clear ST HW K2 HK2 K7 HK7 HQ HQF
        obtain ⟨i, fr, l, rfl, hi0, HI, HL, ST, HW, K2, HK2, K7, HK7, HQ, HQF⟩ := hrel
        obtain ⟨z0, z1, z2, _⟩ := cells3 K7.out
        cases gk with
        | zero =>
          have q6 : decide (i < (l0.length : Int)) = false := decide_eq_false (by have := HI.out; omega)
          go_upto_block 2 with (first
            | (go_at_call 12; refine (LS.look 0 ST.out (by simp) (by simp) 0 (x0, y0, l0) (by simp only [List.length_cons, List.length_nil]; decide +kernel) rfl HBL.out).mono ?_; rintro e wl ⟨Ax, cx, rfl, hrx, hbx⟩; clear z0 z1 z2; have HWB2 := Aside0.mk (show w.heap.size ≤ wr.heap.size from ST.out.1.size); obtain ⟨fr, hsub, hnew, hst⟩ := ST.out.on hbx; replace HW := Aside0.mk (fun k hk => hsub k (HW.out k hk)); replace K2 := Aside0.mk (blk_below K2.out hbx); replace HK2 := Aside0.mk (hsub _ HK2.out); replace ST := Aside0.mk hst; clear HQ HQF; have HQ := Aside0.mk hrx; have HQF := Aside0.mk (fun k hk => hnew k (Kd.R_base hrx k hk) (Kd.R_lt hrx k hk)); clear hsub hnew hst hrx hbx)
            | ((with_reducible refine gate_dst (N := 9) rfl ?_); refine box_event ?hg (N := 9) ?hd (cs := #[.int .i64 0, .int .i64 0, .slice none 0 0]) (t := 31) ?hr ?_; (case hd => rfl); (case hg => rfl); (case hr => first | (go_simp; done) | (go_simp; rfl)); intro g9 hg_ wb hbox hbb; have hwg : w.heap.size ≤ g9 := (by rw [hg_]; exact ST.out.1.size); have hn2 : g2 ≠ g9 := (by rw [hg_]; exact Nat.ne_of_lt (blk_lt K2.out)); have hq := R_fresh HQ.out hg_; obtain ⟨fr, hsub, hnew, hst⟩ := ST.out.on hbb; replace HW := Aside0.mk (fun k hk => hsub k (HW.out k hk)); replace K2 := Aside0.mk (blk_below K2.out hbb); replace HK2 := Aside0.mk (hsub _ HK2.out); replace HQ := Aside0.mk (Kd.R_below HQ.out hbb); replace HQF := Aside0.mk (fun k hk => hsub k (HQF.out k hk)); have HK9 := Aside0.mk (hnew g9 (by rw [hg_]; exact Nat.le_refl _) (blk_lt hbox)); clear hg_ hsub hnew; (with_reducible refine gate_store_ rfl ?_); refine stU_ rfl rfl rfl rfl rfl hbox rfl (by kernel_rfl) (by simp [Value.oneCell']) ?_; intro W7 hW1 hW2; clear hbox hbb; replace ST := Aside0.mk (hst.put hW2 HK9.out hwg); have K9 := Aside0.mk hW1; replace K2 := Aside0.mk (hW2.blk K2.out hn2); replace HQ := Aside0.mk (R_off HQ.out hW2 hq); clear hst hwg hW1 hW2 hq hn2))
          obtain ⟨B1, hB1⟩ : ∃ B1, wr.heap.size = B1 := ⟨_, rfl⟩
          rw [hB1] at HQ HWB2
          clear hB1 HI HL HWB
          have HWB := HWB2
          clear HWB2 q6 hi0
          have HL1 : Aside0 (∃ L1, net_spoil [(x0, y0, l0), (x0, y0, l0)] 1 0 x = L1 ∧ L1.length = 2 ∧ L1.getD 0 (0, 0, []) = (x0, y0, l0)) := ⟨⟨_, rfl, net_spoil_len _ _ _ _, net_spoil_ne _ _ _ _ _ (by decide) _⟩⟩
          obtain ⟨L1, hL1, hL1n, hL10⟩ := HL1.out
          have HE1 := Aside0.mk hL1
          have HE1n := Aside0.mk hL1n
          have HE10 := Aside0.mk hL10
          have HL2 : Aside0 (∃ L2, net_spoil (L1 ++ [(x0, y0, l0)]) 2 0 x = L2 ∧ L2.length = 3 ∧ L2.getD 0 (0, 0, []) = (x0, y0, l0)) := ⟨⟨_, rfl, by rw [net_spoil_len, List.length_append, hL1n]; rfl, by rw [net_spoil_ne _ _ _ _ _ (by decide), List.getD_eq_getElem?_getD, List.getElem?_append_left (by omega), ← List.getD_eq_getElem?_getD, hL10]⟩⟩
          obtain ⟨L2, hL2, hL2n, hL20⟩ := HL2.out
          have HE2 := Aside0.mk hL2
          have HE2n := Aside0.mk hL2n
          have HE20 := Aside0.mk hL20
          have HM := Aside0.mk (show (L1 ++ [(x0, y0, l0)]).length = 3 ∧ (L1 ++ [(x0, y0, l0)]).getD 2 (0, 0, []) = (x0, y0, l0) from ⟨by rw [List.length_append, hL1n]; rfl, by rw [List.getD_eq_getElem?_getD, List.getElem?_append_right (by omega), hL1n]; rfl⟩)
          have HLEN4 : Aside0 ((L2.eraseIdx 0).length = 2) := ⟨by rw [List.length_eraseIdx_of_lt (by omega), hL2n]⟩
          have HSAME : Aside0 (pelotonref17_Same.f x0 y0 l0 x0 y0 l0 = some true) := ⟨by unfold pelotonref17_Same.f; simp⟩
          clear HL1 HL2 hL1 hL1n hL10 hL2 hL2n hL20
          go_wp2
          go_loopg [11] l0.length (fun m v11 W => ∃ (i : Int) (fr : Nat → Prop) (l : List Int), v11 = .int .i64 i ∧ 0 ≤ i ∧ Aside0 (i + m = l0.length) ∧ Aside0 (l.length = l0.length) ∧ Aside0 (LS w W g fr 9 [(x0, y0, l0), (x0, y0, l0)] 2 0 0 0) ∧ Aside0 (∀ k, k < w.heap.size → fr k) ∧ Aside0 (W.heap[g2]? = some (.cells #[.int .i64 x0, .int .i64 y0, .slice A0 l0.length c0] 31 (0, 0))) ∧ Aside0 (fr g2) ∧ Aside0 (W.heap[g9]? = some (.cells #[.int .i64 x0, .int .i64 y0, .slice Ax l0.length cx] 31 (0, 0))) ∧ Aside0 (fr g9) ∧ Aside0 ((Kd.int .u8).R 5 W B1 (fun _ => True) (.slice Ax l0.length cx) l) ∧ Aside0 (∀ k, (Value.slice Ax l0.length cx).ownBlock = some k → fr k))
          case atStart => exact ⟨0, fr, l0, rfl, by omega, ⟨by omega⟩, ⟨rfl⟩, ST, HW, K2, HK2, K9, HK9, HQ, HQF⟩
          case round =>
            clear ST HW K2 HK2 K9 HK9 HQ HQF
            obtain ⟨i, fr, l, rfl, hi0, HI, HL, ST, HW, K2, HK2, K9, HK9, HQ, HQF⟩ := hrel
            obtain ⟨z0, z1, z2, _⟩ := cells3 K9.out
            cases gk with
            | zero =>
              have q6 : decide (i < (l0.length : Int)) = false := decide_eq_false (by have := HI.out; omega)
              clear K9 HK9 HQ HQF HL
              go_upto_region 18 with (first
                | (go_at_call 13; refine (LS.spoil 1 0 x ST.out (by simp) (by simp) 1 (by simp only [List.length_cons, List.length_nil]; decide +kernel) HBL.out).mono ?_; rintro e ws ⟨rfl, hst, hu⟩; clear z0 z1 z2; replace K2 := Aside0.mk (hu.blk K2.out (fun h => h HK2.out)); rw [HE1.out] at hst; replace ST := Aside0.mk hst; clear hst hu))
              go_upto_region 19 with (first
                | (go_at_call 14; refine (LS.double 0 ST.out (by rw [HE1n.out]; omega) (by rw [HE1n.out]; omega) (by omega) 0 (x0, y0, l0) (by rw [HE1n.out]; decide +kernel) HE10.out HBL.out).mono ?_; rintro e ws ⟨rfl, hst, hu⟩; replace K2 := Aside0.mk (hu.blk K2.out (fun h => h HK2.out)); replace ST := Aside0.mk hst; clear hst hu))
              go_upto_region 20 with (first
                | (go_at_call 13; refine (LS.spoil 2 0 x ST.out (by rw [HM.out.1]; omega) (by rw [HM.out.1]; omega) 2 (by rw [HM.out.1]; decide +kernel) (by rw [HM.out.2]; exact HBL.out)).mono ?_; rintro e ws ⟨rfl, hst, hu⟩; replace K2 := Aside0.mk (hu.blk K2.out (fun h => h HK2.out)); rw [HE2.out] at hst; replace ST := Aside0.mk hst; clear hst hu))
              go_upto_region 21 with (first
                | (go_at_call 10; refine (LS.take 0 ST.out (by rw [HE2n.out]; omega) (by rw [HE2n.out]; omega) 0 (x0, y0, l0) (by rw [HE2n.out]; decide +kernel) HE20.out).mono ?_; rintro e wt ⟨At, ct, fr, rfl, hsub, hl, hF, hst, hu⟩; replace HW := Aside0.mk (fun k hk => hsub k (HW.out k hk)); replace K2 := Aside0.mk (hu.blk K2.out (fun h => h HK2.out)); replace HK2 := Aside0.mk (hsub _ HK2.out); obtain ⟨frt, hx⟩ : ∃ fx : Nat → Prop, fx = fr := ⟨_, rfl⟩; have NFt := Aside0.mk (show Kd.F (Kd.int .u8) wt frt At _ _ from by rw [hx]; exact hF); have HSt : Aside0 (∀ k, frt k → fr k) := ⟨fun k hk => by rw [hx] at hk; exact hk⟩; have HLt := Aside0.mk hl; replace ST := Aside0.mk hst; clear hsub hl hF hst hu hx)
                | ((with_reducible refine gate_dst (N := 12) rfl ?_); refine box_event ?hg (N := 12) ?hd (cs := #[.int .i64 0, .int .i64 0, .slice none 0 0]) (t := 31) ?hr ?_; (case hd => rfl); (case hg => rfl); (case hr => first | (go_simp; done) | (go_simp; rfl)); intro g12 hg_ wb hbox hbb; have hwg : w.heap.size ≤ g12 := (by rw [hg_]; exact ST.out.1.size); have hn2 : g2 ≠ g12 := (by rw [hg_]; exact Nat.ne_of_lt (blk_lt K2.out)); have hft : ∀ k, frt k → k ≠ g12 := (fun k hk e => by have h5 := ST.out.2.1.2.2 k (HSt.out k hk); rw [e, hg_] at h5; exact absurd h5 (Nat.lt_irrefl _)); obtain ⟨fr, hsub, hnew, hst⟩ := ST.out.on hbb; replace HW := Aside0.mk (fun k hk => hsub k (HW.out k hk)); replace K2 := Aside0.mk (blk_below K2.out hbb); replace HK2 := Aside0.mk (hsub _ HK2.out); replace NFt := Aside0.mk (Kd.F_below NFt.out hbb); replace HSt := Aside0.mk (fun k hk => hsub k (HSt.out k hk)); have HK12 := Aside0.mk (hnew g12 (by rw [hg_]; exact Nat.le_refl _) (blk_lt hbox)); clear hg_ hsub hnew; (with_reducible refine gate_store_ rfl ?_); refine stU_ rfl rfl rfl rfl rfl hbox rfl (by kernel_rfl) (by simp [Value.oneCell']) ?_; intro W7 hW1 hW2; clear hbox hbb; replace ST := Aside0.mk (hst.put hW2 HK12.out hwg); have K12 := Aside0.mk hW1; replace K2 := Aside0.mk (hW2.blk K2.out hn2); replace NFt := Aside0.mk (Kd.F_step NFt.out (fun k hk hlt => hW2.2.2.2.2 k hlt (hft k hk))); clear hst hwg hW1 hW2 hn2 hft))
              obtain ⟨u0, u1, u2, _⟩ := cells3 K12.out
              obtain ⟨t0, t1, t2, _⟩ := cells3 K2.out
              go_wp2_with (first
                | (go_at_call 15; (refine (pelotonref17_Same.calls x0 y0 At ct l0 x0 y0 A0 c0 l0 true _ (Foot.now NFt.out) HLt.out (Kd.C_below HR.out ST.out.1) HC0.out HSAME.out).mono ?_); rintro e wm ⟨rfl, hb⟩; obtain ⟨fr2, _, _, hst⟩ := ST.out.on hb; replace ST := Aside0.mk hst; clear hst hb u0 u1 u2 t0 t1 t2)
                | (go_at_call 11; (refine (LS.len ST.out).mono ?_); rintro e wl ⟨he, rfl⟩; rw [HLEN4.out] at he; subst he))
              go_ret
              exact ⟨rfl, ST.out.1⟩
            | succ m =>
              have hi1 : i < (l0.length : Int) := by have := HI.out; omega
              have q6 : decide (i < (l0.length : Int)) = true := decide_eq_true hi1
              have q7 : decide (0 ≤ i) = true := decide_eq_true hi0
              have q8 : (0 ≤ i) = True := eq_true hi0
              have q9 : (i < (l0.length : Int)) = True := eq_true hi1
              have q10 : (0 ≤ i ∧ i < (l0.length : Int)) = True := eq_true ⟨hi0, hi1⟩
              have hw : IntKind.i64.wrap (i + 1) = i + 1 := by rw [i64_w]; have := HLN.out; unfold wrap64; omega
              have hpos : 0 < l.length := by have := HL.out; omega
              obtain ⟨hq, cap, ev, _, hltq, _⟩ := Kd.R_form HQ.out hpos
              injection ev with e1 e2 e3
              subst e1
              have xc := Kd.R_celln (0 : Int) HQ.out i hi0 (by have := HL.out; omega)
              obtain ⟨xc1, xf⟩ := xc
              replace xc1 : wr.cell? ⟨hq, i.toNat, none⟩ = some (.int .u8 (rd l i)) := xc1
              have hne2 : g2 ≠ hq := fun e => by obtain ⟨cells, hc⟩ := Kd.R_typed HQ.out hq rfl; rw [← e, K2.out] at hc; injection hc with hc; injection hc with _ hc; cases hc
              have hne7 : g9 ≠ hq := fun e => by obtain ⟨cells, hc⟩ := Kd.R_typed HQ.out hq rfl; rw [← e, K9.out] at hc; injection hc with hc; injection hc with _ hc; cases hc
              have PUT := own_put ST.out HQ.out HQF.out HWB.out i (Go.bits .xor .u8 (rd l i) x)
              have SP := Aside0.mk (show LS w _ g fr 9 _ 2 0 0 0 from PUT.2.drw)
              have SQ := Aside0.mk (Kd.R_drew PUT.1)
              have S2 := Aside0.mk (blk_drew (blk_far K2.out (p := ⟨hq, i.toNat, none⟩) hne2 (.int .u8 (Go.bits .xor .u8 (rd l i) x))))
              have S7 := Aside0.mk (blk_drew (blk_far K9.out (p := ⟨hq, i.toNat, none⟩) hne7 (.int .u8 (Go.bits .xor .u8 (rd l i) x))))
              clear hpos hi1 e3 e2 hltq hne2 hne7 PUT
              go_upto_region 16 with (fail)
              go_still_tail 11, (by kernel_rfl)
              change wpList _ _ _ _ _ wr.drew
              go_wp2
              go_roundg m
              case measure => omega
              case rel => exact ⟨i + 1, fr, _, by first | rfl | rw [hw], by omega, ⟨by have := HI.out; omega⟩, ⟨by rw [List.length_set]; exact HL.out⟩, SP, HW, S2, HK2, S7, HK9, SQ, HQF⟩
        | succ m =>
          have hi1 : i < (l0.length : Int) := by have := HI.out; omega
          have q6 : decide (i < (l0.length : Int)) = true := decide_eq_true hi1
          have q7 : decide (0 ≤ i) = true := decide_eq_true hi0
          have q8 : (0 ≤ i) = True := eq_true hi0
          have q9 : (i < (l0.length : Int)) = True := eq_true hi1
          have q10 : (0 ≤ i ∧ i < (l0.length : Int)) = True := eq_true ⟨hi0, hi1⟩
          have hw : IntKind.i64.wrap (i + 1) = i + 1 := by rw [i64_w]; have := HLN.out; unfold wrap64; omega
          have hpos : 0 < l.length := by have := HL.out; omega
          obtain ⟨hq, cap, ev, _, hltq, _⟩ := Kd.R_form HQ.out hpos
          injection ev with e1 e2 e3
          subst e1
          have xc := Kd.R_celln (0 : Int) HQ.out i hi0 (by have := HL.out; omega)
          obtain ⟨xc1, xf⟩ := xc
          replace xc1 : wr.cell? ⟨hq, i.toNat, none⟩ = some (.int .u8 (rd l i)) := xc1
          have hne2 : g2 ≠ hq := fun e => by obtain ⟨cells, hc⟩ := Kd.R_typed HQ.out hq rfl; rw [← e, K2.out] at hc; injection hc with hc; injection hc with _ hc; cases hc
          have hne7 : g7 ≠ hq := fun e => by obtain ⟨cells, hc⟩ := Kd.R_typed HQ.out hq rfl; rw [← e, K7.out] at hc; injection hc with hc; injection hc with _ hc; cases hc
          have PUT := own_put ST.out HQ.out HQF.out HWB.out i (Go.bits .xor .u8 (rd l i) x)
          have SP := Aside0.mk (show LS w _ g fr 9 _ 2 0 0 0 from PUT.2.drw)
          have SQ := Aside0.mk (Kd.R_drew PUT.1)
          have S2 := Aside0.mk (blk_drew (blk_far K2.out (p := ⟨hq, i.toNat, none⟩) hne2 (.int .u8 (Go.bits .xor .u8 (rd l i) x))))
          have S7 := Aside0.mk (blk_drew (blk_far K7.out (p := ⟨hq, i.toNat, none⟩) hne7 (.int .u8 (Go.bits .xor .u8 (rd l i) x))))
          clear hpos hi1 e3 e2 hltq hne2 hne7 PUT
          go_upto_region 11 with (fail)
          go_still_tail 11, (by kernel_rfl)
          change wpList _ _ _ _ _ wr.drew
          go_wp2
          go_roundg m
          case measure => omega
          case rel => exact ⟨i + 1, fr, _, by first | rfl | rw [hw], by omega, ⟨by have := HI.out; omega⟩, ⟨by rw [List.length_set]; exact HL.out⟩, SP, HW, S2, HK2, S7, HK7, SQ, HQF⟩
/-- THE ONE PURE STATEMENT of pelotonlaw17_NetOwn. -/
def pelotonlaw17_NetOwn.Pure : Prop := ∀ (a0_0 : Int) (a0_1 : Int) (l0_2 : List Int) (a1 : Int), ((Lit.int .i64 a0_0).wf = true ∧ (Lit.int .i64 a0_1).wf = true ∧ l0_2.length ≤ maxLen ∧ ∀ y0 ∈ l0_2, (Lit.int .u8 y0).wf = true) → ((Lit.int .u8 a1).wf = true) → pelotonlaw17_NetOwn.f a0_0 a0_1 l0_2 a1 = some true
end Go.Proofs.Ytpaamdppobcmnaa.QNetOwn
