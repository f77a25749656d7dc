-- Written by a program of this session (a turned copy of the print) out of the translation. Lean checks it.
import Derived.Test.YtggcgacndknlaaaQGridPartsx0
import Derived.Test.YtggcgacndknlaaaQGridPartsx1
namespace Go.Proofs.Ytggcgacndknlaaa.QGridParts
open Go.RowKit Go.Proofs.YtggcgacndknlaaaW.PrintWords Go.Proofs.YtggcgacndknlaaaW.PrintLast Go.Proofs.YtggcgacndknlaaaW.PrintMore
attribute [local go_sem] max2_int min2_int max_two min_two max_three min_three max_four min_four   -- for this text's walks alone
open Go.Proofs.YtggcgacndknlaaaW.PrintWords renaming below_alloc → b_a, pw_below_drewN → b_n, below_drew1 → b_d, below_set → b_s, blk_drewN → k_n, blk_drew → k_d, blk_alloc → k_a
open List renaming setIfInBounds_toArray → l_1, set_cons_zero → l_2, set_cons_succ → l_3, map_toArray → l_4, map_cons → l_5, map_nil → l_6, length_drop → l_7, length_take → l_8
set_option linter.unusedVariables false
set_option linter.unusedSimpArgs false

/-! ### grid_Times: function 12, by hand -/
def grid_Times.inn (y : List Int) (lo x : Int) : Nat → Int → List Int → List Int
  | 0, _, xs => xs
  | m + 1, j, xs => grid_Times.inn y lo x m (j + 1) (xs.set (lo + j).toNat (wrap32 (rd xs (lo + j) + wrap32 (x * rd y j))))
def grid_Times.mid (a b : List Int) (n c i : Int) : Nat → Int → List Int → List Int
  | 0, _, xs => xs
  | m + 1, k, xs => grid_Times.mid a b n c i m (k + 1) (grid_Times.inn (grid_row.L b c k) (i * c) (rd (grid_row.L a n i) k) c.toNat 0 xs)
def grid_Times.out (a b : List Int) (n c : Int) : Nat → Int → List Int → List Int
  | 0, _, xs => xs
  | m + 1, i, xs => grid_Times.out a b n c m (i + 1) (grid_Times.mid a b n c i n.toNat 0 xs)
def grid_Times.dims (a0 a1 : Int) (la : List Int) (b1 : Int) (lb : List Int) : Bool := decide (0 ≤ a0 ∧ a0 ≤ 4096 ∧ 0 ≤ a1 ∧ a1 ≤ 4096 ∧ 0 ≤ b1 ∧ b1 ≤ 4096 ∧ a0 * a1 ≤ la.length ∧ a1 * b1 ≤ lb.length)
def grid_Times.f (k : Nat) (a0 a1 : Int) (la : List Int) (b0 b1 : Int) (lb : List Int) : Option (Int × Int × List Int × Int) :=
  (grid_fit.f k [(⟨a0, a1, la⟩ : S24), ⟨b0, b1, lb⟩]).bind fun t => if t = true then (if a1 = b0 then ((grid_New.f a0 b1).bind fun r => if r.2.2.2 = 0 then (if grid_Times.dims a0 a1 la b1 lb = true ∧ r.2.1 = b1 ∧ r.2.2.1.length = (a0 * b1).toNat then some (r.1, b1, grid_Times.out la lb a1 b1 a0.toNat 0 r.2.2.1, 0) else none) else some (0, 0, [], r.2.2.2)) else some (0, 0, [], 30)) else some (0, 0, [], 30)
theorem grid_Times.mono : ∀ a0 a1 a2 a3 a4 a5 k, LeO (grid_Times.f k a0 a1 a2 a3 a4 a5) (grid_Times.f (k + 1) a0 a1 a2 a3 a4 a5) := by
  intro a0 a1 a2 a3 a4 a5 k
  unfold grid_Times.f
  refine LeO.bind (grid_fit.mono _ _) (fun _ => ?_)
  exact LeO.refl _
/-- what stands in memory all along -/
def grid_Times.Pre (w W : World) (g2 g3 g4 : Nat) (a0 a1 : Int) (va : Value) (b0 b1 : Int) (vb : Value) : Prop :=
  W.heap[g2]? = some (.cells #[.int .i64 a0, .int .i64 a1, va] 24 (0, 0)) ∧ W.heap[g3]? = some (.cells #[.int .i64 b0, .int .i64 b1, vb] 24 (0, 0)) ∧ W.heap[g4]? = some (.cells #[.int .i64 0, .int .i64 0, .slice none 0 0] 24 (0, 0)) ∧ Below w.heap.size w W ∧ w.heap.size ≤ g4
theorem grid_Times.Pre.below {w W W' : World} {g2 g3 g4 : Nat} {a0 a1 : Int} {va : Value} {b0 b1 : Int} {vb : Value} (h : grid_Times.Pre w W g2 g3 g4 a0 a1 va b0 b1 vb) (hb : Below W.heap.size W W') : grid_Times.Pre w W' g2 g3 g4 a0 a1 va b0 b1 vb :=
  ⟨blk_below h.1 hb, blk_below h.2.1 hb, blk_below h.2.2.1 hb, below_step h.2.2.2.1 hb, h.2.2.2.2⟩
theorem grid_Times.Pre.set3 {w W : World} {g2 g3 g4 g6 : Nat} {a0 a1 : Int} {va : Value} {b0 b1 : Int} {vb : Value} (h : grid_Times.Pre w W g2 g3 g4 a0 a1 va b0 b1 vb) (h6 : w.heap.size ≤ g6) (n2 : g2 ≠ g6) (n3 : g3 ≠ g6) (n4 : g4 ≠ g6) (u v x : Value) : grid_Times.Pre w (((W.setCell ⟨g6, 0, none⟩ u).setCell ⟨g6, 1, none⟩ v).setCell ⟨g6, 2, none⟩ x) g2 g3 g4 a0 a1 va b0 b1 vb :=
  ⟨set3_other h.1 n2, set3_other h.2.1 n3, set3_other h.2.2.1 n4, below3 h.2.2.2.1 h6, h.2.2.2.2⟩
def grid_Times.Inv (w W : World) (g2 g3 g4 g6 : Nat) (a0 a1 : Int) (va : Value) (b0 b1 : Int) (vb : Value) (q1 : Int) (Ao : Option Addr) (co n : Nat) (xs : List Int) : Prop :=
  grid_Times.Pre w W g2 g3 g4 a0 a1 va b0 b1 vb ∧ W.heap[g6]? = some (.cells #[.int .i64 q1, .int .i64 b1, .slice Ao n co] 24 (0, 0)) ∧ Kd.R (Kd.int .i32) 21 W w.heap.size (fun _ => True) (.slice Ao n co) xs
section
variable {w W W' : World} {g2 g3 g4 g6 : Nat} {a0 a1 : Int} {va : Value} {b0 b1 : Int} {vb : Value} {q1 : Int} {Ao : Option Addr} {co n : Nat} {xs : List Int}
theorem grid_Times.Inv.below (h : grid_Times.Inv w W g2 g3 g4 g6 a0 a1 va b0 b1 vb q1 Ao co n xs) (hb : Below W.heap.size W W') : grid_Times.Inv w W' g2 g3 g4 g6 a0 a1 va b0 b1 vb q1 Ao co n xs :=
  ⟨h.1.below hb, blk_below h.2.1 hb, Kd.R_below h.2.2 hb⟩
theorem grid_Times.Inv.put {go : Nat} (h : grid_Times.Inv w W g2 g3 g4 g6 a0 a1 va b0 b1 vb q1 (some ⟨go, 0, none⟩) co n xs) (hp : 0 < n) (j : Nat) (x : Int) : grid_Times.Inv w (W.setCell ⟨go, j, none⟩ (.int .i32 x)) g2 g3 g4 g6 a0 a1 va b0 b1 vb q1 (some ⟨go, 0, none⟩) co n (xs.set j x) := by
  have hg := Kd.R_putg h.2.2 (j : Int) x
  simp only [Int.toNat_natCast] at hg
  have hn := (Kd.R_reads' h.2.2).1
  obtain ⟨go', co', e, hb, hl, _⟩ := Kd.R_form h.2.2 (by omega)
  injection e with e1 e2 e3
  injection e1 with e1
  injection e1 with e1
  subst e1
  exact ⟨⟨blk_grown h.1.1 hg.2 (Kd.R_ne h.2.2 h.1.1 (by decide)), blk_grown h.1.2.1 hg.2 (Kd.R_ne h.2.2 h.1.2.1 (by decide)), blk_grown h.1.2.2.1 hg.2 (Kd.R_ne h.2.2 h.1.2.2.1 (by decide)), below_set h.1.2.2.2.1 hb, h.1.2.2.2.2⟩, blk_grown h.2.1 hg.2 (Kd.R_ne h.2.2 h.2.1 (by decide)), hg.1⟩
end
set_option maxHeartbeats 8000000 in
set_option maxRecDepth 100000 in
theorem grid_Times.calls (k : Nat) (a0_0 : Int) (a0_1 : Int) (A0_2 : Option Addr) (c0_2 : Nat) (l0_2 : List Int) (a1_0 : Int) (a1_1 : Int) (A1_2 : Option Addr) (c1_2 : Nat) (l1_2 : List Int) (r1 : Int) (r2 : Int) (r3 : List Int) (r4 : Int) (w : World) (hr0_2 : Kd.C (Kd.int .i32) w A0_2 l0_2.length l0_2) (hc0_2 : l0_2.length ≤ c0_2) (hr1_2 : Kd.C (Kd.int .i32) w A1_2 l1_2.length l1_2) (hc1_2 : l1_2.length ≤ c1_2) (h : grid_Times.f k a0_0 a0_1 l0_2 a1_0 a1_1 l1_2 = some (r1, r2, r3, r4)) :
    Calls Try.prog 12 #[.agg #[.int .i64 a0_0, .int .i64 a0_1, .slice A0_2 l0_2.length c0_2], .agg #[.int .i64 a1_0, .int .i64 a1_1, .slice A1_2 l1_2.length c1_2]] w fun e w' => ∃ v2_ : Value, e = .returned (.tuple #[.agg #[.int .i64 r1, .int .i64 r2, v2_], .int .i64 r4]) ∧ Kd.R (Kd.int .i32) 21 w' w.heap.size (fun _ => True) v2_ r3 ∧ Below w.heap.size w w' := by
  have hu24 := Try.underlying24
  have HRA := Aside0.mk hr0_2
  have HCA := Aside0.mk hc0_2
  have HRB := Aside0.mk hr1_2
  have HCB := Aside0.mk hc1_2
  clear hr0_2 hc0_2 hr1_2 hc1_2
  have HB := Aside0.mk (Below.refl w.heap.size w)
  unfold grid_Times.f at h
  obtain ⟨t, h1, h2⟩ := Option.bind_eq_some_iff.1 h
  have H1 := Aside0.mk h1
  have HH := Aside0.mk h2
  clear h h1 h2
  go_enter Try.func12, Try.ntmps12
  go_upto_region 1 with (first | ((with_reducible refine gate_dst (N := 2) rfl ?_); refine box_event ?hg (N := 2) ?hd (cs := #[.int .i64 a0_0, .int .i64 a0_1, .slice A0_2 l0_2.length c0_2]) (t := 24) ?hr ?_; (case hd => rfl); (case hg => rfl); (case hr => first | (go_simp; done) | (go_simp; rfl)); intro g2 hg2 w2 hbox2 hb2; have HB2 := Aside0.mk (below_step HB.out hb2); have K22 := Aside0.mk hbox2; clear hg2 hbox2 hb2) | ((with_reducible refine gate_dst (N := 3) rfl ?_); refine box_event ?hg (N := 3) ?hd (cs := #[.int .i64 a1_0, .int .i64 a1_1, .slice A1_2 l1_2.length c1_2]) (t := 24) ?hr ?_; (case hd => rfl); (case hg => rfl); (case hr => first | (go_simp; done) | (go_simp; rfl)); intro g3 hg3 w3 hbox3 hb3; have HB3 := Aside0.mk (below_step HB2.out hb3); have K32 := Aside0.mk (blk_below K22.out hb3); have K33 := Aside0.mk hbox3; clear hg3 hbox3 hb3) | ((with_reducible refine gate_dst (N := 4) rfl ?_); refine box_event ?hg (N := 4) ?hd (cs := #[.int .i64 0, .int .i64 0, .slice none 0 0]) (t := 24) ?hr ?_; (case hd => rfl); (case hg => rfl); (case hr => first | (go_simp; done) | (go_simp; rfl)); intro g4 hg4 w4 hbox4 hb4; have P4 := Aside0.mk (show grid_Times.Pre w w4 g2 g3 g4 a0_0 a0_1 (.slice A0_2 l0_2.length c0_2) a1_0 a1_1 (.slice A1_2 l1_2.length c1_2) from ⟨blk_below K32.out hb4, blk_below K33.out hb4, hbox4, below_step HB3.out hb4, by rw [hg4]; exact below_size HB3.out⟩); clear hg4 hbox4 hb4 HB2 HB3 K22 K32 K33))
  obtain ⟨x2, y2, z2, _, _, _⟩ := cell3 P4.out.1
  obtain ⟨x3, y3, z3, _, _, _⟩ := cell3 P4.out.2.1
  cases t with
  | false =>
    have h := HH.out
    clear HH
    simp only [Bool.false_eq_true, if_false, Option.some.injEq, Prod.mk.injEq] at h
    obtain ⟨rfl, rfl, rfl, rfl⟩ := h
    go_wp2_with (first | ((with_reducible refine gate_dst (N := 16) rfl ?_); refine Kd.N_lit k24 _ 24 ?hg (N' := 16) ?hd (xs := ([(⟨a0_0, a0_1, l0_2⟩ : S24), ⟨a1_0, a1_1, l1_2⟩] : List S24)) (inner := [.int .i64 a0_0, .int .i64 a0_1, .slice A0_2 l0_2.length c0_2, .int .i64 a1_0, .int .i64 a1_1, .slice A1_2 l1_2.length c1_2]) (ok := fun _ => True) (okp := fun _ => True) ?hr ?hp (fun _ hk => hk) trivial (Below.refl _ _) (Nat.le_refl _) (by simp) ?_; (case hd => rfl); (case hg => rfl); (case hr => first | (go_simp; done) | (go_simp; rfl)); (case hp => exact (Reps.c3 (fk24 (⟨a0_0, a0_1, l0_2⟩ : S24) HCA.out (Kd.C_below HRA.out P4.out.2.2.2.1)) (Reps.c3 (fk24 (⟨a1_0, a1_1, l1_2⟩ : S24) HCB.out (Kd.C_below HRB.out P4.out.2.2.2.1)) (Reps.none _ _)))); intro v5 w5 ho5 hb5 hg_ hnew_; clear hg_ hnew_; have P5 := Aside0.mk (P4.out.below hb5); have HO5 := Aside0.mk ho5; clear ho5 hb5; obtain ⟨Ao5, co5, eo5⟩ := Kd.N_slice HO5.out; subst eo5) | (go_at_call 36; (refine (grid_fit.calls k _ _ [(⟨a0_0, a0_1, l0_2⟩ : S24), ⟨a1_0, a1_1, l1_2⟩] _ _ ?side1 ?side2 H1.out).mono ?_); (case side1 => exact (Kd.N_reads' HO5.out).2.2); (case side2 => exact (Kd.N_reads' HO5.out).2.1); rintro e w6 ⟨rfl, hb6⟩; have P6 := Aside0.mk (P5.out.below hb6); clear hb6; obtain ⟨u2, u3, u4, _, _, _⟩ := cell3 P6.out.1; obtain ⟨v2, v3, v4, _, _, _⟩ := cell3 P6.out.2.1; obtain ⟨t2, t3, t4, fz2, fz3, fz4⟩ := cell3 P6.out.2.2.1))
    refine bodyPost_ret (results_ct rfl _ _ g4 24 #[.int .i64 0, .int .i64 0, .slice none 0 0] (0, 0) _ rfl (put3 P6.out.2.2.1) Try.underlying24 rfl (by kernel_rfl)) rfl ?_
    exact ⟨_, rfl, Kd.R_nil _ _ _ _ _, below3 P6.out.2.2.2.1 P6.out.2.2.2.2⟩
  | true =>
    have h := HH.out
    clear HH
    simp only [if_true] at h
    by_cases c1 : a0_1 = a1_0
    · rw [if_pos c1] at h
      have c1a : (a0_1 == a1_0) = true := beq_iff_eq.2 c1
      have c1b : decide (a0_1 = a1_0) = true := decide_eq_true c1
      have c1c : (a0_1 != a1_0) = false := by rw [c1]; simp
      have C1 := Aside0.mk c1
      clear c1
      obtain ⟨r, h3, h4⟩ := Option.bind_eq_some_iff.1 h
      obtain ⟨q1, q2, q3, q4⟩ := r
      have H3 := Aside0.mk h3
      clear h h3
      simp only at h4
      by_cases c2 : q4 = 0
      · rw [if_pos c2] at h4
        have c2a : (q4 == 0) = true := beq_iff_eq.2 c2
        have c2b : decide (q4 = 0) = true := decide_eq_true c2
        by_cases c3 : grid_Times.dims a0_0 a0_1 l0_2 a1_1 l1_2 = true ∧ q2 = a1_1 ∧ q3.length = (a0_0 * a1_1).toNat
        · rw [if_pos c3] at h4
          obtain ⟨c3, c4, c5⟩ := c3
          replace c4 := c4.symm
          subst c4
          subst c2
          have HD := Aside0.mk (of_decide_eq_true c3)
          clear c3
          simp only [Option.some.injEq, Prod.mk.injEq] at h4
          obtain ⟨rfl, rfl, hz, rfl⟩ := h4
          have HZ := Aside0.mk hz
          have HL := Aside0.mk c5
          clear hz c5
          go_upto_region 4 with (first | ((with_reducible refine gate_dst (N := 16) rfl ?_); refine Kd.N_lit k24 _ 24 ?hg (N' := 16) ?hd (xs := ([(⟨a0_0, a0_1, l0_2⟩ : S24), ⟨a1_0, a1_1, l1_2⟩] : List S24)) (inner := [.int .i64 a0_0, .int .i64 a0_1, .slice A0_2 l0_2.length c0_2, .int .i64 a1_0, .int .i64 a1_1, .slice A1_2 l1_2.length c1_2]) (ok := fun _ => True) (okp := fun _ => True) ?hr ?hp (fun _ hk => hk) trivial (Below.refl _ _) (Nat.le_refl _) (by simp) ?_; (case hd => rfl); (case hg => rfl); (case hr => first | (go_simp; done) | (go_simp; rfl)); (case hp => exact (Reps.c3 (fk24 (⟨a0_0, a0_1, l0_2⟩ : S24) HCA.out (Kd.C_below HRA.out P4.out.2.2.2.1)) (Reps.c3 (fk24 (⟨a1_0, a1_1, l1_2⟩ : S24) HCB.out (Kd.C_below HRB.out P4.out.2.2.2.1)) (Reps.none _ _)))); intro v5 w5 ho5 hb5 hg_ hnew_; clear hg_ hnew_; have P5 := Aside0.mk (P4.out.below hb5); have HO5 := Aside0.mk ho5; clear ho5 hb5; obtain ⟨Ao5, co5, eo5⟩ := Kd.N_slice HO5.out; subst eo5) | (go_at_call 36; (refine (grid_fit.calls k _ _ [(⟨a0_0, a0_1, l0_2⟩ : S24), ⟨a1_0, a1_1, l1_2⟩] _ _ ?side1 ?side2 H1.out).mono ?_); (case side1 => exact (Kd.N_reads' HO5.out).2.2); (case side2 => exact (Kd.N_reads' HO5.out).2.1); rintro e w6 ⟨rfl, hb6⟩; have P6 := Aside0.mk (P5.out.below hb6); clear hb6; obtain ⟨u2, u3, u4, _, _, _⟩ := cell3 P6.out.1; obtain ⟨v2, v3, v4, _, _, _⟩ := cell3 P6.out.2.1; obtain ⟨t2, t3, t4, fz2, fz3, fz4⟩ := cell3 P6.out.2.2.1) | (go_at_call 20; (refine (grid_New.calls _ _ _ _ _ _ _ H3.out).mono ?_); rintro e w7 ⟨v7, rfl, ho7, hb7⟩; have P7 := Aside0.mk (P6.out.below hb7); have HO7 := Aside0.mk (Kd.R_lower ho7 (below_size P6.out.2.2.2.1)); clear ho7 hb7; obtain ⟨Ao, co, eo⟩ := Kd.R_slice HO7.out; subst eo) | ((with_reducible refine gate_dst (N := 6) rfl ?_); refine box_event ?hg (N := 6) ?hd (cs := #[.int .i64 0, .int .i64 0, .slice none 0 0]) (t := 24) ?hr ?_; (case hd => rfl); (case hg => rfl); (case hr => first | (go_simp; done) | (go_simp; rfl)); intro g6 hg6 w8 hbox6 hb8; have P8 := Aside0.mk (P7.out.below hb8); have K6 := Aside0.mk hbox6; have HO8 := Aside0.mk (Kd.R_below HO7.out hb8); have E6 := Aside0.mk (show w.heap.size ≤ g6 from (by rw [hg6]; exact below_size P7.out.2.2.2.1)); have N2 := Aside0.mk (show g2 ≠ g6 from (by have := blk_lt P7.out.1; omega)); have N3 := Aside0.mk (show g3 ≠ g6 from (by have := blk_lt P7.out.2.1; omega)); have N4 := Aside0.mk (show g4 ≠ g6 from (by have := blk_lt P7.out.2.2.1; omega)); clear hg6 hbox6 hb8; obtain ⟨x6, y6, z6, k6, l6, m6⟩ := cell3 K6.out))
          have I9 := Aside0.mk (show grid_Times.Inv w _ g2 g3 g4 g6 a0_0 a0_1 (.slice A0_2 l0_2.length c0_2) a1_0 a1_1 (.slice A1_2 l1_2.length c1_2) q1 Ao co q3.length q3 from ⟨P8.out.set3 E6.out N2.out N3.out N4.out (.int .i64 q1) (.int .i64 a1_1) (.slice Ao q3.length co), put3 K6.out, far3 HO8.out K6.out (by decide)⟩)
          generalize hW : (((w8.setCell ⟨g6, 0, none⟩ (.int .i64 q1)).setCell ⟨g6, 1, none⟩ (.int .i64 a1_1)).setCell ⟨g6, 2, none⟩ (.slice Ao q3.length co)) = W9 at *
          clear hW P4 P5 P6 P7 P8 K6 HO7 HO8 HO5 x2 y2 z2 x3 y3 z3 u2 u3 u4 v2 v3 v4 t2 t3 t4 fz2 fz3 fz4 x6 y6 z6 k6 l6 m6 c1a c1b c2a N2 N3 N4
          obtain ⟨x2, y2, z2, _, _, _⟩ := cell3 I9.out.1.1
          go_wp2
          have HLc := Aside0.mk (show (q3.length : Int) = a0_0 * a1_1 from by have h1 := HL.out; have h2 := HD.out; have h3 := Int.mul_nonneg h2.1 h2.2.2.2.2.1; omega)
          go_loopg [41] a0_0.toNat (fun m v41 W => ∃ (i : Int) (xs : List Int), v41 = .int .i64 i ∧ 0 ≤ i ∧ Aside0 (i + m = a0_0) ∧ Aside0 (grid_Times.out l0_2 l1_2 a0_1 a1_1 m i xs = r3) ∧ Aside0 (xs.length = q3.length) ∧ Aside0 (grid_Times.Inv w W g2 g3 g4 g6 a0_0 a0_1 (.slice A0_2 l0_2.length c0_2) a1_0 a1_1 (.slice A1_2 l1_2.length c1_2) q1 Ao co q3.length xs))
          case atStart => exact ⟨0, q3, rfl, by omega, ⟨by have := HD.out; omega⟩, HZ, ⟨rfl⟩, I9⟩
          case round =>
            obtain ⟨i, xs, rfl, hi0, HI, HX, HXL, IV⟩ := hrel
            clear x2 y2 z2
            obtain ⟨x2, y2, z2, _, _, _⟩ := cell3 IV.out.1.1
            obtain ⟨x4, y4, z4, k4, l4, m4⟩ := cell3 IV.out.1.2.2.1
            obtain ⟨x6, y6, z6, _, _, _⟩ := cell3 IV.out.2.1
            cases gk with
            | zero =>
              have p1 : decide (i < a0_0) = false := decide_eq_false (by have := HI.out; omega)
              go_wp2
              have hx : xs = r3 := HX.out
              refine bodyPost_ret (results_ct rfl _ _ g4 24 #[.int .i64 q1, .int .i64 a1_1, .slice Ao q3.length co] (0, 0) _ rfl (put3 IV.out.1.2.2.1) Try.underlying24 rfl (by kernel_rfl)) rfl ?_
              exact ⟨_, rfl, by rw [← hx]; exact far3 IV.out.2.2 IV.out.1.2.2.1 (by decide), below3 IV.out.1.2.2.2.1 IV.out.1.2.2.2.2⟩
            | succ m =>
              have p1 : decide (i < a0_0) = true := decide_eq_true (by have := HI.out; omega)
              have HM := Aside0.mk (show 0 ≤ i * a1_1 ∧ i * a1_1 + a1_1 ≤ (q3.length : Int) ∧ 0 ≤ i * a0_1 ∧ i * a0_1 + a0_1 ≤ (l0_2.length : Int) from by
                have h1 := HI.out; have h2 := HD.out
                have e1 : (i + 1) * a1_1 ≤ a0_0 * a1_1 := Int.mul_le_mul_of_nonneg_right (by omega) h2.2.2.2.2.1
                have e2 : (i + 1) * a0_1 ≤ a0_0 * a0_1 := Int.mul_le_mul_of_nonneg_right (by omega) h2.2.2.1
                have e3 := Int.mul_nonneg hi0 h2.2.2.2.2.1
                have e4 := Int.mul_nonneg hi0 h2.2.2.1
                rw [Int.add_mul, Int.one_mul] at e1 e2
                have := HLc.out
                omega)
              have HC := Aside0.mk (show q3.length ≤ co from (Kd.R_reads' IV.out.2.2).2.1)
              go_wp2_with (first | (go_at_call 37; (with_reducible refine (grid_row.calls q1 a1_1 Ao co q3.length i _ HC.out hi0 ?sa ?sb ?sc ?sd).mono ?_); (case sa => have := HI.out; have := HD.out; omega); (case sb => exact HD.out.2.2.2.2.1); (case sc => exact HD.out.2.2.2.2.2.1); (case sd => rw [Int.add_mul, Int.one_mul]; exact HM.out.2.1); rintro e wA ⟨At, nt, ct, rfl, hAt, hnt, _, hbA⟩; have HNT := Aside0.mk hnt; clear hnt; have IA := Aside0.mk (IV.out.below hbA); have HAt := Aside0.mk hAt; clear hAt hbA; obtain ⟨s2, s3, s4, _, _, _⟩ := cell3 IA.out.1.1) | (go_at_call 37; (with_reducible refine (grid_row.calls a0_0 a0_1 A0_2 c0_2 l0_2.length i _ HCA.out hi0 ?sa ?sb ?sc ?sd).mono ?_); (case sa => have := HI.out; have := HD.out; omega); (case sb => exact HD.out.2.2.1); (case sc => exact HD.out.2.2.2.1); (case sd => rw [Int.add_mul, Int.one_mul]; exact HM.out.2.2.2); rintro e wB ⟨Ar, nr, cr, rfl, hAr, hnr, _, hbB⟩; have HNR := Aside0.mk hnr; clear hnr; have IB := Aside0.mk (IA.out.below hbB); have HAr := Aside0.mk (show Kd.C (Kd.int .i32) w Ar a0_1.toNat (grid_row.L l0_2 a0_1 i) from by rw [hAr]; exact grid_row.C a0_1 i HRA.out HCA.out HM.out.2.2.1 HD.out.2.2.1 HM.out.2.2.2); clear hAr hbB))
              have hx : grid_Times.out l0_2 l1_2 a0_1 a1_1 m (i + 1) (grid_Times.mid l0_2 l1_2 a0_1 a1_1 i a0_1.toNat 0 xs) = r3 := HX.out
              obtain ⟨zs, hzs⟩ : ∃ zs, grid_Times.mid l0_2 l1_2 a0_1 a1_1 i a0_1.toNat 0 xs = zs := ⟨_, rfl⟩
              rw [hzs] at hx
              have HX2 := Aside0.mk hx
              have HZS := Aside0.mk hzs
              clear hx hzs HX
              go_loopg [51] a0_1.toNat (fun m v51 W => ∃ (k : Int) (ys : List Int), v51 = .int .i64 k ∧ 0 ≤ k ∧ Aside0 (k + m = a0_1) ∧ Aside0 (grid_Times.mid l0_2 l1_2 a0_1 a1_1 i m k ys = zs) ∧ Aside0 (ys.length = q3.length) ∧ Aside0 (grid_Times.Inv w W g2 g3 g4 g6 a0_0 a0_1 (.slice A0_2 l0_2.length c0_2) a1_0 a1_1 (.slice A1_2 l1_2.length c1_2) q1 Ao co q3.length ys))
              case atStart => exact ⟨0, xs, rfl, by omega, ⟨by have := HD.out; omega⟩, HZS, HXL, IB⟩
              case round =>
                clear x2 y2 z2 x4 y4 z4 k4 l4 m4 x6 y6 z6 s2 s3 s4 IA IB IV HXL p1
                obtain ⟨kk, ys, rfl, hk0, HK, HY, HYL, IV⟩ := hrel
                obtain ⟨x3, y3, z3, _, _, _⟩ := cell3 IV.out.1.2.1
                cases gk with
                | zero =>
                  have p2 : decide (kk < (nr : Int)) = false := decide_eq_false (by have := HK.out; have := HNR.out; omega)
                  have hw : IntKind.i64.wrap (i + 1) = i + 1 := by rw [i64_w]; have := HI.out; have := HD.out; unfold wrap64; omega
                  go_wp2
                  have hy : ys = zs := HY.out
                  go_roundg m
                  case measure => omega
                  case rel => exact ⟨i + 1, ys, by first | rfl | rw [hw], by omega, ⟨by have := HI.out; omega⟩, ⟨by rw [hy]; exact HX2.out⟩, HYL, IV⟩
                | succ m2 =>
                  have p2 : decide (kk < (nr : Int)) = true := decide_eq_true (by have := HK.out; have := HNR.out; omega)
                  have p3 : decide (0 ≤ kk) = true := decide_eq_true hk0
                  have p7 : (kk < (nr : Int)) = True := eq_true (of_decide_eq_true p2)
                  have p8 : (0 ≤ kk) = True := eq_true hk0
                  have HM2 := Aside0.mk (show 0 ≤ kk * a1_1 ∧ kk * a1_1 + a1_1 ≤ (l1_2.length : Int) from by
                    have h1 := HK.out; have h2 := HD.out
                    have e1 : (kk + 1) * a1_1 ≤ a0_1 * a1_1 := Int.mul_le_mul_of_nonneg_right (by omega) h2.2.2.2.2.1
                    have e3 := Int.mul_nonneg hk0 h2.2.2.2.2.1
                    rw [Int.add_mul, Int.one_mul] at e1
                    omega)
                  obtain ⟨ad, eA, hx⟩ := Kd.at_int (Kd.C_below HAr.out IV.out.1.2.2.2.1) kk hk0 (by have := HK.out; omega)
                  subst eA
                  obtain ⟨x, hX⟩ : ∃ x, rd (grid_row.L l0_2 a0_1 i) kk = x := ⟨_, rfl⟩
                  rw [hX] at hx
                  have hy : grid_Times.mid l0_2 l1_2 a0_1 a1_1 i m2 (kk + 1) (grid_Times.inn (grid_row.L l1_2 a1_1 kk) (i * a1_1) x a1_1.toNat 0 ys) = zs := by rw [← hX]; exact HY.out
                  clear hX
                  obtain ⟨us, hus⟩ : ∃ us, grid_Times.inn (grid_row.L l1_2 a1_1 kk) (i * a1_1) x a1_1.toNat 0 ys = us := ⟨_, rfl⟩
                  rw [hus] at hy
                  have HY2 := Aside0.mk hy
                  have HUS := Aside0.mk hus
                  clear hy hus HY
                  go_wp2_with (first | (go_at_call 37; (with_reducible refine (grid_row.calls a1_0 a1_1 A1_2 c1_2 l1_2.length kk _ HCB.out hk0 ?sa ?sb ?sc ?sd).mono ?_); (case sa => have := HK.out; have := HD.out; omega); (case sb => exact HD.out.2.2.2.2.1); (case sc => exact HD.out.2.2.2.2.2.1); (case sd => rw [Int.add_mul, Int.one_mul]; exact HM2.out.2); rintro e wC ⟨Ab, nb, cb, rfl, hAb, hnb, _, hbC⟩; have HNB := Aside0.mk hnb; clear hnb; have IC := Aside0.mk (IV.out.below hbC); have HAb := Aside0.mk (show Kd.C (Kd.int .i32) w Ab a1_1.toNat (grid_row.L l1_2 a1_1 kk) from by rw [hAb]; exact grid_row.C a1_1 kk HRB.out HCB.out HM2.out.1 HD.out.2.2.2.2.1 HM2.out.2); clear hAb hbC))
                  go_loopg [60] a1_1.toNat (fun m v60 W => ∃ (j : Int) (ts : List Int), v60 = .int .i64 j ∧ 0 ≤ j ∧ Aside0 (j + m = a1_1) ∧ Aside0 (grid_Times.inn (grid_row.L l1_2 a1_1 kk) (i * a1_1) x m j ts = us) ∧ Aside0 (ts.length = q3.length) ∧ Aside0 (grid_Times.Inv w W g2 g3 g4 g6 a0_0 a0_1 (.slice A0_2 l0_2.length c0_2) a1_0 a1_1 (.slice A1_2 l1_2.length c1_2) q1 Ao co q3.length ts))
                  case atStart => exact ⟨0, ys, rfl, by omega, ⟨by have := HD.out; omega⟩, HUS, HYL, IC⟩
                  case round =>
                    clear x3 y3 z3 IC IV HYL p2 p3 p7 p8 hx
                    obtain ⟨j, ts, rfl, hj0, HJ, HT, HTL, IV⟩ := hrel
                    cases gk with
                    | zero =>
                      have p4 : decide (j < (nb : Int)) = false := decide_eq_false (by have := HJ.out; have := HNB.out; omega)
                      have hw : IntKind.i64.wrap (kk + 1) = kk + 1 := by rw [i64_w]; have := HK.out; have := HD.out; unfold wrap64; omega
                      go_wp2
                      have hy : ts = us := HT.out
                      go_roundg m2
                      case measure => omega
                      case rel => exact ⟨kk + 1, ts, by first | rfl | rw [hw], by omega, ⟨by have := HK.out; omega⟩, ⟨by rw [hy]; exact HY2.out⟩, HTL, IV⟩
                    | succ m3 =>
                      have p4 : decide (j < (nb : Int)) = true := decide_eq_true (by have := HJ.out; have := HNB.out; omega)
                      have p5 : decide (0 ≤ j) = true := decide_eq_true hj0
                      have p6 : decide (j < (nt : Int)) = true := decide_eq_true (by have := HJ.out; have := HNT.out; omega)
                      have p7 : (j < (nb : Int)) = True := eq_true (of_decide_eq_true p4)
                      have p8 : (0 ≤ j) = True := eq_true hj0
                      have p9 : (j < (nt : Int)) = True := eq_true (of_decide_eq_true p6)
                      have hpos : 0 < a1_1 := by have := HJ.out; omega
                      have hn0 : 0 < ts.length := by rw [HTL.out]; have := HM.out; omega
                      obtain ⟨go, cg, eo, gb, gl, cl, hcl⟩ := Kd.R_form IV.out.2.2 hn0
                      have eo' : Ao = some ⟨go, 0, none⟩ := by injection eo
                      subst eo'
                      have hlo := HM.out
                      have hAt' : At = some ⟨go, (i * a1_1).toNat, none⟩ := HAt.out.trans (grid_row.at_ rfl (by have := HC.out; omega))
                      subst hAt'
                      obtain ⟨hcl, hfz⟩ := Kd.R_celln 0 IV.out.2.2 (i * a1_1 + j) (by omega) (by have := HJ.out; omega)
                      obtain ⟨ae, eB, hyb⟩ := Kd.at_int (Kd.C_below HAb.out IV.out.1.2.2.2.1) j hj0 (by have := HJ.out; omega)
                      subst eB
                      obtain ⟨y, hY⟩ : ∃ y, rd (grid_row.L l1_2 a1_1 kk) j = y := ⟨_, rfl⟩
                      rw [hY] at hyb
                      have et : (i * a1_1 + j).toNat = (i * a1_1).toNat + j.toNat := by omega
                      rw [et] at hcl hfz
                      have hw : IntKind.i64.wrap (j + 1) = j + 1 := by rw [i64_w]; have := HJ.out; have := HD.out; unfold wrap64; omega
                      go_wp2
                      have ht : grid_Times.inn (grid_row.L l1_2 a1_1 kk) (i * a1_1) x m3 (j + 1) (ts.set (i * a1_1 + j).toNat (wrap32 (rd ts (i * a1_1 + j) + wrap32 (x * rd (grid_row.L l1_2 a1_1 kk) j)))) = us := HT.out
                      rw [et, hY] at ht
                      have IP := IV.out.put (by rw [← HTL.out]; exact hn0) ((i * a1_1).toNat + j.toNat) (wrap32 (rd ts (i * a1_1 + j) + wrap32 (x * y)))
                      go_roundg m3
                      case measure => omega
                      case rel => exact ⟨j + 1, _, rfl, by omega, ⟨by have := HJ.out; omega⟩, ⟨ht⟩, ⟨by rw [List.length_set]; exact HTL.out⟩, ⟨IP⟩⟩
        · rw [if_neg c3] at h4; cases h4
      · rw [if_neg c2] at h4
        have c2a : (q4 == 0) = false := beq_eq_false_iff_ne.2 c2
        have c2b : decide (q4 = 0) = false := decide_eq_false c2
        simp only [Option.some.injEq, Prod.mk.injEq] at h4
        obtain ⟨rfl, rfl, rfl, rfl⟩ := h4
        go_upto_region 4 with (first | ((with_reducible refine gate_dst (N := 16) rfl ?_); refine Kd.N_lit k24 _ 24 ?hg (N' := 16) ?hd (xs := ([(⟨a0_0, a0_1, l0_2⟩ : S24), ⟨a1_0, a1_1, l1_2⟩] : List S24)) (inner := [.int .i64 a0_0, .int .i64 a0_1, .slice A0_2 l0_2.length c0_2, .int .i64 a1_0, .int .i64 a1_1, .slice A1_2 l1_2.length c1_2]) (ok := fun _ => True) (okp := fun _ => True) ?hr ?hp (fun _ hk => hk) trivial (Below.refl _ _) (Nat.le_refl _) (by simp) ?_; (case hd => rfl); (case hg => rfl); (case hr => first | (go_simp; done) | (go_simp; rfl)); (case hp => exact (Reps.c3 (fk24 (⟨a0_0, a0_1, l0_2⟩ : S24) HCA.out (Kd.C_below HRA.out P4.out.2.2.2.1)) (Reps.c3 (fk24 (⟨a1_0, a1_1, l1_2⟩ : S24) HCB.out (Kd.C_below HRB.out P4.out.2.2.2.1)) (Reps.none _ _)))); intro v5 w5 ho5 hb5 hg_ hnew_; clear hg_ hnew_; have P5 := Aside0.mk (P4.out.below hb5); have HO5 := Aside0.mk ho5; clear ho5 hb5; obtain ⟨Ao5, co5, eo5⟩ := Kd.N_slice HO5.out; subst eo5) | (go_at_call 36; (refine (grid_fit.calls k _ _ [(⟨a0_0, a0_1, l0_2⟩ : S24), ⟨a1_0, a1_1, l1_2⟩] _ _ ?side1 ?side2 H1.out).mono ?_); (case side1 => exact (Kd.N_reads' HO5.out).2.2); (case side2 => exact (Kd.N_reads' HO5.out).2.1); rintro e w6 ⟨rfl, hb6⟩; have P6 := Aside0.mk (P5.out.below hb6); clear hb6; obtain ⟨u2, u3, u4, _, _, _⟩ := cell3 P6.out.1; obtain ⟨v2, v3, v4, _, _, _⟩ := cell3 P6.out.2.1; obtain ⟨t2, t3, t4, fz2, fz3, fz4⟩ := cell3 P6.out.2.2.1) | (go_at_call 20; (refine (grid_New.calls _ _ _ _ _ _ _ H3.out).mono ?_); rintro e w7 ⟨v7, rfl, ho7, hb7⟩; have P7 := Aside0.mk (P6.out.below hb7); have HO7 := Aside0.mk (Kd.R_lower ho7 (below_size P6.out.2.2.2.1)); clear ho7 hb7; obtain ⟨Ao, co, eo⟩ := Kd.R_slice HO7.out; subst eo) | ((with_reducible refine gate_dst (N := 6) rfl ?_); refine box_event ?hg (N := 6) ?hd (cs := #[.int .i64 0, .int .i64 0, .slice none 0 0]) (t := 24) ?hr ?_; (case hd => rfl); (case hg => rfl); (case hr => first | (go_simp; done) | (go_simp; rfl)); intro g6 hg6 w8 hbox6 hb8; have P8 := Aside0.mk (P7.out.below hb8); have K6 := Aside0.mk hbox6; have HO8 := Aside0.mk (Kd.R_below HO7.out hb8); have E6 := Aside0.mk (show w.heap.size ≤ g6 from (by rw [hg6]; exact below_size P7.out.2.2.2.1)); have N2 := Aside0.mk (show g2 ≠ g6 from (by have := blk_lt P7.out.1; omega)); have N3 := Aside0.mk (show g3 ≠ g6 from (by have := blk_lt P7.out.2.1; omega)); have N4 := Aside0.mk (show g4 ≠ g6 from (by have := blk_lt P7.out.2.2.1; omega)); clear hg6 hbox6 hb8; obtain ⟨x6, y6, z6, k6, l6, m6⟩ := cell3 K6.out))
        have P9 := Aside0.mk (show grid_Times.Pre w _ g2 g3 g4 a0_0 a0_1 (.slice A0_2 l0_2.length c0_2) a1_0 a1_1 (.slice A1_2 l1_2.length c1_2) from P8.out.set3 E6.out N2.out N3.out N4.out (.int .i64 q1) (.int .i64 q2) (.slice Ao q3.length co))
        generalize hW : (((w8.setCell ⟨g6, 0, none⟩ (.int .i64 q1)).setCell ⟨g6, 1, none⟩ (.int .i64 q2)).setCell ⟨g6, 2, none⟩ (.slice Ao q3.length co)) = W9 at *
        obtain ⟨t2, t3, t4, fz2, fz3, fz4⟩ := cell3 P9.out.2.2.1
        go_wp2
        refine bodyPost_ret (results_ct rfl _ _ g4 24 #[.int .i64 0, .int .i64 0, .slice none 0 0] (0, 0) _ rfl (put3 P9.out.2.2.1) Try.underlying24 rfl (by kernel_rfl)) rfl ?_
        exact ⟨_, rfl, Kd.R_nil _ _ _ _ _, below3 P9.out.2.2.2.1 P9.out.2.2.2.2⟩
    · rw [if_neg c1] at h
      have c1a : (a0_1 == a1_0) = false := beq_eq_false_iff_ne.2 c1
      have c1b : decide (a0_1 = a1_0) = false := decide_eq_false c1
      clear c1
      simp only [Option.some.injEq, Prod.mk.injEq] at h
      obtain ⟨rfl, rfl, rfl, rfl⟩ := h
      go_wp2_with (first | ((with_reducible refine gate_dst (N := 16) rfl ?_); refine Kd.N_lit k24 _ 24 ?hg (N' := 16) ?hd (xs := ([(⟨a0_0, a0_1, l0_2⟩ : S24), ⟨a1_0, a1_1, l1_2⟩] : List S24)) (inner := [.int .i64 a0_0, .int .i64 a0_1, .slice A0_2 l0_2.length c0_2, .int .i64 a1_0, .int .i64 a1_1, .slice A1_2 l1_2.length c1_2]) (ok := fun _ => True) (okp := fun _ => True) ?hr ?hp (fun _ hk => hk) trivial (Below.refl _ _) (Nat.le_refl _) (by simp) ?_; (case hd => rfl); (case hg => rfl); (case hr => first | (go_simp; done) | (go_simp; rfl)); (case hp => exact (Reps.c3 (fk24 (⟨a0_0, a0_1, l0_2⟩ : S24) HCA.out (Kd.C_below HRA.out P4.out.2.2.2.1)) (Reps.c3 (fk24 (⟨a1_0, a1_1, l1_2⟩ : S24) HCB.out (Kd.C_below HRB.out P4.out.2.2.2.1)) (Reps.none _ _)))); intro v5 w5 ho5 hb5 hg_ hnew_; clear hg_ hnew_; have P5 := Aside0.mk (P4.out.below hb5); have HO5 := Aside0.mk ho5; clear ho5 hb5; obtain ⟨Ao5, co5, eo5⟩ := Kd.N_slice HO5.out; subst eo5) | (go_at_call 36; (refine (grid_fit.calls k _ _ [(⟨a0_0, a0_1, l0_2⟩ : S24), ⟨a1_0, a1_1, l1_2⟩] _ _ ?side1 ?side2 H1.out).mono ?_); (case side1 => exact (Kd.N_reads' HO5.out).2.2); (case side2 => exact (Kd.N_reads' HO5.out).2.1); rintro e w6 ⟨rfl, hb6⟩; have P6 := Aside0.mk (P5.out.below hb6); clear hb6; obtain ⟨u2, u3, u4, _, _, _⟩ := cell3 P6.out.1; obtain ⟨v2, v3, v4, _, _, _⟩ := cell3 P6.out.2.1; obtain ⟨t2, t3, t4, fz2, fz3, fz4⟩ := cell3 P6.out.2.2.1))
      refine bodyPost_ret (results_ct rfl _ _ g4 24 #[.int .i64 0, .int .i64 0, .slice none 0 0] (0, 0) _ rfl (put3 P6.out.2.2.1) Try.underlying24 rfl (by kernel_rfl)) rfl ?_
      exact ⟨_, rfl, Kd.R_nil _ _ _ _ _, below3 P6.out.2.2.2.1 P6.out.2.2.2.2⟩
/-! ### pelotonlaw03_two: function 18 -/
def pelotonlaw03_two.f (l0 : List Int) : Option (Int × Int × List Int) := some (wrap64 ((l0.length : Int) / 2), 2, l0)
set_option maxHeartbeats 60000000 in
set_option maxRecDepth 100000 in
theorem pelotonlaw03_two.calls (P0_ : Nat → Prop) (u9000_ : Value) (l0 : List Int) (r1 : Int) (r2 : Int) (r3 : List Int) (w0 w : World) (hB : Below w0.heap.size w0 w) (ho0 : Kd.R (Kd.int .i32) 21 w w0.heap.size P0_ u9000_ l0) (h : pelotonlaw03_two.f l0 = some (r1, r2, r3)) :
  Calls Try.prog 18 #[u9000_] w fun e w' => ∃ v2_ : Value, e = .returned (.agg #[.int .i64 r1, .int .i64 r2, v2_]) ∧ Kd.R (Kd.int .i32) 21 w' w0.heap.size (fun k_ => (P0_ k_ ∨ w.heap.size ≤ k_)) v2_ r3 ∧ Below w0.heap.size w0 w' ∧ Kept w w' (fun k_ => P0_ k_) := by
 have hu24 := Try.underlying24
 have HO0 := Aside0.mk (show Kd.R (Kd.int .i32) 21 w w0.heap.size (fun k_ => (P0_ k_ ∨ w.heap.size ≤ k_)) u9000_ l0 from Kd.R_mono ho0 (fun k_ hk => (.inl hk)))
 have HK := Aside0.mk (Kept.refl w (fun k_ => P0_ k_))
 have HW0 := Aside0.mk hB.size
 have HB := Aside0.mk hB
 clear hB
 have H : (some (wrap64 ((l0.length : Int) / 2), 2, l0)) = some (r1, r2, r3) := h
 clear h
 simp only [Option.some.injEq, Prod.mk.injEq] at H
 obtain ⟨rfl, rfl, rfl⟩ := H
 go_enter Try.func18, Try.ntmps18
 go_wp2_with (first | ((with_reducible refine gate_dst (N := 2) rfl ?_); refine box_event ?hg (N := 2) ?hd (cs := #[.int .i64 0, .int .i64 0, .slice none 0 0]) (t := 24) ?hr ?_; (case hd => rfl); (case hg => rfl); (case hr => first | (go_simp; done) | (go_simp; rfl)); intro gb120 hg w2 hbox hb; have BK120 := Aside0.mk (hbox); have GW120 := Aside0.mk ((by rw [hg]; exact (by first | exact HK.out.1 | exact (show Kept w _ (fun k_ => P0_ k_) from by repeat (first | (with_reducible first | exact HK.out | apply Kept.alloc | apply Kept.drewN | apply Kept.drew) | exact HK.out)).1) : w.heap.size ≤ gb120)); have GE120 := Aside0.mk ((by rw [hg]; exact (below_size (bw_ HB)) : w0.heap.size ≤ gb120)); replace HO0 := Aside0.mk (Kd.R_below (tR_ HO0) hb); replace HK := Aside0.mk (Kept.below (S := (fun k_ => P0_ k_)) (by repeat (first | (with_reducible first | exact HK.out | apply Kept.alloc | apply Kept.drewN | apply Kept.drew) | exact HK.out)) hb); replace HB := Aside0.mk (below_step (bw_ HB) hb); clear hb hbox hg; obtain ⟨Ao3, co3, eo3⟩ := Kd.R_slice HO0.out; subst eo3; have hcz4_0 := bc_0 BK120; have hcz4_1 := bc_1 BK120; have hcz4_2 := bc_2 BK120; have hfz4_0 := blk_frozen BK120.out 0; have hfz4_1 := blk_frozen BK120.out 1; have hfz4_2 := blk_frozen BK120.out 2))
 refine bodyPost_ret (results_cell_row rfl _ _ gb120 24 #[.int .i64 (wrap64 ((l0.length : Int) / 2)), .int .i64 2, .slice Ao3 l0.length co3] (0, 0) _ rfl (by (with_reducible repeat (first | refine k_n ?_ _ | refine k_d ?_ | refine k_a ?_ _)); refine blk_put (cs := #[.int .i64 (wrap64 ((l0.length : Int) / 2)), .int .i64 2, .slice none 0 0]) ?_ 2 _ rfl; (with_reducible repeat (first | refine k_n ?_ _ | refine k_d ?_ | refine k_a ?_ _)); refine blk_put (cs := #[.int .i64 (wrap64 ((l0.length : Int) / 2)), .int .i64 0, .slice none 0 0]) ?_ 1 _ rfl; (with_reducible repeat (first | refine k_n ?_ _ | refine k_d ?_ | refine k_a ?_ _)); refine blk_put (cs := #[.int .i64 0, .int .i64 0, .slice none 0 0]) ?_ 0 _ rfl; (with_reducible repeat (first | refine k_n ?_ _ | refine k_d ?_ | refine k_a ?_ _)); exact BK120.out) Try.underlying24 rfl (by kernel_rfl)) rfl ?_
 exact ⟨_, by first | rfl | (simp [errW_none, errW_some] <;> rfl) | (simp [*, errW_none, errW_some] <;> rfl), by (with_reducible repeat (first | apply Kd.R_alloc | apply Kd.R_drewN | apply Kd.R_drew)); exact Kd.R_mono (Kd.R_far (p := ⟨gb120, 2, none⟩) (Kd.R_far (p := ⟨gb120, 1, none⟩) (Kd.R_far (p := ⟨gb120, 0, none⟩) (Kd.R_types HO0.out BK120.out (by decide)) (fun _ hk => hk.2) (.int .i64 (wrap64 ((l0.length : Int) / 2)))) (fun _ hk => hk.2) (.int .i64 2)) (fun _ hk => hk.2) (.slice Ao3 l0.length co3)) (fun _ hk => hk.1), by repeat (first | (with_reducible first | exact HB.out | apply b_a | apply b_n | apply b_d | refine b_s ?_ GE120.out) | exact HB.out), by repeat (first | (with_reducible first | exact HK.out | apply Kept.alloc | apply Kept.drewN | apply Kept.drew | refine Kept.setCell ?_ (.inr GW120.out) _) | exact HK.out)⟩

/-! ### grid_Turn: function 22, by hand -/
def grid_Turn.T3 : Bool × List (List Nat × List Nat) := (true, [([], []), ([0], [0]), ([], []), ([2], [2]), ([], []), ([4], [4]), ([5], [5]), ([6, 6], [6]), ([1, 3, 7], [1, 3, 7]), ([], []), ([9, 8, 0, 1, 2, 3, 4, 5, 6, 7, 8, 9], [8, 9])])
def grid_Turn.B3 : List Nat := [0, 1, 0, 4, 0, 16, 48, 112, 255, 0, 1023]
theorem grid_Turn.tab3 : rtab .any (opsOf Try.f22 3) = grid_Turn.T3 := by kernel_rfl
theorem grid_Turn.bits3 : waitsOk grid_Turn.T3.2 grid_Turn.B3 = true := by kernel_rfl
def grid_Turn.inn (y : List Int) (a0 i : Int) : Nat → Int → List Int → List Int
  | 0, _, xs => xs
  | m + 1, k, xs => grid_Turn.inn y a0 i m (k + 1) (xs.set (k * a0 + i).toNat (rd y k))
def grid_Turn.out (l : List Int) (a0 a1 : Int) : Nat → Int → List Int → List Int
  | 0, _, xs => xs
  | m + 1, i, xs => grid_Turn.out l a0 a1 m (i + 1) (grid_Turn.inn (grid_row.L l a1 i) a0 i a1.toNat 0 xs)
def grid_Turn.dims (a0 a1 : Int) (l : List Int) : Bool := decide (0 ≤ a0 ∧ a0 ≤ 4096 ∧ 0 ≤ a1 ∧ a1 ≤ 4096 ∧ (l.length : Int) = a0 * a1)
def grid_Turn.f (k : Nat) (a0 a1 : Int) (l : List Int) : Option (Int × Int × List Int × Int) :=
  (grid_fit.f k [(⟨a0, a1, l⟩ : S24)]).bind fun t => if t = true then (if grid_Turn.dims a0 a1 l = true then some (a1, a0, grid_Turn.out l a0 a1 a0.toNat 0 (List.replicate l.length 0), 0) else none) else some (0, 0, [], 30)
theorem grid_Turn.mono : ∀ a0 a1 a2 k, LeO (grid_Turn.f k a0 a1 a2) (grid_Turn.f (k + 1) a0 a1 a2) := by
  intro a0 a1 a2 k
  unfold grid_Turn.f
  refine LeO.bind (grid_fit.mono _ _) (fun _ => ?_)
  exact LeO.refl _
def grid_Turn.Pre (w W : World) (g1 g2 : Nat) (a0 a1 : Int) (va : Value) : Prop :=
  W.heap[g1]? = some (.cells #[.int .i64 a0, .int .i64 a1, va] 24 (0, 0)) ∧ W.heap[g2]? = some (.cells #[.int .i64 0, .int .i64 0, .slice none 0 0] 24 (0, 0)) ∧ Below w.heap.size w W ∧ w.heap.size ≤ g2
def grid_Turn.S (g1 : Nat) (a0 a1 : Int) (va : Value) (W : World) : Prop := W.cell? ⟨g1, 0, none⟩ = some (.int .i64 a0) ∧ W.cell? ⟨g1, 1, none⟩ = some (.int .i64 a1) ∧ W.cell? ⟨g1, 2, none⟩ = some va
def grid_Turn.Mid (w W : World) (g1 g2 g4 : Nat) (a0 a1 : Int) (va v : Value) (ys : List Int) : Prop :=
  grid_Turn.Pre w W g1 g2 a0 a1 va ∧ Kd.R (Kd.int .i32) 21 W w.heap.size (fun _ => True) v ys ∧ W.heap[g4]? = some (.cells #[.int .i64 0, .int .i64 0, .slice none 0 0] 24 (0, 0)) ∧ w.heap.size ≤ g4 ∧ g1 ≠ g4 ∧ g2 ≠ g4
def grid_Turn.Inv (w W : World) (g1 g2 g4 : Nat) (a0 a1 : Int) (va : Value) (Ao : Option Addr) (co n : Nat) (xs : List Int) : Prop :=
  grid_Turn.Pre w W g1 g2 a0 a1 va ∧ W.heap[g4]? = some (.cells #[.int .i64 a1, .int .i64 a0, .slice Ao n co] 24 (0, 0)) ∧ Kd.R (Kd.int .i32) 21 W w.heap.size (fun _ => True) (.slice Ao n co) xs
section
variable {w W W' : World} {g1 g2 g4 : Nat} {a0 a1 : Int} {va : Value} {Ao : Option Addr} {co n : Nat} {xs : List Int}
theorem grid_Turn.Pre.below (h : grid_Turn.Pre w W g1 g2 a0 a1 va) (hb : Below W.heap.size W W') : grid_Turn.Pre w W' g1 g2 a0 a1 va :=
  ⟨blk_below h.1 hb, blk_below h.2.1 hb, below_step h.2.2.1 hb, h.2.2.2⟩
theorem grid_Turn.Pre.drew (h : grid_Turn.Pre w W g1 g2 a0 a1 va) : grid_Turn.Pre w W.drew g1 g2 a0 a1 va := ⟨k_d h.1, k_d h.2.1, b_d h.2.2.1, h.2.2.2⟩
theorem grid_Turn.Pre.held (h : grid_Turn.Pre w W g1 g2 a0 a1 va) : W.cell? ⟨g1, 0, none⟩ = some (.int .i64 a0) ∧ W.cell? ⟨g1, 1, none⟩ = some (.int .i64 a1) ∧ W.cell? ⟨g1, 2, none⟩ = some va := ⟨(cell3 h.1).1, (cell3 h.1).2.1, (cell3 h.1).2.2.1⟩
theorem grid_Turn.Inv.below (h : grid_Turn.Inv w W g1 g2 g4 a0 a1 va Ao co n xs) (hb : Below W.heap.size W W') : grid_Turn.Inv w W' g1 g2 g4 a0 a1 va Ao co n xs :=
  ⟨h.1.below hb, blk_below h.2.1 hb, Kd.R_below h.2.2 hb⟩
theorem grid_Turn.Mid.put (h : grid_Turn.Mid w W g1 g2 g4 a0 a1 va (.slice Ao n co) xs) : grid_Turn.Inv w (((W.setCell ⟨g4, 0, none⟩ (.int .i64 a1)).setCell ⟨g4, 1, none⟩ (.int .i64 a0)).setCell ⟨g4, 2, none⟩ (.slice Ao n co)) g1 g2 g4 a0 a1 va Ao co n xs :=
  ⟨⟨set3_other h.1.1 h.2.2.2.2.1, set3_other h.1.2.1 h.2.2.2.2.2, below3 h.1.2.2.1 h.2.2.2.1, h.1.2.2.2⟩, put3 h.2.2.1, far3 h.2.1 h.2.2.1 (by decide)⟩
theorem grid_Turn.Inv.put {go : Nat} (h : grid_Turn.Inv w W g1 g2 g4 a0 a1 va (some ⟨go, 0, none⟩) co n xs) (hp : 0 < n) (j : Nat) (x : Int) : grid_Turn.Inv w (W.setCell ⟨go, j, none⟩ (.int .i32 x)) g1 g2 g4 a0 a1 va (some ⟨go, 0, none⟩) co n (xs.set j x) := by
  have hg := Kd.R_putg h.2.2 (j : Int) x
  simp only [Int.toNat_natCast] at hg
  have hn := (Kd.R_reads' h.2.2).1
  obtain ⟨go', co', e, hb, hl, _⟩ := Kd.R_form h.2.2 (by omega)
  injection e with e1 e2 e3
  injection e1 with e1
  injection e1 with e1
  subst e1
  exact ⟨⟨blk_grown h.1.1 hg.2 (Kd.R_ne h.2.2 h.1.1 (by decide)), blk_grown h.1.2.1 hg.2 (Kd.R_ne h.2.2 h.1.2.1 (by decide)), below_set h.1.2.2.1 hb, h.1.2.2.2⟩, blk_grown h.2.1 hg.2 (Kd.R_ne h.2.2 h.2.1 (by decide)), hg.1⟩
end
set_option maxHeartbeats 8000000 in
set_option maxRecDepth 100000 in
theorem grid_Turn.calls (k : Nat) (a0_0 : Int) (a0_1 : Int) (A0_2 : Option Addr) (c0_2 : Nat) (l0_2 : List Int) (r1 : Int) (r2 : Int) (r3 : List Int) (r4 : Int) (w : World) (hr0_2 : Kd.C (Kd.int .i32) w A0_2 l0_2.length l0_2) (hc0_2 : l0_2.length ≤ c0_2) (h : grid_Turn.f k a0_0 a0_1 l0_2 = some (r1, r2, r3, r4)) :
    Calls Try.prog 22 #[.agg #[.int .i64 a0_0, .int .i64 a0_1, .slice A0_2 l0_2.length c0_2]] w fun e w' => ∃ v2_ : Value, e = .returned (.tuple #[.agg #[.int .i64 r1, .int .i64 r2, v2_], .int .i64 r4]) ∧ Kd.R (Kd.int .i32) 21 w' w.heap.size (fun _ => True) v2_ r3 ∧ Below w.heap.size w w' := by
  have hu24 := Try.underlying24
  have HRA := Aside0.mk hr0_2
  have HCA := Aside0.mk hc0_2
  clear hr0_2 hc0_2
  have HB := Aside0.mk (Below.refl w.heap.size w)
  unfold grid_Turn.f at h
  obtain ⟨t, h1, h2⟩ := Option.bind_eq_some_iff.1 h
  have H1 := Aside0.mk h1
  have HH := Aside0.mk h2
  clear h h1 h2
  go_enter Try.func22, Try.ntmps22
  go_upto_region 1 with (first | ((with_reducible refine gate_dst (N := 1) rfl ?_); refine box_event ?hg (N := 1) ?hd (cs := #[.int .i64 a0_0, .int .i64 a0_1, .slice A0_2 l0_2.length c0_2]) (t := 24) ?hr ?_; (case hd => rfl); (case hg => rfl); (case hr => first | (go_simp; done) | (go_simp; rfl)); intro g1 hg1 w2 hbox1 hb1; have HB2 := Aside0.mk (below_step HB.out hb1); have K12 := Aside0.mk hbox1; clear hg1 hbox1 hb1) | ((with_reducible refine gate_dst (N := 2) rfl ?_); refine box_event ?hg (N := 2) ?hd (cs := #[.int .i64 0, .int .i64 0, .slice none 0 0]) (t := 24) ?hr ?_; (case hd => rfl); (case hg => rfl); (case hr => first | (go_simp; done) | (go_simp; rfl)); intro g2 hg2 w3 hbox2 hb2; have P4 := Aside0.mk (show grid_Turn.Pre w w3 g1 g2 a0_0 a0_1 (.slice A0_2 l0_2.length c0_2) from ⟨blk_below K12.out hb2, hbox2, below_step HB2.out hb2, by rw [hg2]; exact below_size HB2.out⟩); clear hg2 hbox2 hb2 HB2 K12))
  obtain ⟨x2, y2, z2, _, _, _⟩ := cell3 P4.out.1
  cases t with
  | false =>
    have h := HH.out
    clear HH
    simp only [Bool.false_eq_true, if_false, Option.some.injEq, Prod.mk.injEq] at h
    obtain ⟨rfl, rfl, rfl, rfl⟩ := h
    go_wp2_with (first | ((with_reducible refine gate_dst (N := 9) rfl ?_); refine Kd.N_lit k24 _ 24 ?hg (N' := 9) ?hd (xs := ([(⟨a0_0, a0_1, l0_2⟩ : S24)] : List S24)) (inner := [.int .i64 a0_0, .int .i64 a0_1, .slice A0_2 l0_2.length c0_2]) (ok := fun _ => True) (okp := fun _ => True) ?hr ?hp (fun _ hk => hk) trivial (Below.refl _ _) (Nat.le_refl _) (by simp) ?_; (case hd => rfl); (case hg => rfl); (case hr => first | (go_simp; done) | (go_simp; rfl)); (case hp => exact (Reps.c3 (fk24 (⟨a0_0, a0_1, l0_2⟩ : S24) HCA.out (Kd.C_below HRA.out P4.out.2.2.1)) (Reps.none _ _))); intro v5 w5 ho5 hb5 hg_ hnew_; clear hg_ hnew_; have P5 := Aside0.mk (P4.out.below hb5); have HO5 := Aside0.mk ho5; clear ho5 hb5; obtain ⟨Ao5, co5, eo5⟩ := Kd.N_slice HO5.out; subst eo5) | (go_at_call 36; (refine (grid_fit.calls k _ _ [(⟨a0_0, a0_1, l0_2⟩ : S24)] _ _ ?side1 ?side2 H1.out).mono ?_); (case side1 => exact (Kd.N_reads' HO5.out).2.2); (case side2 => exact (Kd.N_reads' HO5.out).2.1); rintro e w6 ⟨rfl, hb6⟩; have P6 := Aside0.mk (P5.out.below hb6); clear hb6; obtain ⟨u2, u3, u4, _, _, _⟩ := cell3 P6.out.1; obtain ⟨t2, t3, t4, fz2, fz3, fz4⟩ := cell3 P6.out.2.1))
    refine bodyPost_ret (results_ct rfl _ _ g2 24 #[.int .i64 0, .int .i64 0, .slice none 0 0] (0, 0) _ rfl (put3 P6.out.2.1) Try.underlying24 rfl (by kernel_rfl)) rfl ?_
    exact ⟨_, rfl, Kd.R_nil _ _ _ _ _, below3 P6.out.2.2.1 P6.out.2.2.2⟩
  | true =>
    have h := HH.out
    clear HH
    simp only [if_true] at h
    by_cases c3 : grid_Turn.dims a0_0 a0_1 l0_2 = true
    · rw [if_pos c3] at h
      have HD := Aside0.mk (of_decide_eq_true c3)
      clear c3
      simp only [Option.some.injEq, Prod.mk.injEq] at h
      obtain ⟨rfl, rfl, hz, rfl⟩ := h
      obtain ⟨ys, hys⟩ : ∃ ys, ys = List.replicate l0_2.length (0 : Int) := ⟨_, rfl⟩
      rw [← hys] at hz
      have HZ := Aside0.mk hz
      have NY := Aside0.mk hys
      clear hz hys
      have hlen : decide ((l0_2.length : Int).toNat ≤ 70368744177664) = true := decide_eq_true (by
        have h := HD.out
        have hu : a0_0 * a0_1 ≤ 4096 * 4096 := Int.mul_le_mul h.2.1 h.2.2.2.1 h.2.2.1 (by omega)
        omega)
      have hlen0 : decide (0 ≤ (l0_2.length : Int)) = true := decide_eq_true (by omega)
      go_upto_region 3 with (first | ((with_reducible refine gate_dst (N := 9) rfl ?_); refine Kd.N_lit k24 _ 24 ?hg (N' := 9) ?hd (xs := ([(⟨a0_0, a0_1, l0_2⟩ : S24)] : List S24)) (inner := [.int .i64 a0_0, .int .i64 a0_1, .slice A0_2 l0_2.length c0_2]) (ok := fun _ => True) (okp := fun _ => True) ?hr ?hp (fun _ hk => hk) trivial (Below.refl _ _) (Nat.le_refl _) (by simp) ?_; (case hd => rfl); (case hg => rfl); (case hr => first | (go_simp; done) | (go_simp; rfl)); (case hp => exact (Reps.c3 (fk24 (⟨a0_0, a0_1, l0_2⟩ : S24) HCA.out (Kd.C_below HRA.out P4.out.2.2.1)) (Reps.none _ _))); intro v5 w5 ho5 hb5 hg_ hnew_; clear hg_ hnew_; have P5 := Aside0.mk (P4.out.below hb5); have HO5 := Aside0.mk ho5; clear ho5 hb5; obtain ⟨Ao5, co5, eo5⟩ := Kd.N_slice HO5.out; subst eo5) | (go_at_call 36; (refine (grid_fit.calls k _ _ [(⟨a0_0, a0_1, l0_2⟩ : S24)] _ _ ?side1 ?side2 H1.out).mono ?_); (case side1 => exact (Kd.N_reads' HO5.out).2.2); (case side2 => exact (Kd.N_reads' HO5.out).2.1); rintro e w6 ⟨rfl, hb6⟩; have P6 := Aside0.mk (P5.out.below hb6); clear hb6; obtain ⟨u2, u3, u4, _, _, _⟩ := cell3 P6.out.1; obtain ⟨t2, t3, t4, fz2, fz3, fz4⟩ := cell3 P6.out.2.1))
      have P7 := Aside0.mk P6.out.drew
      clear x2 y2 z2 u2 u3 u4 t2 t3 t4 fz2 fz3 fz4 P4 P5 P6 HO5
      refine start_ (n := 11) (S := fun W_ => W_.cell? ⟨g1, 0, none⟩ = some (.int .i64 a0_0) ∧ W_.cell? ⟨g1, 1, none⟩ = some (.int .i64 a0_1) ∧ W_.cell? ⟨g1, 2, none⟩ = some (.slice A0_2 l0_2.length c0_2)) (ds := []) #[false, false, false, false, false, false, false, false, false, false, false] (by kernel_rfl) rfl rfl P7.out.held (fun hHeld => ?_); refine with_tabW grid_Turn.tab3 grid_Turn.bits3 (fun HT_ HW_ => ?_)
      generalize w6.drew = w7 at P7 hHeld ⊢
      refine pure_ (i := 0) (N := some 13) (v := ?_) (a' := ?_) #[true, false, false, false, false, false, false, false, false, false, false] rfl rfl (any_of HT_.out (by kernel_rfl)) (fun _ _ _ h => h) (Or.inl ⟨by rfl, ?_⟩) ?_ ?_
      rotate_left
      ·
        intro w'
        go_simp
        with_reducible rfl
      rotate_left
      ·
        simp only [Act.put, l_1, l_2, l_3, i64_w, i32_w]
        rfl
      refine pure_ (i := 2) (N := some 15) (v := ?_) (a' := ?_) #[true, false, true, false, false, false, false, false, false, false, false] rfl rfl (any_of HT_.out (by kernel_rfl)) (fun _ _ _ h => h) (Or.inl ⟨by rfl, ?_⟩) ?_ ?_
      rotate_left
      ·
        intro w'
        go_simp
        with_reducible rfl
      rotate_left
      ·
        simp only [Act.put, l_1, l_2, l_3, i64_w, i32_w]
        rfl
      refine pure_ (i := 4) (N := some 17) (v := ?_) (a' := ?_) #[true, false, true, false, true, false, false, false, false, false, false] rfl rfl (any_of HT_.out (by kernel_rfl)) (fun _ _ _ h => h) (Or.inl ⟨by rfl, ?_⟩) ?_ ?_
      rotate_left
      ·
        intro w'
        go_simp
        with_reducible rfl
      rotate_left
      ·
        simp only [Act.put, l_1, l_2, l_3, i64_w, i32_w]
        rfl
      refine take_ (i := 1) (N := some 14) (v := ?_) (a' := ?_) #[true, true, true, false, true, false, false, false, false, false, false] rfl rfl (take_ofW HT_.out HW_.out (by kernel_rfl)) (fun _ _ _ h => h) (Or.inl ⟨by rfl, ?_⟩) hHeld ?_ ?_
      rotate_left
      ·
        rintro w' ⟨s0, s1, s2⟩
        go_simp
        with_reducible rfl
      rotate_left
      ·
        simp only [Act.put, l_1, l_2, l_3, i64_w, i32_w]
        rfl
      refine take_ (i := 3) (N := some 16) (v := ?_) (a' := ?_) #[true, true, true, true, true, false, false, false, false, false, false] rfl rfl (take_ofW HT_.out HW_.out (by kernel_rfl)) (fun _ _ _ h => h) (Or.inl ⟨by rfl, ?_⟩) hHeld ?_ ?_
      rotate_left
      ·
        rintro w' ⟨s0, s1, s2⟩
        go_simp
        with_reducible rfl
      rotate_left
      ·
        simp only [Act.put, l_1, l_2, l_3, i64_w, i32_w]
        rfl
      refine take_ (i := 5) (N := some 18) (v := ?_) (a' := ?_) #[true, true, true, true, true, true, false, false, false, false, false] rfl rfl (take_ofW HT_.out HW_.out (by kernel_rfl)) (fun _ _ _ h => h) (Or.inl ⟨by rfl, ?_⟩) hHeld ?_ ?_
      rotate_left
      ·
        rintro w' ⟨s0, s1, s2⟩
        go_simp
        with_reducible rfl
      rotate_left
      ·
        simp only [Act.put, l_1, l_2, l_3, i64_w, i32_w]
        rfl
      refine pure_ (i := 6) (N := some 19) (v := ?_) (a' := ?_) #[true, true, true, true, true, true, true, false, false, false, false] rfl rfl (any_of HT_.out (by kernel_rfl)) (fun _ _ _ h => h) (Or.inl ⟨by rfl, ?_⟩) ?_ ?_
      rotate_left
      ·
        intro w'
        go_simp
        with_reducible rfl
      rotate_left
      ·
        simp only [Act.put, l_1, l_2, l_3, i64_w, i32_w]
        rfl
      refine join_ (σ := Value × Nat) 1 #[true, true, true, true, true, true, true, true, true, true, false] (fun s_ => [(20, s_.1), (4, .pointer (some ⟨s_.2, 0, none⟩)), (21, .agg #[.int .i64 a0_1, .int .i64 a0_0, s_.1])]) (fun s_ W_ => (W_.cell? ⟨g1, 0, none⟩ = some (.int .i64 a0_0) ∧ W_.cell? ⟨g1, 1, none⟩ = some (.int .i64 a0_1) ∧ W_.cell? ⟨g1, 2, none⟩ = some (.slice A0_2 l0_2.length c0_2)) ∧ grid_Turn.Mid w W_ g1 g2 s_.2 a0_0 a0_1 (.slice A0_2 l0_2.length c0_2) s_.1 ys) ?_ ?_
      rotate_left
      · intro hCont
        refine two_ (i := 7) (j := 9) (Ni := some 20) (Nj := some 4) #[true, true, true, true, true, true, true, true, false, false, false] #[true, true, true, true, true, true, true, false, false, true, false] rfl rfl rfl rfl (two_of HT_.out (by kernel_rfl)) (by decide) (by decide) (fun K hK => ?_) (fun K hK => ?_)
        ·
          skip
          refine Kd.R_make_step (Kd.int .i32) _ 21 (by rfl) (N := 20) rfl 22 _ _ rfl (l0_2.length : Int) rfl rfl Try.underlying22 (.int .i32 0) 4 info21 rfl (by decide) (by omega) 0 (ok := fun _ => True) (okp := fun _ => True) rfl (fun _ hk => hk) trivial (of_decide_eq_true (by first | (with_reducible assumption) | assumption)) (Nat.le_trans (Nat.mul_le_mul_right _ (of_decide_eq_true (by first | (with_reducible assumption) | assumption) : (l0_2.length : Int).toNat ≤ 70368744177664)) (by omega)) (Below.refl _ _) (Nat.le_refl _) ?_
          intro v8 w8 ho8 hb8 hg_ hnew_
          clear hg_ hnew_
          simp only [Int.toNat_natCast] at ho8
          rw [← NY.out] at ho8
          have P8 := Aside0.mk (P7.out.below hb8)
          have HO8 := Aside0.mk (Kd.R_lower ho8 (below_size P7.out.2.2.1))
          clear ho8 hb8
          obtain ⟨Ao, co, eo⟩ := Kd.R_slice HO8.out
          subst eo
          refine hK.out _ _ P8.out.held (fun hHeld => ?_)
          clear hK K
          refine norm_ (a' := ?_) ?_ ?_
          rotate_left
          ·
            show Act.put _ (some 20) _ = _
            simp only [Act.put, l_1, l_2, l_3, i64_w, i32_w]
            rfl
          refine pure_ (i := 8) (N := some 21) (v := ?_) (a' := ?_) #[true, true, true, true, true, true, true, true, true, false, false] rfl rfl (any_of HT_.out (by kernel_rfl)) (fun _ _ _ h => h) (Or.inl ⟨by rfl, ?_⟩) ?_ ?_
          rotate_left
          ·
            intro w'
            go_simp
            with_reducible rfl
          rotate_left
          ·
            simp only [Act.put, l_1, l_2, l_3, i64_w, i32_w]
            rfl
          refine one_ (i := 9) (N := some 4) #[true, true, true, true, true, true, true, true, true, true, false] rfl rfl (one_of HT_.out (by kernel_rfl)) (by decide) (fun K hK => ?_)
          refine box_step ?hg (N := 4) ?hd (cs := #[.int .i64 0, .int .i64 0, .slice none 0 0]) (t := 24) ?hr ?_; (case hd => rfl); (case hg => rfl); (case hr => first | (go_simp; done) | (go_simp; rfl))
          intro g4 hg4 w9 hbox hb9
          have M9 := Aside0.mk (show grid_Turn.Mid w w9 g1 g2 g4 a0_0 a0_1 (.slice A0_2 l0_2.length c0_2) (.slice Ao ys.length co) ys from ⟨P8.out.below hb9, Kd.R_below HO8.out hb9, hbox, by rw [hg4]; exact below_size P8.out.2.2.1, by have := blk_lt P8.out.1; omega, by have := blk_lt P8.out.2.1; omega⟩)
          clear hg4 hbox hb9
          refine hK.out _ _ M9.out.1.held (fun hHeld => ?_)
          clear hK K
          refine norm_ (a' := ?_) ?_ ?_
          rotate_left
          ·
            show Act.put _ (some 4) _ = _
            simp only [Act.put, l_1, l_2, l_3, i64_w, i32_w]
            rfl
          exact norm_ (by simp only [putAll, Act.put, l_1, l_2, l_3]) (hCont (_, g4) _ ⟨hHeld, M9.out⟩)
        ·
          skip
          refine box_step ?hg (N := 4) ?hd (cs := #[.int .i64 0, .int .i64 0, .slice none 0 0]) (t := 24) ?hr ?_; (case hd => rfl); (case hg => rfl); (case hr => first | (go_simp; done) | (go_simp; rfl))
          intro g4 hg4 w8 hbox hb8
          have P8 := Aside0.mk (P7.out.below hb8)
          have K8 := Aside0.mk hbox
          have E8 := Aside0.mk (show w.heap.size ≤ g4 ∧ g1 ≠ g4 ∧ g2 ≠ g4 from ⟨by rw [hg4]; exact below_size P7.out.2.2.1, by have := blk_lt P7.out.1; omega, by have := blk_lt P7.out.2.1; omega⟩)
          clear hg4 hbox hb8
          refine hK.out _ _ P8.out.held (fun hHeld => ?_)
          clear hK K
          refine norm_ (a' := ?_) ?_ ?_
          rotate_left
          ·
            show Act.put _ (some 4) _ = _
            simp only [Act.put, l_1, l_2, l_3, i64_w, i32_w]
            rfl
          refine one_ (i := 7) (N := some 20) #[true, true, true, true, true, true, true, true, false, true, false] rfl rfl (one_of HT_.out (by kernel_rfl)) (by decide) (fun K hK => ?_)
          refine Kd.R_make_step (Kd.int .i32) _ 21 (by rfl) (N := 20) rfl 22 _ _ rfl (l0_2.length : Int) rfl rfl Try.underlying22 (.int .i32 0) 4 info21 rfl (by decide) (by omega) 0 (ok := fun _ => True) (okp := fun _ => True) rfl (fun _ hk => hk) trivial (of_decide_eq_true (by first | (with_reducible assumption) | assumption)) (Nat.le_trans (Nat.mul_le_mul_right _ (of_decide_eq_true (by first | (with_reducible assumption) | assumption) : (l0_2.length : Int).toNat ≤ 70368744177664)) (by omega)) (Below.refl _ _) (Nat.le_refl _) ?_
          intro v8 w9 ho8 hb8 hg_ hnew_
          clear hg_ hnew_
          simp only [Int.toNat_natCast] at ho8
          rw [← NY.out] at ho8
          have M9 := Aside0.mk (show grid_Turn.Mid w w9 g1 g2 g4 a0_0 a0_1 (.slice A0_2 l0_2.length c0_2) v8 ys from ⟨P8.out.below hb8, Kd.R_lower ho8 (below_size P8.out.2.2.1), blk_below K8.out hb8, E8.out⟩)
          clear ho8 hb8
          obtain ⟨Ao, co, eo⟩ := Kd.R_slice M9.out.2.1
          subst eo
          refine hK.out _ _ M9.out.1.held (fun hHeld => ?_)
          clear hK K
          refine norm_ (a' := ?_) ?_ ?_
          rotate_left
          ·
            show Act.put _ (some 20) _ = _
            simp only [Act.put, l_1, l_2, l_3, i64_w, i32_w]
            rfl
          refine pure_ (i := 8) (N := some 21) (v := ?_) (a' := ?_) #[true, true, true, true, true, true, true, true, true, true, false] rfl rfl (any_of HT_.out (by kernel_rfl)) (fun _ _ _ h => h) (Or.inl ⟨by rfl, ?_⟩) ?_ ?_
          rotate_left
          ·
            intro w'
            go_simp
            with_reducible rfl
          rotate_left
          ·
            simp only [Act.put, l_1, l_2, l_3, i64_w, i32_w]
            rfl
          exact norm_ (by simp only [putAll, Act.put, l_1, l_2, l_3]) (hCont (_, g4) _ ⟨hHeld, M9.out⟩)
      clear P7 hHeld
      rintro ⟨v8, g4⟩ w9 ⟨hHeld, hM⟩
      have M9 := Aside0.mk hM
      clear hM
      obtain ⟨Ao, co, eo⟩ := Kd.R_slice M9.out.2.1
      subst eo
      refine norm_ (a' := ?_) ?_ ?_
      rotate_left
      ·
        simp only [putAll, Act.put, l_1, l_2, l_3]
        rfl
      refine one_ (i := 10) (N := none) #[true, true, true, true, true, true, true, true, true, true, true] rfl rfl (one_of HT_.out (by kernel_rfl)) (by decide) (fun K hK => ?_)
      obtain ⟨x6, y6, z6, k6, l6, m6⟩ := cell3 M9.out.2.2.1
      refine skip_ (w1 := ?_) (by rfl) rfl ?_ ?_
      rotate_left
      ·
        go_simp
        rfl
      have I9 := Aside0.mk M9.out.put
      generalize hW : (((w9.setCell ⟨g4, 0, none⟩ (.int .i64 a0_1)).setCell ⟨g4, 1, none⟩ (.int .i64 a0_0)).setCell ⟨g4, 2, none⟩ (.slice Ao ys.length co)) = W9 at *
      refine hK.out _ _ I9.out.1.held (fun hHeld => ?_)
      clear hK K
      refine done_ (done_of HT_.out (by kernel_rfl)) ?_
      clear hW M9 x6 y6 z6 k6 l6 m6 hlen hlen0 hHeld HT_ HW_
      obtain ⟨x2, y2, z2, _, _, _⟩ := cell3 I9.out.1.1
      have HLN := Aside0.mk (show ys.length = l0_2.length from by rw [NY.out, List.length_replicate])
      go_wp2
      go_loopg [24] a0_0.toNat (fun m v24 W => ∃ (i : Int) (xs : List Int), v24 = .int .i64 i ∧ 0 ≤ i ∧ Aside0 (i + m = a0_0) ∧ Aside0 (grid_Turn.out l0_2 a0_0 a0_1 m i xs = r3) ∧ Aside0 (xs.length = ys.length) ∧ Aside0 (grid_Turn.Inv w W g1 g2 g4 a0_0 a0_1 (.slice A0_2 l0_2.length c0_2) Ao co ys.length xs))
      case atStart => exact ⟨0, ys, rfl, by omega, ⟨by have := HD.out; omega⟩, HZ, ⟨rfl⟩, I9⟩
      case round =>
        clear x2 y2 z2
        obtain ⟨i, xs, rfl, hi0, HI, HX, HXL, IV⟩ := hrel
        obtain ⟨x2, y2, z2, _, _, _⟩ := cell3 IV.out.1.1
        obtain ⟨x3, y3, z3, k3, l3, m3⟩ := cell3 IV.out.1.2.1
        obtain ⟨x4, y4, z4, _, _, _⟩ := cell3 IV.out.2.1
        cases gk with
        | zero =>
          have p1 : decide (i < a0_0) = false := decide_eq_false (by have := HI.out; omega)
          go_wp2
          have hx : xs = r3 := HX.out
          refine bodyPost_ret (results_ct rfl _ _ g2 24 #[.int .i64 a0_1, .int .i64 a0_0, .slice Ao ys.length co] (0, 0) _ rfl (put3 IV.out.1.2.1) Try.underlying24 rfl (by kernel_rfl)) rfl ?_
          exact ⟨_, rfl, by rw [← hx]; exact far3 IV.out.2.2 IV.out.1.2.1 (by decide), below3 IV.out.1.2.2.1 IV.out.1.2.2.2⟩
        | succ m =>
          have p1 : decide (i < a0_0) = true := decide_eq_true (by have := HI.out; omega)
          have HM := Aside0.mk (show 0 ≤ i * a0_1 ∧ i * a0_1 + a0_1 ≤ (l0_2.length : Int) from by
            have h1 := HI.out; have h2 := HD.out
            have e2 : (i + 1) * a0_1 ≤ a0_0 * a0_1 := Int.mul_le_mul_of_nonneg_right (by omega) h2.2.2.1
            have e4 := Int.mul_nonneg hi0 h2.2.2.1
            rw [Int.add_mul, Int.one_mul] at e2
            omega)
          go_wp2_with (first | (go_at_call 37; (with_reducible refine (grid_row.calls a0_0 a0_1 A0_2 c0_2 l0_2.length i _ HCA.out hi0 ?sa ?sb ?sc ?sd).mono ?_); (case sa => have := HI.out; have := HD.out; omega); (case sb => exact HD.out.2.2.1); (case sc => exact HD.out.2.2.2.1); (case sd => rw [Int.add_mul, Int.one_mul]; exact HM.out.2); rintro e wB ⟨Ar, nr, cr, rfl, hAr, hnr, _, hbB⟩; have HNR := Aside0.mk hnr; clear hnr; have IB := Aside0.mk (IV.out.below hbB); have HAr := Aside0.mk (show Kd.C (Kd.int .i32) w Ar a0_1.toNat (grid_row.L l0_2 a0_1 i) from by rw [hAr]; exact grid_row.C a0_1 i HRA.out HCA.out HM.out.1 HD.out.2.2.1 HM.out.2); clear hAr hbB))
          have hx : grid_Turn.out l0_2 a0_0 a0_1 m (i + 1) (grid_Turn.inn (grid_row.L l0_2 a0_1 i) a0_0 i a0_1.toNat 0 xs) = r3 := HX.out
          obtain ⟨zs, hzs⟩ : ∃ zs, grid_Turn.inn (grid_row.L l0_2 a0_1 i) a0_0 i a0_1.toNat 0 xs = zs := ⟨_, rfl⟩
          rw [hzs] at hx
          have HX2 := Aside0.mk hx
          have HZS := Aside0.mk hzs
          clear hx hzs HX
          go_loopg [31] a0_1.toNat (fun m v31 W => ∃ (k : Int) (ts : List Int), v31 = .int .i64 k ∧ 0 ≤ k ∧ Aside0 (k + m = a0_1) ∧ Aside0 (grid_Turn.inn (grid_row.L l0_2 a0_1 i) a0_0 i m k ts = zs) ∧ Aside0 (ts.length = ys.length) ∧ Aside0 (grid_Turn.Inv w W g1 g2 g4 a0_0 a0_1 (.slice A0_2 l0_2.length c0_2) Ao co ys.length ts))
          case atStart => exact ⟨0, xs, rfl, by omega, ⟨by have := HD.out; omega⟩, HZS, HXL, IB⟩
          case round =>
            clear x2 y2 z2 x3 y3 z3 k3 l3 m3 x4 y4 z4 IB IV HXL p1
            obtain ⟨kk, ts, rfl, hk0, HK, HY, HYL, IV⟩ := hrel
            obtain ⟨x4, y4, z4, _, _, _⟩ := cell3 IV.out.2.1
            cases gk with
            | zero =>
              have p2 : decide (kk < (nr : Int)) = false := decide_eq_false (by have := HK.out; have := HNR.out; omega)
              have hw : IntKind.i64.wrap (i + 1) = i + 1 := by rw [i64_w]; have := HI.out; have := HD.out; unfold wrap64; omega
              go_wp2
              have hy : ts = zs := HY.out
              go_roundg m
              case measure => omega
              case rel => exact ⟨i + 1, ts, by first | rfl | rw [hw], by omega, ⟨by have := HI.out; omega⟩, ⟨by rw [hy]; exact HX2.out⟩, HYL, IV⟩
            | succ m2 =>
              have p2 : decide (kk < (nr : Int)) = true := decide_eq_true (by have := HK.out; have := HNR.out; omega)
              have p3 : decide (0 ≤ kk) = true := decide_eq_true hk0
              have p7 : (kk < (nr : Int)) = True := eq_true (of_decide_eq_true p2)
              have p8 : (0 ≤ kk) = True := eq_true hk0
              have HQ := Aside0.mk (show 0 ≤ kk * a0_0 ∧ kk * a0_0 + i < (ys.length : Int) ∧ kk * a0_0 + i < 16777216 + 16777216 from by
                have h1 := HK.out; have h2 := HD.out; have h3 := HI.out; have h4 := HLN.out
                have e1 : (kk + 1) * a0_0 ≤ a0_1 * a0_0 := Int.mul_le_mul_of_nonneg_right (by omega) h2.1
                have e2 := Int.mul_nonneg hk0 h2.1
                have e3 : a0_1 * a0_0 = a0_0 * a0_1 := Int.mul_comm _ _
                have e5 : a0_0 * a0_1 ≤ 4096 * 4096 := Int.mul_le_mul h2.2.1 h2.2.2.2.1 h2.2.2.1 (by omega)
                rw [Int.add_mul, Int.one_mul] at e1
                omega)
              have q1 : IntKind.i64.wrap (kk * a0_0) = kk * a0_0 := by rw [i64_w]; have := HQ.out; unfold wrap64; omega
              have q2 : IntKind.i64.wrap (kk * a0_0 + i) = kk * a0_0 + i := by rw [i64_w]; have := HQ.out; unfold wrap64; omega
              have p5 : decide (0 ≤ kk * a0_0 + i) = true := decide_eq_true (by have := HQ.out; omega)
              have p6 : decide (kk * a0_0 + i < (ys.length : Int)) = true := decide_eq_true HQ.out.2.1
              have p9 : (0 ≤ kk * a0_0 + i) = True := eq_true (of_decide_eq_true p5)
              have p10 : (kk * a0_0 + i < (ys.length : Int)) = True := eq_true (of_decide_eq_true p6)
              have hn0 : 0 < ts.length := by rw [HYL.out]; have := HQ.out; omega
              obtain ⟨go, cg, eo, gb, gl, cl, hcl⟩ := Kd.R_form IV.out.2.2 hn0
              have eo' : Ao = some ⟨go, 0, none⟩ := by injection eo
              clear eo hcl
              subst eo'
              obtain ⟨hcl, hfz⟩ := Kd.R_celln 0 IV.out.2.2 (kk * a0_0 + i) (of_decide_eq_true p5) HQ.out.2.1
              obtain ⟨ad, eA, hx⟩ := Kd.at_int (Kd.C_below HAr.out IV.out.1.2.2.1) kk hk0 (by have := HK.out; omega)
              subst eA
              obtain ⟨x, hX⟩ : ∃ x, rd (grid_row.L l0_2 a0_1 i) kk = x := ⟨_, rfl⟩
              rw [hX] at hx
              have hw : IntKind.i64.wrap (kk + 1) = kk + 1 := by rw [i64_w]; have := HK.out; have := HD.out; unfold wrap64; omega
              go_wp2
              have ht : grid_Turn.inn (grid_row.L l0_2 a0_1 i) a0_0 i m2 (kk + 1) (ts.set (kk * a0_0 + i).toNat (rd (grid_row.L l0_2 a0_1 i) kk)) = zs := HY.out
              rw [hX] at ht
              have IP := IV.out.put (by rw [← HYL.out]; exact hn0) ((kk * a0_0 + i).toNat) x
              go_roundg m2
              case measure => omega
              case rel => exact ⟨kk + 1, _, by first | rfl | rw [hw], by omega, ⟨by have := HK.out; omega⟩, ⟨ht⟩, ⟨by rw [List.length_set]; exact HYL.out⟩, ⟨IP⟩⟩
    · rw [if_neg c3] at h; cases h
end Go.Proofs.Ytggcgacndknlaaa.QGridParts
