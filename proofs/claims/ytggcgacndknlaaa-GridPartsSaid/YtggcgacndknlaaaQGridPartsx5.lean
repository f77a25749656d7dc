-- Written by a program of this session (a turned copy of the print) out of the translation. Lean checks it.
import Derived.Test.YtggcgacndknlaaaQGridPartsx0
import Derived.Test.YtggcgacndknlaaaQGridPartsx1
namespace Go.Proofs.Ytggcgacndknlaaa.QGridParts
open Go.RowKit Go.Proofs.YtggcgacndknlaaaW.PrintWords Go.Proofs.YtggcgacndknlaaaW.PrintLast Go.Proofs.YtggcgacndknlaaaW.PrintMore
attribute [local go_sem] max2_int min2_int max_two min_two max_three min_three max_four min_four   -- for this text's walks alone
open Go.Proofs.YtggcgacndknlaaaW.PrintWords renaming below_alloc → b_a, pw_below_drewN → b_n, below_drew1 → b_d, below_set → b_s, blk_drewN → k_n, blk_drew → k_d, blk_alloc → k_a
open List renaming setIfInBounds_toArray → l_1, set_cons_zero → l_2, set_cons_succ → l_3, map_toArray → l_4, map_cons → l_5, map_nil → l_6, length_drop → l_7, length_take → l_8
set_option linter.unusedVariables false
set_option linter.unusedSimpArgs false

/-! ### grid_Add: function 21 -/
mutual
def grid_Add.l0 : Nat → List (S24) → Int → Int → Int → Int → List Int → Option (Int × Int × List Int × Int)
 | 0, _, _, _, _, _, _ => none
 | k + 1, x32, x33, x34, x139000, x139001, x139002 => if x34 < x33 then (if 0 ≤ x34 then (if x34 < (x32.length : Int) then (if ((rd_T24 x32 x34).f0) = x139000 then (grid_Add.j1 k x32 x33 x34 (((rd_T24 x32 x34).f1) != x139001) x139000 x139001 x139002 ((rd_T24 x32 x34).f0) ((rd_T24 x32 x34).f1) ((rd_T24 x32 x34).f2)) else (grid_Add.j1 k x32 x33 x34 true x139000 x139001 x139002 ((rd_T24 x32 x34).f0) ((rd_T24 x32 x34).f1) ((rd_T24 x32 x34).f2))) else (none)) else (none)) else (some (x139000, x139001, x139002, 0))
def grid_Add.j1 : Nat → List (S24) → Int → Int → Bool → Int → Int → List Int → Int → Int → List Int → Option (Int × Int × List Int × Int)
 | 0, _, _, _, _, _, _, _, _, _, _ => none
 | k + 1, x32, x33, x34, x49, x139000, x139001, x139002, x141000, x141001, x141002 => if x49 = true then (some (0, 0, ([] : List Int), 30)) else (grid_Add.l1 k x32 x33 x34 x141002 (x141002.length : Int) 0 x139000 x139001 x139002)
def grid_Add.l1 : Nat → List (S24) → Int → Int → List Int → Int → Int → Int → Int → List Int → Option (Int × Int × List Int × Int)
 | 0, _, _, _, _, _, _, _, _, _ => none
 | k + 1, x32, x33, x34, x52, x53, x54, x139000, x139001, x139002 => if x54 < x53 then (if 0 ≤ x54 then (if x54 < (x52.length : Int) then (if x54 < (x139002.length : Int) then (grid_Add.l1 k x32 x33 x34 x52 x53 (wrap64 (x54 + 1)) x139000 x139001 (x139002.set (x54 : Int).toNat (wrap32 ((rd x139002 x54) + (rd x52 x54))))) else (none)) else (none)) else (none)) else (grid_Add.l0 k x32 x33 (wrap64 (x34 + 1)) x139000 x139001 x139002)
end
def grid_Add.f (k : Nat) (l0 : List (S24)) : Option (Int × Int × List Int × Int) := (grid_fit.f k l0).bind fun t131 => (if t131 = true then (if (l0.length : Int) = 0 then (some (0, 0, ([] : List Int), 0)) else (if 0 < (l0.length : Int) then (if 0 ≤ (((rd_T24 l0 0).f2).length : Int) then (if ((((rd_T24 l0 0).f2).length : Int) : Int).toNat ≤ 70368744177664 then (grid_Add.l0 k l0 (l0.length : Int) 0 ((rd_T24 l0 0).f0) ((rd_T24 l0 0).f1) (List.replicate ((((rd_T24 l0 0).f2).length : Int) : Int).toNat 0)) else (none)) else (none)) else (none))) else (some (0, 0, ([] : List Int), 30)))
theorem grid_Add.mono_l : ∀ k, (∀ y0 y1 y2 y3 y4 y5, LeO (grid_Add.l0 k y0 y1 y2 y3 y4 y5) (grid_Add.l0 (k + 1) y0 y1 y2 y3 y4 y5)) ∧ (∀ y0 y1 y2 y3 y4 y5 y6 y7 y8 y9, LeO (grid_Add.j1 k y0 y1 y2 y3 y4 y5 y6 y7 y8 y9) (grid_Add.j1 (k + 1) y0 y1 y2 y3 y4 y5 y6 y7 y8 y9)) ∧ (∀ y0 y1 y2 y3 y4 y5 y6 y7 y8, LeO (grid_Add.l1 k y0 y1 y2 y3 y4 y5 y6 y7 y8) (grid_Add.l1 (k + 1) y0 y1 y2 y3 y4 y5 y6 y7 y8))
 | 0 => ⟨fun _ _ _ _ _ _ r h => by simp [grid_Add.l0] at h, fun _ _ _ _ _ _ _ _ _ _ r h => by simp [grid_Add.j1] at h, fun _ _ _ _ _ _ _ _ _ r h => by simp [grid_Add.l1] at h⟩
 | k + 1 => by
  obtain ⟨ih0, ih1, ih2⟩ := grid_Add.mono_l k
  refine ⟨?_, ?_, ?_⟩
  ·
   intro y0 y1 y2 y3 y4 y5
   unfold grid_Add.l0
   repeat' first
   | (with_reducible exact ih0 _ _ _ _ _ _)
   | (with_reducible exact ih1 _ _ _ _ _ _ _ _ _ _)
   | (with_reducible exact ih2 _ _ _ _ _ _ _ _ _)
   | (with_reducible exact grid_fit.mono _ _)
   | (with_reducible exact LeO.refl _)
   | (with_reducible exact LeO.none _)
   | (with_reducible refine LeO.ite ?_ ?_)
   | (with_reducible refine LeO.bind ?_ (fun _ => ?_))
   | exact ih0 _ _ _ _ _ _
   | exact ih1 _ _ _ _ _ _ _ _ _ _
   | exact ih2 _ _ _ _ _ _ _ _ _
   | exact grid_fit.mono _ _
   | exact LeO.none _
   | refine LeO.ite ?_ ?_
   | refine LeO.bind ?_ (fun _ => ?_)
  ·
   intro y0 y1 y2 y3 y4 y5 y6 y7 y8 y9
   unfold grid_Add.j1
   repeat' first
   | (with_reducible exact ih0 _ _ _ _ _ _)
   | (with_reducible exact ih1 _ _ _ _ _ _ _ _ _ _)
   | (with_reducible exact ih2 _ _ _ _ _ _ _ _ _)
   | (with_reducible exact grid_fit.mono _ _)
   | (with_reducible exact LeO.refl _)
   | (with_reducible exact LeO.none _)
   | (with_reducible refine LeO.ite ?_ ?_)
   | (with_reducible refine LeO.bind ?_ (fun _ => ?_))
   | exact ih0 _ _ _ _ _ _
   | exact ih1 _ _ _ _ _ _ _ _ _ _
   | exact ih2 _ _ _ _ _ _ _ _ _
   | exact grid_fit.mono _ _
   | exact LeO.none _
   | refine LeO.ite ?_ ?_
   | refine LeO.bind ?_ (fun _ => ?_)
  ·
   intro y0 y1 y2 y3 y4 y5 y6 y7 y8
   unfold grid_Add.l1
   repeat' first
   | (with_reducible exact ih0 _ _ _ _ _ _)
   | (with_reducible exact ih1 _ _ _ _ _ _ _ _ _ _)
   | (with_reducible exact ih2 _ _ _ _ _ _ _ _ _)
   | (with_reducible exact grid_fit.mono _ _)
   | (with_reducible exact LeO.refl _)
   | (with_reducible exact LeO.none _)
   | (with_reducible refine LeO.ite ?_ ?_)
   | (with_reducible refine LeO.bind ?_ (fun _ => ?_))
   | exact ih0 _ _ _ _ _ _
   | exact ih1 _ _ _ _ _ _ _ _ _ _
   | exact ih2 _ _ _ _ _ _ _ _ _
   | exact grid_fit.mono _ _
   | exact LeO.none _
   | refine LeO.ite ?_ ?_
   | refine LeO.bind ?_ (fun _ => ?_)
theorem grid_Add.mono : ∀ a0 k, LeO (grid_Add.f k a0) (grid_Add.f (k + 1) a0) := by
 intro a0 k
 obtain ⟨ih0, ih1, ih2⟩ := grid_Add.mono_l k
 unfold grid_Add.f
 repeat' first
   | (with_reducible exact ih0 _ _ _ _ _ _)
   | (with_reducible exact ih1 _ _ _ _ _ _ _ _ _ _)
   | (with_reducible exact ih2 _ _ _ _ _ _ _ _ _)
   | (with_reducible exact grid_fit.mono _ _)
   | (with_reducible exact LeO.refl _)
   | (with_reducible exact LeO.none _)
   | (with_reducible refine LeO.ite ?_ ?_)
   | (with_reducible refine LeO.bind ?_ (fun _ => ?_))
   | exact ih0 _ _ _ _ _ _
   | exact ih1 _ _ _ _ _ _ _ _ _ _
   | exact ih2 _ _ _ _ _ _ _ _ _
   | exact grid_fit.mono _ _
   | exact LeO.none _
   | refine LeO.ite ?_ ?_
   | refine LeO.bind ?_ (fun _ => ?_)
def grid_Add.T5 : Bool × List (List Nat × List Nat) := (true, [([], []), ([0], [0]), ([1], [1]), ([2], [2]), ([], []), ([4], [4]), ([5], [5]), ([6], [6]), ([], []), ([8], [8]), ([9], [9]), ([10], [10]), ([11], [11]), ([12, 12], [12]), ([3, 7, 13], [3, 7, 13]), ([], []), ([15, 14, 0, 1, 2, 3, 4, 5, 6, 7, 8, 9, 10, 11, 12, 13, 14, 15], [14, 15])])
def grid_Add.B5 : List Nat := [0, 1, 3, 7, 0, 16, 48, 112, 0, 256, 768, 1792, 3840, 7936, 16383, 0, 65535]
theorem grid_Add.tab5 : rtab .any (opsOf Try.f21 5) = grid_Add.T5 := by kernel_rfl
theorem grid_Add.bits5 : waitsOk grid_Add.T5.2 grid_Add.B5 = true := by kernel_rfl
set_option maxHeartbeats 60000000 in
set_option maxRecDepth 100000 in
theorem grid_Add.calls (k : Nat) (A0 : Option Addr) (c0 : Nat) (l0 : List (S24)) (r1 : Int) (r2 : Int) (r3 : List Int) (r4 : Int) (w : World) (hr0 : Kd.C k24 w A0 l0.length l0) (hc0 : l0.length ≤ c0) (h : grid_Add.f k l0 = some (r1, r2, r3, r4)) :
  Calls Try.prog 21 #[.slice A0 l0.length c0] w fun e w' => ∃ v2_ : Value, e = .returned (.tuple #[.agg #[.int .i64 r1, .int .i64 r2, v2_], .int .i64 r4]) ∧ Kd.R (Kd.int .i32) 21 w' w.heap.size (fun _ => True) v2_ r3 ∧ Below w.heap.size w w' := by
 have hu24 := Try.underlying24
 have HR0 := Aside0.mk hr0
 have HC0 := Aside0.mk hc0
 clear hr0 hc0
 have HB := Aside0.mk (Below.refl w.heap.size w)
 have H : ((grid_fit.f k l0).bind fun t131 => (if t131 = true then (if (l0.length : Int) = 0 then (some (0, 0, ([] : List Int), 0)) else (if 0 < (l0.length : Int) then (if 0 ≤ (((rd_T24 l0 0).f2).length : Int) then (if ((((rd_T24 l0 0).f2).length : Int) : Int).toNat ≤ 70368744177664 then (grid_Add.l0 k l0 (l0.length : Int) 0 ((rd_T24 l0 0).f0) ((rd_T24 l0 0).f1) (List.replicate ((((rd_T24 l0 0).f2).length : Int) : Int).toNat 0)) else (none)) else (none)) else (none))) else (some (0, 0, ([] : List Int), 30)))) = some (r1, r2, r3, r4) := h
 clear h
 replace H := Option.bind_eq_some_iff.mp H
 obtain ⟨t131, A20, H⟩ := H
 replace H : (if t131 = true then (if (l0.length : Int) = 0 then (some (0, 0, ([] : List Int), 0)) else (if 0 < (l0.length : Int) then (if 0 ≤ (((rd_T24 l0 0).f2).length : Int) then (if ((((rd_T24 l0 0).f2).length : Int) : Int).toNat ≤ 70368744177664 then (grid_Add.l0 k l0 (l0.length : Int) 0 ((rd_T24 l0 0).f0) ((rd_T24 l0 0).f1) (List.replicate ((((rd_T24 l0 0).f2).length : Int) : Int).toNat 0)) else (none)) else (none)) else (none))) else (some (0, 0, ([] : List Int), 30))) = some (r1, r2, r3, r4) := H
 have A2 := Aside0.mk A20
 clear A20
 by_cases c3 : t131 = true
 rotate_left
 ·
  replace c3 := Bool.eq_false_iff.mpr c3
  subst c3
  have H1 : (some (0, 0, ([] : List Int), 30)) = some (r1, r2, r3, r4) := by rw [if_neg (show ¬ (false = true) by decide)] at H; exact H
  clear H
  have H := H1
  clear H1
  simp only [Option.some.injEq, Prod.mk.injEq] at H
  obtain ⟨rfl, rfl, rfl, rfl⟩ := H
  go_enter Try.func21, Try.ntmps21
  go_wp2_with (first | ((with_reducible refine gate_dst (N := 2) rfl ?_); refine box_event ?hg (N := 2) ?hd (cs := #[.int .i64 0, .int .i64 0, .slice none 0 0]) (t := 24) ?hr ?_; (case hd => rfl); (case hg => rfl); (case hr => first | (go_simp; done) | (go_simp; rfl)); intro gb130 hg w64 hbox hb; have BK130 := Aside0.mk (hbox); have GW130 := Aside0.mk ((by rw [hg]; exact (below_size (bw_ HB)) : w.heap.size ≤ gb130)); have GE130 := Aside0.mk ((by rw [hg]; exact (below_size (bw_ HB)) : w.heap.size ≤ gb130)); replace HB := Aside0.mk (below_step (bw_ HB) hb); clear hb hbox hg) | ((with_reducible refine gate_callee (f := 36) rfl ?_); refine goesL_ (some 10) rfl rfl Try.func36 (by kernel_rfl) rfl #[.slice A0 l0.length c0] rfl (by (try simp only [l_4, l_5, l_6]); first | done | rfl | (simp only [l_7, l_8]; rfl)) ?_; (with_reducible refine (grid_fit.calls k _ _ l0 false _ ?side1 ?side2 A2.out).mono ?_); (case side1 => repeat (first | exact (Kd.C_below HR0.out HB.out) | (with_reducible refine Kd.C_alloc ?_ _) | (with_reducible refine Kd.C_drewN ?_ _) | (with_reducible refine Kd.C_drew ?_))); (case side2 => exact HC0.out); rintro e w65 ⟨rfl, hb⟩; (try clear A2); refine ⟨_, rfl, ?_⟩; replace BK130 := Aside0.mk (blk_below (tk_ BK130) hb); replace HB := Aside0.mk (below_step (bw_ HB) hb); (try clear hb); (try clear hb2); (try clear hk); (try clear hi); have hcz66_0 := bc_0 BK130; have hcz66_1 := bc_1 BK130; have hcz66_2 := bc_2 BK130; have hfz66_0 := blk_frozen BK130.out 0; have hfz66_1 := blk_frozen BK130.out 1; have hfz66_2 := blk_frozen BK130.out 2))
  refine bodyPost_ret (results_ct rfl _ _ gb130 24 #[.int .i64 0, .int .i64 0, .slice none 0 0] (0, 0) _ rfl (by (with_reducible repeat (first | refine k_n ?_ _ | refine k_d ?_ | refine k_a ?_ _)); refine blk_put (cs := #[.int .i64 0, .int .i64 0, .slice none 0 0]) ?_ 2 _ rfl; (with_reducible repeat (first | refine k_n ?_ _ | refine k_d ?_ | refine k_a ?_ _)); refine blk_put (cs := #[.int .i64 0, .int .i64 0, .slice none 0 0]) ?_ 1 _ rfl; (with_reducible repeat (first | refine k_n ?_ _ | refine k_d ?_ | refine k_a ?_ _)); refine blk_put (cs := #[.int .i64 0, .int .i64 0, .slice none 0 0]) ?_ 0 _ rfl; (with_reducible repeat (first | refine k_n ?_ _ | refine k_d ?_ | refine k_a ?_ _)); exact BK130.out) Try.underlying24 rfl (by kernel_rfl)) rfl ?_
  exact ⟨_, by first | rfl | (simp [errW_none, errW_some] <;> rfl) | (simp [*, errW_none, errW_some] <;> rfl), by first | exact Kd.R_nil _ _ _ _ _ | exact Kd.N_nil _ _ _ _ _ | exact Kd.V_nil _ _ _ _ _ | exact Kd.Q_nil _ _ _ _ _ | exact Kd.S_nil _ _ _ _ _, by repeat (first | (with_reducible first | exact HB.out | apply b_a | apply b_n | apply b_d | refine b_s ?_ GE130.out) | exact HB.out)⟩

 subst c3
 have H1 : (if (l0.length : Int) = 0 then (some (0, 0, ([] : List Int), 0)) else (if 0 < (l0.length : Int) then (if 0 ≤ (((rd_T24 l0 0).f2).length : Int) then (if ((((rd_T24 l0 0).f2).length : Int) : Int).toNat ≤ 70368744177664 then (grid_Add.l0 k l0 (l0.length : Int) 0 ((rd_T24 l0 0).f0) ((rd_T24 l0 0).f1) (List.replicate ((((rd_T24 l0 0).f2).length : Int) : Int).toNat 0)) else (none)) else (none)) else (none))) = some (r1, r2, r3, r4) := by rw [if_pos rfl] at H; exact H
 clear H
 have H := H1
 clear H1
 by_cases c4 : (l0.length : Int) = 0
 ·
  rw [if_pos c4] at H
  have c4b0 : ((l0.length : Int) == 0) = true := beq_iff_eq.mpr c4
  have c4b1 : ((l0.length : Int) != 0) = false := bne_eq_false_iff_eq.mpr c4
  clear c4
  simp only [Option.some.injEq, Prod.mk.injEq] at H
  obtain ⟨rfl, rfl, rfl, rfl⟩ := H
  go_enter Try.func21, Try.ntmps21
  go_wp2_with (first | ((with_reducible refine gate_dst (N := 2) rfl ?_); refine box_event ?hg (N := 2) ?hd (cs := #[.int .i64 0, .int .i64 0, .slice none 0 0]) (t := 24) ?hr ?_; (case hd => rfl); (case hg => rfl); (case hr => first | (go_simp; done) | (go_simp; rfl)); intro gb130 hg w5 hbox hb; have BK130 := Aside0.mk (hbox); have GW130 := Aside0.mk ((by rw [hg]; exact (below_size (bw_ HB)) : w.heap.size ≤ gb130)); have GE130 := Aside0.mk ((by rw [hg]; exact (below_size (bw_ HB)) : w.heap.size ≤ gb130)); replace HB := Aside0.mk (below_step (bw_ HB) hb); clear hb hbox hg) | ((with_reducible refine gate_callee (f := 36) rfl ?_); refine goesL_ (some 10) rfl rfl Try.func36 (by kernel_rfl) rfl #[.slice A0 l0.length c0] rfl (by (try simp only [l_4, l_5, l_6]); first | done | rfl | (simp only [l_7, l_8]; rfl)) ?_; (with_reducible refine (grid_fit.calls k _ _ l0 true _ ?side1 ?side2 A2.out).mono ?_); (case side1 => repeat (first | exact (Kd.C_below HR0.out HB.out) | (with_reducible refine Kd.C_alloc ?_ _) | (with_reducible refine Kd.C_drewN ?_ _) | (with_reducible refine Kd.C_drew ?_))); (case side2 => exact HC0.out); rintro e w6 ⟨rfl, hb⟩; (try clear A2); refine ⟨_, rfl, ?_⟩; replace BK130 := Aside0.mk (blk_below (tk_ BK130) hb); replace HB := Aside0.mk (below_step (bw_ HB) hb); (try clear hb); (try clear hb2); (try clear hk); (try clear hi); have hcz7_0 := bc_0 BK130; have hcz7_1 := bc_1 BK130; have hcz7_2 := bc_2 BK130; have hfz7_0 := blk_frozen BK130.out 0; have hfz7_1 := blk_frozen BK130.out 1; have hfz7_2 := blk_frozen BK130.out 2))
  refine bodyPost_ret (results_ct rfl _ _ gb130 24 #[.int .i64 0, .int .i64 0, .slice none 0 0] (0, 0) _ rfl (by (with_reducible repeat (first | refine k_n ?_ _ | refine k_d ?_ | refine k_a ?_ _)); refine blk_put (cs := #[.int .i64 0, .int .i64 0, .slice none 0 0]) ?_ 2 _ rfl; (with_reducible repeat (first | refine k_n ?_ _ | refine k_d ?_ | refine k_a ?_ _)); refine blk_put (cs := #[.int .i64 0, .int .i64 0, .slice none 0 0]) ?_ 1 _ rfl; (with_reducible repeat (first | refine k_n ?_ _ | refine k_d ?_ | refine k_a ?_ _)); refine blk_put (cs := #[.int .i64 0, .int .i64 0, .slice none 0 0]) ?_ 0 _ rfl; (with_reducible repeat (first | refine k_n ?_ _ | refine k_d ?_ | refine k_a ?_ _)); exact BK130.out) Try.underlying24 rfl (by kernel_rfl)) rfl ?_
  exact ⟨_, by first | rfl | (simp [errW_none, errW_some] <;> rfl) | (simp [*, errW_none, errW_some] <;> rfl), by first | exact Kd.R_nil _ _ _ _ _ | exact Kd.N_nil _ _ _ _ _ | exact Kd.V_nil _ _ _ _ _ | exact Kd.Q_nil _ _ _ _ _ | exact Kd.S_nil _ _ _ _ _, by repeat (first | (with_reducible first | exact HB.out | apply b_a | apply b_n | apply b_d | refine b_s ?_ GE130.out) | exact HB.out)⟩
 rw [if_neg c4] at H
 have c4b0 : ((l0.length : Int) == 0) = false := beq_eq_false_iff_ne.mpr c4
 have c4b1 : ((l0.length : Int) != 0) = true := bne_iff_ne.mpr c4
 have c4b2 : ¬ (l0 = []) := fun h_ => c4 (by rw [h_]; rfl)
 by_cases c8 : 0 < (l0.length : Int)
 rotate_left
 ·
  rw [if_neg c8] at H
  exact absurd H (by simp)
 rw [if_pos c8] at H
 have c8b0 : decide (0 < (l0.length : Int)) = true := decide_eq_true c8
 have c8b1 : decide (0 < l0.length) = true := decide_eq_true (by omega)
 clear c8
 by_cases c9 : 0 ≤ (((rd_T24 l0 0).f2).length : Int)
 rotate_left
 ·
  rw [if_neg c9] at H
  exact absurd H (by simp)
 rw [if_pos c9] at H
 have c9b0 := eq_true c9
 have c9b1 : decide (0 ≤ (((rd_T24 l0 0).f2).length : Int)) = true := decide_eq_true c9
 clear c9
 by_cases c10 : ((((rd_T24 l0 0).f2).length : Int) : Int).toNat ≤ 70368744177664
 rotate_left
 ·
  rw [if_neg c10] at H
  exact absurd H (by simp)
 rw [if_pos c10] at H
 have c10b0 := eq_true c10
 have c10b1 : decide (((((rd_T24 l0 0).f2).length : Int) : Int).toNat ≤ 70368744177664) = true := decide_eq_true c10
 clear c10
 obtain ⟨y135, hy135⟩ : ∃ y_ : List Int, y_ = (List.replicate ((((rd_T24 l0 0).f2).length : Int) : Int).toNat 0) := ⟨_, rfl⟩
 replace H : (grid_Add.l0 k l0 (l0.length : Int) 0 ((rd_T24 l0 0).f0) ((rd_T24 l0 0).f1) y135) = some (r1, r2, r3, r4) := by first | (rw [hy135]; with_reducible exact H) | (have H2_ := (Option.bind_some _ _).symm.trans H; rw [hy135]; with_reducible exact H2_) | (have H2_ := (Option.bind_some _ _).symm.trans H; with_reducible exact H2_) | with_reducible exact H | (rw [hy135]; exact H) | exact H
 have Ny135 := Aside0.mk hy135
 clear hy135
 have H' := Aside0.mk H
 clear H
 go_enter Try.func21, Try.ntmps21
 try go_wp2_with (first | ((with_reducible refine gate_dst (N := 2) rfl ?_); refine box_event ?hg (N := 2) ?hd (cs := #[.int .i64 0, .int .i64 0, .slice none 0 0]) (t := 24) ?hr ?_; (case hd => rfl); (case hg => rfl); (case hr => first | (go_simp; done) | (go_simp; rfl)); intro gb130 hg w11 hbox hb; have BK130 := Aside0.mk (hbox); have GW130 := Aside0.mk ((by rw [hg]; exact (below_size (bw_ HB)) : w.heap.size ≤ gb130)); have GE130 := Aside0.mk ((by rw [hg]; exact (below_size (bw_ HB)) : w.heap.size ≤ gb130)); replace HB := Aside0.mk (below_step (bw_ HB) hb); clear hb hbox hg) | ((with_reducible refine gate_callee (f := 36) rfl ?_); refine goesL_ (some 10) rfl rfl Try.func36 (by kernel_rfl) rfl #[.slice A0 l0.length c0] rfl (by (try simp only [l_4, l_5, l_6]); first | done | rfl | (simp only [l_7, l_8]; rfl)) ?_; (with_reducible refine (grid_fit.calls k _ _ l0 true _ ?side1 ?side2 A2.out).mono ?_); (case side1 => repeat (first | exact (Kd.C_below HR0.out HB.out) | (with_reducible refine Kd.C_alloc ?_ _) | (with_reducible refine Kd.C_drewN ?_ _) | (with_reducible refine Kd.C_drew ?_))); (case side2 => exact HC0.out); rintro e w12 ⟨rfl, hb⟩; (try clear A2); refine ⟨_, rfl, ?_⟩; replace BK130 := Aside0.mk (blk_below (tk_ BK130) hb); replace HB := Aside0.mk (below_step (bw_ HB) hb); (try clear hb); (try clear hb2); (try clear hk); (try clear hi)))
 replace BK130 := Aside0.mk (k_d BK130.out)
 replace HB := Aside0.mk (b_d HB.out)
 have p132 : 0 ≤ (0 : Int) := (by omega)
 have q132 : 0 < (l0.length : Int) := of_decide_eq_true (by first | (with_reducible assumption) | assumption)
 obtain ⟨ad132, A132_2, c132_2, e132, hx132_0, hx132_1, hx132_2, hl132_2, hi132_2⟩ := at_T24 HR0.out 0 p132 q132
 have hw132_2 := hx132_2
 (try rw [show ((0 : Int)).toNat = 0 from rfl] at hw132_2)
 (try rw [show 0 * 3 = 0 from rfl] at hw132_2)
 (try rw [Addr.add_zero'] at hw132_2)
 have hw132_1 := hx132_1
 (try rw [show ((0 : Int)).toNat = 0 from rfl] at hw132_1)
 (try rw [show 0 * 3 = 0 from rfl] at hw132_1)
 (try rw [Addr.add_zero'] at hw132_1)
 have hw132_0 := hx132_0
 (try rw [show ((0 : Int)).toNat = 0 from rfl] at hw132_0)
 (try rw [show 0 * 3 = 0 from rfl] at hw132_0)
 (try rw [Addr.add_zero'] at hw132_0)
 cases e132
 have qi132 : (0 < l0.length) = True := eq_true (by omega)
 (try rw [show ((0 : Int)).toNat = 0 from rfl] at hx132_0)
 (try rw [show 0 * 3 = 0 from rfl] at hx132_0)
 (try rw [Addr.add_zero'] at hx132_0)
 (try rw [show ((0 : Int)).toNat = 0 from rfl] at hx132_1)
 (try rw [show 0 * 3 = 0 from rfl] at hx132_1)
 (try rw [Addr.add_zero'] at hx132_1)
 (try rw [show ((0 : Int)).toNat = 0 from rfl] at hx132_2)
 (try rw [show 0 * 3 = 0 from rfl] at hx132_2)
 (try rw [Addr.add_zero'] at hx132_2)
 replace hx132_0 := cb_ HB hx132_0
 replace hx132_1 := cb_ HB hx132_1
 replace hx132_2 := cb_ HB hx132_2
 have HR132_2 := Aside0.mk hi132_2
 have HC132_2 := Aside0.mk hl132_2
 clear hi132_2 hl132_2
 replace p132 := eq_true p132
 replace q132 := eq_true q132
 have p133 : 0 ≤ (0 : Int) := (by omega)
 have q133 : 0 < (l0.length : Int) := of_decide_eq_true (by first | (with_reducible assumption) | assumption)
 obtain ⟨ad133, A133_2, c133_2, e133, hx133_0, hx133_1, hx133_2, hl133_2, hi133_2⟩ := at_T24 HR0.out 0 p133 q133
 have hw133_2 := hx133_2
 (try rw [show ((0 : Int)).toNat = 0 from rfl] at hw133_2)
 (try rw [show 0 * 3 = 0 from rfl] at hw133_2)
 (try rw [Addr.add_zero'] at hw133_2)
 have hw133_1 := hx133_1
 (try rw [show ((0 : Int)).toNat = 0 from rfl] at hw133_1)
 (try rw [show 0 * 3 = 0 from rfl] at hw133_1)
 (try rw [Addr.add_zero'] at hw133_1)
 have hw133_0 := hx133_0
 (try rw [show ((0 : Int)).toNat = 0 from rfl] at hw133_0)
 (try rw [show 0 * 3 = 0 from rfl] at hw133_0)
 (try rw [Addr.add_zero'] at hw133_0)
 obtain rfl : ad132 = ad133 := (by injection e133)
 have qi133 : (0 < l0.length) = True := eq_true (by omega)
 (try rw [show ((0 : Int)).toNat = 0 from rfl] at hx133_0)
 (try rw [show 0 * 3 = 0 from rfl] at hx133_0)
 (try rw [Addr.add_zero'] at hx133_0)
 (try rw [show ((0 : Int)).toNat = 0 from rfl] at hx133_1)
 (try rw [show 0 * 3 = 0 from rfl] at hx133_1)
 (try rw [Addr.add_zero'] at hx133_1)
 (try rw [show ((0 : Int)).toNat = 0 from rfl] at hx133_2)
 (try rw [show 0 * 3 = 0 from rfl] at hx133_2)
 (try rw [Addr.add_zero'] at hx133_2)
 replace hx133_0 := cb_ HB hx133_0
 replace hx133_1 := cb_ HB hx133_1
 replace hx133_2 := cb_ HB hx133_2
 have HR133_2 := Aside0.mk hi133_2
 have HC133_2 := Aside0.mk hl133_2
 clear hi133_2 hl133_2
 replace p133 := eq_true p133
 replace q133 := eq_true q133
 have ea_ := Option.some.inj (hx132_2.symm.trans hx133_2)
 injection ea_ with ea_ en_ ec_
 subst ea_
 subst ec_
 clear en_
 have p134 : 0 ≤ (0 : Int) := (by omega)
 have q134 : 0 < (l0.length : Int) := of_decide_eq_true (by first | (with_reducible assumption) | assumption)
 obtain ⟨ad134, A134_2, c134_2, e134, hx134_0, hx134_1, hx134_2, hl134_2, hi134_2⟩ := at_T24 HR0.out 0 p134 q134
 have hw134_2 := hx134_2
 (try rw [show ((0 : Int)).toNat = 0 from rfl] at hw134_2)
 (try rw [show 0 * 3 = 0 from rfl] at hw134_2)
 (try rw [Addr.add_zero'] at hw134_2)
 have hw134_1 := hx134_1
 (try rw [show ((0 : Int)).toNat = 0 from rfl] at hw134_1)
 (try rw [show 0 * 3 = 0 from rfl] at hw134_1)
 (try rw [Addr.add_zero'] at hw134_1)
 have hw134_0 := hx134_0
 (try rw [show ((0 : Int)).toNat = 0 from rfl] at hw134_0)
 (try rw [show 0 * 3 = 0 from rfl] at hw134_0)
 (try rw [Addr.add_zero'] at hw134_0)
 obtain rfl : ad132 = ad134 := (by injection e134)
 have qi134 : (0 < l0.length) = True := eq_true (by omega)
 (try rw [show ((0 : Int)).toNat = 0 from rfl] at hx134_0)
 (try rw [show 0 * 3 = 0 from rfl] at hx134_0)
 (try rw [Addr.add_zero'] at hx134_0)
 (try rw [show ((0 : Int)).toNat = 0 from rfl] at hx134_1)
 (try rw [show 0 * 3 = 0 from rfl] at hx134_1)
 (try rw [Addr.add_zero'] at hx134_1)
 (try rw [show ((0 : Int)).toNat = 0 from rfl] at hx134_2)
 (try rw [show 0 * 3 = 0 from rfl] at hx134_2)
 (try rw [Addr.add_zero'] at hx134_2)
 replace hx134_0 := cb_ HB hx134_0
 replace hx134_1 := cb_ HB hx134_1
 replace hx134_2 := cb_ HB hx134_2
 have HR134_2 := Aside0.mk hi134_2
 have HC134_2 := Aside0.mk hl134_2
 clear hi134_2 hl134_2
 replace p134 := eq_true p134
 replace q134 := eq_true q134
 have ea_ := Option.some.inj (hx132_2.symm.trans hx134_2)
 injection ea_ with ea_ en_ ec_
 subst ea_
 subst ec_
 clear en_
 refine start_ (n := 17) (S := fun w' => w'.cell? ad132 = some (.int .i64 ((rd_T24 l0 0).f0)) ∧ w'.cell? ⟨ad132.block, ad132.off + 1, none⟩ = some (.int .i64 ((rd_T24 l0 0).f1)) ∧ w'.cell? ⟨ad132.block, ad132.off + 2, none⟩ = some (.slice A132_2 ((rd_T24 l0 0).f2).length c132_2) ∧ w'.cell? ad132 = some (.int .i64 ((rd_T24 l0 0).f0)) ∧ w'.cell? ⟨ad132.block, ad132.off + 1, none⟩ = some (.int .i64 ((rd_T24 l0 0).f1)) ∧ w'.cell? ⟨ad132.block, ad132.off + 2, none⟩ = some (.slice A132_2 ((rd_T24 l0 0).f2).length c132_2) ∧ w'.cell? ad132 = some (.int .i64 ((rd_T24 l0 0).f0)) ∧ w'.cell? ⟨ad132.block, ad132.off + 1, none⟩ = some (.int .i64 ((rd_T24 l0 0).f1)) ∧ w'.cell? ⟨ad132.block, ad132.off + 2, none⟩ = some (.slice A132_2 ((rd_T24 l0 0).f2).length c132_2)) (ds := []) #[false, false, false, false, false, false, false, false, false, false, false, false, false, false, false, false, false] (by kernel_rfl) rfl rfl ⟨(cb_ HB hw132_0), (cb_ HB hw132_1), (cb_ HB hw132_2), (cb_ HB hw133_0), (cb_ HB hw133_1), (cb_ HB hw133_2), (cb_ HB hw134_0), (cb_ HB hw134_1), (cb_ HB hw134_2)⟩ (fun hHeld => ?_); refine with_tabW grid_Add.tab5 grid_Add.bits5 (fun HT_ HW_ => ?_)
 generalize w12.drew = w13 at BK130 HB HR132_2 HR133_2 HR134_2 hx132_0 hx132_1 hx132_2 hx133_0 hx133_1 hx133_2 hx134_0 hx134_1 hx134_2 hHeld ⊢
 refine pu_ (i := 0) (N := some 17) (bs_ 17 1) rfl rfl HT_ ?_
 refine pu_ (i := 1) (N := some 18) (bs_ 17 3) rfl rfl HT_ ?_
 refine pu_ (i := 2) (N := some 19) (bs_ 17 7) rfl rfl HT_ ?_
 refine pu_ (i := 4) (N := some 21) (bs_ 17 23) rfl rfl HT_ ?_
 refine pu_ (i := 5) (N := some 22) (bs_ 17 55) rfl rfl HT_ ?_
 refine pu_ (i := 6) (N := some 23) (bs_ 17 119) rfl rfl HT_ ?_
 refine pu_ (i := 8) (N := some 25) (bs_ 17 375) rfl rfl HT_ ?_
 refine pu_ (i := 9) (N := some 26) (bs_ 17 887) rfl rfl HT_ ?_
 refine pu_ (i := 10) (N := some 27) (bs_ 17 1911) rfl rfl HT_ ?_
 refine take_ (i := 3) (N := some 20) (v := ?_) (a' := ?_) (bs_ 17 1919) rfl rfl (take_ofW HT_.out HW_.out (by kernel_rfl)) (fun _ _ _ h => h) (Or.inl ⟨by rfl, ?_⟩) hHeld ?_ ?_
 rotate_left
 ·
  rintro w' ⟨s0, s1, s2, s3, s4, s5, s6, s7, s8⟩
  go_simp
  with_reducible rfl
 rotate_left
 ·
  simp only [Act.put, l_1, l_2, l_3, i64_w, i32_w]
  rfl
 refine take_ (i := 7) (N := some 24) (v := ?_) (a' := ?_) (bs_ 17 2047) rfl rfl (take_ofW HT_.out HW_.out (by kernel_rfl)) (fun _ _ _ h => h) (Or.inl ⟨by rfl, ?_⟩) hHeld ?_ ?_
 rotate_left
 ·
  rintro w' ⟨s0, s1, s2, s3, s4, s5, s6, s7, s8⟩
  go_simp
  with_reducible rfl
 rotate_left
 ·
  simp only [Act.put, l_1, l_2, l_3, i64_w, i32_w]
  rfl
 refine take_ (i := 11) (N := some 28) (v := ?_) (a' := ?_) (bs_ 17 4095) rfl rfl (take_ofW HT_.out HW_.out (by kernel_rfl)) (fun _ _ _ h => h) (Or.inl ⟨by rfl, ?_⟩) hHeld ?_ ?_
 rotate_left
 ·
  rintro w' ⟨s0, s1, s2, s3, s4, s5, s6, s7, s8⟩
  go_simp
  with_reducible rfl
 rotate_left
 ·
  simp only [Act.put, l_1, l_2, l_3, i64_w, i32_w]
  rfl
 refine pu_ (i := 12) (N := some 29) (bs_ 17 8191) rfl rfl HT_ ?_
 refine join_ (σ := Value × Nat) 1 (bs_ 17 65535) (fun s_ => [(30, s_.1), (4, .pointer (some ⟨s_.2, 0, none⟩)), (31, .agg #[.int .i64 ((rd_T24 l0 0).f0), .int .i64 ((rd_T24 l0 0).f1), s_.1])]) (fun s_ w' => (w'.cell? ad132 = some (.int .i64 ((rd_T24 l0 0).f0)) ∧ w'.cell? ⟨ad132.block, ad132.off + 1, none⟩ = some (.int .i64 ((rd_T24 l0 0).f1)) ∧ w'.cell? ⟨ad132.block, ad132.off + 2, none⟩ = some (.slice A132_2 ((rd_T24 l0 0).f2).length c132_2) ∧ w'.cell? ad132 = some (.int .i64 ((rd_T24 l0 0).f0)) ∧ w'.cell? ⟨ad132.block, ad132.off + 1, none⟩ = some (.int .i64 ((rd_T24 l0 0).f1)) ∧ w'.cell? ⟨ad132.block, ad132.off + 2, none⟩ = some (.slice A132_2 ((rd_T24 l0 0).f2).length c132_2) ∧ w'.cell? ad132 = some (.int .i64 ((rd_T24 l0 0).f0)) ∧ w'.cell? ⟨ad132.block, ad132.off + 1, none⟩ = some (.int .i64 ((rd_T24 l0 0).f1)) ∧ w'.cell? ⟨ad132.block, ad132.off + 2, none⟩ = some (.slice A132_2 ((rd_T24 l0 0).f2).length c132_2)) ∧ (Kd.R (Kd.int .i32) 21 w' w.heap.size (fun _ => True) s_.1 y135) ∧ (w'.heap[gb130]? = some (.cells #[.int .i64 0, .int .i64 0, .slice none 0 0] 24 (0, 0))) ∧ (w'.heap[s_.2]? = some (.cells #[.int .i64 0, .int .i64 0, .slice none 0 0] 24 (0, 0))) ∧ (w.heap.size ≤ s_.2) ∧ (w.heap.size ≤ s_.2) ∧ (gb130 ≠ s_.2) ∧ (s_.2 ≠ gb130) ∧ (Below w.heap.size w w')) ?_ ?_
 rotate_left
 ·
  intro hCont
  refine two_ (i := 13) (j := 15) (Ni := some 30) (Nj := some 4) (bs_ 17 16383) (bs_ 17 40959) rfl rfl rfl rfl (two_of HT_.out (by kernel_rfl)) (by decide) (by decide) (fun K hK => ?_) (fun K hK => ?_)
  ·
   skip
   refine Kd.R_make_step (Kd.int .i32) _ 21 (by rfl) (N := 30) rfl 22 _ _ rfl (((rd_T24 l0 0).f2).length : Int) rfl rfl Try.underlying22 (.int .i32 0) 4 info21 rfl (by decide) (by omega) 0 (ok := fun _ => True) (okp := fun _ => True) rfl (fun _ hk => hk) trivial (of_decide_eq_true (by first | (with_reducible assumption) | assumption)) (Nat.le_trans (Nat.mul_le_mul_right _ (of_decide_eq_true (by first | (with_reducible assumption) | assumption) : (((rd_T24 l0 0).f2).length : Int).toNat ≤ 70368744177664)) (by omega)) (Below.refl _ _) (Nat.le_refl _) ?_
   intro v136 w14 ho15 hb hg_ hnew_
   clear hg_ hnew_
   (first | rw [← Ny135.out] at ho15 | (simp only [Int.reduceToNat] at ho15; rw [← Ny135.out] at ho15))
   have HO137 := Aside0.mk (Kd.R_lower ho15 (below_size (bw_ HB)))
   replace BK130 := Aside0.mk (blk_below (tk_ BK130) hb)
   replace HB := Aside0.mk (below_step (bw_ HB) hb)
   clear hb ho15
   obtain ⟨Ao16, co16, eo16⟩ := Kd.R_slice HO137.out
   (first | subst eo16 | (injection eo16 with f1_ f2_ f3_; have f4_ := f1_.symm; have f5_ := f3_.symm; clear f1_ f2_ f3_; subst f4_; subst f5_))
   refine hK.out _ _ ⟨(cb_ HB hw132_0), (cb_ HB hw132_1), (cb_ HB hw132_2), (cb_ HB hw133_0), (cb_ HB hw133_1), (cb_ HB hw133_2), (cb_ HB hw134_0), (cb_ HB hw134_1), (cb_ HB hw134_2)⟩ (fun hHeld => ?_)
   clear hK K
   refine no_ (N := some 30) ?_
   refine pu_ (i := 14) (N := some 31) (bs_ 17 32767) rfl rfl HT_ ?_
   refine one_ (i := 15) (N := some 4) (bs_ 17 65535) rfl rfl (one_of HT_.out (by kernel_rfl)) (by decide) (fun K hK => ?_)
   refine box_step ?hg (N := 4) ?hd (cs := #[.int .i64 0, .int .i64 0, .slice none 0 0]) (t := 24) ?hr ?_; (case hd => rfl); (case hg => rfl); (case hr => first | (go_simp; done) | (go_simp; rfl))
   intro gb138 hg w17 hbox hb
   have BK138 := Aside0.mk (hbox)
   have GW138 := Aside0.mk ((by rw [hg]; exact (below_size (bw_ HB)) : w.heap.size ≤ gb138))
   have GE138 := Aside0.mk ((by rw [hg]; exact (below_size (bw_ HB)) : w.heap.size ≤ gb138))
   have NB130_138 := Aside0.mk ((by rw [hg]; exact Nat.ne_of_lt (blk_lt (tk_ BK130)) : gb130 ≠ gb138))
   have NB138_130 := Aside0.mk ((by rw [hg]; exact Nat.ne_of_gt (blk_lt (tk_ BK130)) : gb138 ≠ gb130))
   replace HO137 := Aside0.mk (Kd.R_below (tR_ HO137) hb)
   replace BK130 := Aside0.mk (blk_below (tk_ BK130) hb)
   replace HB := Aside0.mk (below_step (bw_ HB) hb)
   clear hb hbox hg
   refine hK.out _ _ ⟨(cb_ HB hw132_0), (cb_ HB hw132_1), (cb_ HB hw132_2), (cb_ HB hw133_0), (cb_ HB hw133_1), (cb_ HB hw133_2), (cb_ HB hw134_0), (cb_ HB hw134_1), (cb_ HB hw134_2)⟩ (fun hHeld => ?_)
   clear hK K
   refine no_ (N := some 4) ?_
   exact norm_ (by simp only [putAll, Act.put, l_1, l_2, l_3]) (hCont (.slice Ao16 y135.length co16, gb138) _ ⟨hHeld, (tR_ HO137), (tk_ BK130), (tk_ BK138), GW138.out, GE138.out, NB130_138.out, NB138_130.out, (bw_ HB)⟩)
  ·
   skip
   refine box_step ?hg (N := 4) ?hd (cs := #[.int .i64 0, .int .i64 0, .slice none 0 0]) (t := 24) ?hr ?_; (case hd => rfl); (case hg => rfl); (case hr => first | (go_simp; done) | (go_simp; rfl))
   intro gb138 hg w14 hbox hb
   have BK138 := Aside0.mk (hbox)
   have GW138 := Aside0.mk ((by rw [hg]; exact (below_size (bw_ HB)) : w.heap.size ≤ gb138))
   have GE138 := Aside0.mk ((by rw [hg]; exact (below_size (bw_ HB)) : w.heap.size ≤ gb138))
   have NB130_138 := Aside0.mk ((by rw [hg]; exact Nat.ne_of_lt (blk_lt (tk_ BK130)) : gb130 ≠ gb138))
   have NB138_130 := Aside0.mk ((by rw [hg]; exact Nat.ne_of_gt (blk_lt (tk_ BK130)) : gb138 ≠ gb130))
   replace BK130 := Aside0.mk (blk_below (tk_ BK130) hb)
   replace HB := Aside0.mk (below_step (bw_ HB) hb)
   clear hb hbox hg
   refine hK.out _ _ ⟨(cb_ HB hw132_0), (cb_ HB hw132_1), (cb_ HB hw132_2), (cb_ HB hw133_0), (cb_ HB hw133_1), (cb_ HB hw133_2), (cb_ HB hw134_0), (cb_ HB hw134_1), (cb_ HB hw134_2)⟩ (fun hHeld => ?_)
   clear hK K
   refine no_ (N := some 4) ?_
   refine one_ (i := 13) (N := some 30) (bs_ 17 49151) rfl rfl (one_of HT_.out (by kernel_rfl)) (by decide) (fun K hK => ?_)
   refine Kd.R_make_step (Kd.int .i32) _ 21 (by rfl) (N := 30) rfl 22 _ _ rfl (((rd_T24 l0 0).f2).length : Int) rfl rfl Try.underlying22 (.int .i32 0) 4 info21 rfl (by decide) (by omega) 0 (ok := fun _ => True) (okp := fun _ => True) rfl (fun _ hk => hk) trivial (of_decide_eq_true (by first | (with_reducible assumption) | assumption)) (Nat.le_trans (Nat.mul_le_mul_right _ (of_decide_eq_true (by first | (with_reducible assumption) | assumption) : (((rd_T24 l0 0).f2).length : Int).toNat ≤ 70368744177664)) (by omega)) (Below.refl _ _) (Nat.le_refl _) ?_
   intro v136 w15 ho16 hb hg_ hnew_
   clear hg_ hnew_
   (first | rw [← Ny135.out] at ho16 | (simp only [Int.reduceToNat] at ho16; rw [← Ny135.out] at ho16))
   have HO137 := Aside0.mk (Kd.R_lower ho16 (below_size (bw_ HB)))
   replace BK130 := Aside0.mk (blk_below (tk_ BK130) hb)
   replace BK138 := Aside0.mk (blk_below (tk_ BK138) hb)
   replace HB := Aside0.mk (below_step (bw_ HB) hb)
   clear hb ho16
   obtain ⟨Ao17, co17, eo17⟩ := Kd.R_slice HO137.out
   (first | subst eo17 | (injection eo17 with f1_ f2_ f3_; have f4_ := f1_.symm; have f5_ := f3_.symm; clear f1_ f2_ f3_; subst f4_; subst f5_))
   refine hK.out _ _ ⟨(cb_ HB hw132_0), (cb_ HB hw132_1), (cb_ HB hw132_2), (cb_ HB hw133_0), (cb_ HB hw133_1), (cb_ HB hw133_2), (cb_ HB hw134_0), (cb_ HB hw134_1), (cb_ HB hw134_2)⟩ (fun hHeld => ?_)
   clear hK K
   refine no_ (N := some 30) ?_
   refine pu_ (i := 14) (N := some 31) (bs_ 17 65535) rfl rfl HT_ ?_
   exact norm_ (by simp only [putAll, Act.put, l_1, l_2, l_3]) (hCont (.slice Ao17 y135.length co17, gb138) _ ⟨hHeld, (tR_ HO137), (tk_ BK130), (tk_ BK138), GW138.out, GE138.out, NB130_138.out, NB138_130.out, (bw_ HB)⟩)
 rintro ⟨v136, gb138⟩ w18 ⟨hS_, h0_, h1_, h2_, h3_, h4_, h5_, h6_, h7_⟩
 have n0_ : Aside0 (Kd.R (Kd.int .i32) 21 w18 w.heap.size (fun _ => True) v136 y135) := ⟨h0_⟩
 have n1_ : Aside0 (w18.heap[gb130]? = some (.cells #[.int .i64 0, .int .i64 0, .slice none 0 0] 24 (0, 0))) := ⟨h1_⟩
 have n2_ : Aside0 (w18.heap[gb138]? = some (.cells #[.int .i64 0, .int .i64 0, .slice none 0 0] 24 (0, 0))) := ⟨h2_⟩
 have n3_ : Aside0 (w.heap.size ≤ gb138) := ⟨h3_⟩
 have n4_ : Aside0 (w.heap.size ≤ gb138) := ⟨h4_⟩
 have n5_ : Aside0 (gb130 ≠ gb138) := ⟨h5_⟩
 have n6_ : Aside0 (gb138 ≠ gb130) := ⟨h6_⟩
 have n7_ : Aside0 (Below w.heap.size w w18) := ⟨h7_⟩
 clear BK130
 clear HB
 clear h0_ h1_ h2_ h3_ h4_ h5_ h6_ h7_
 have HO137 := n0_
 have BK130 := n1_
 have BK138 := n2_
 have GW138 := n3_
 have GE138 := n4_
 have NB130_138 := n5_
 have NB138_130 := n6_
 have HB := n7_
 clear n0_ n1_ n2_ n3_ n4_ n5_ n6_ n7_
 have hHeld : w18.cell? ad132 = some (.int .i64 ((rd_T24 l0 0).f0)) ∧ w18.cell? ⟨ad132.block, ad132.off + 1, none⟩ = some (.int .i64 ((rd_T24 l0 0).f1)) ∧ w18.cell? ⟨ad132.block, ad132.off + 2, none⟩ = some (.slice A132_2 ((rd_T24 l0 0).f2).length c132_2) ∧ w18.cell? ad132 = some (.int .i64 ((rd_T24 l0 0).f0)) ∧ w18.cell? ⟨ad132.block, ad132.off + 1, none⟩ = some (.int .i64 ((rd_T24 l0 0).f1)) ∧ w18.cell? ⟨ad132.block, ad132.off + 2, none⟩ = some (.slice A132_2 ((rd_T24 l0 0).f2).length c132_2) ∧ w18.cell? ad132 = some (.int .i64 ((rd_T24 l0 0).f0)) ∧ w18.cell? ⟨ad132.block, ad132.off + 1, none⟩ = some (.int .i64 ((rd_T24 l0 0).f1)) ∧ w18.cell? ⟨ad132.block, ad132.off + 2, none⟩ = some (.slice A132_2 ((rd_T24 l0 0).f2).length c132_2) := hS_
 obtain ⟨Ao19, co19, eo19⟩ := Kd.R_slice HO137.out
 (first | subst eo19 | (injection eo19 with f1_ f2_ f3_; have f4_ := f1_.symm; have f5_ := f3_.symm; clear f1_ f2_ f3_; subst f4_; subst f5_))
 refine norm_ (a' := ?_) ?_ ?_
 rotate_left
 ·
  simp only [putAll, Act.put, l_1, l_2, l_3]
  rfl
 refine one_ (i := 16) (N := none) (bs_ 17 131071) rfl rfl (one_of HT_.out (by kernel_rfl)) (by decide) (fun K hK => ?_)
 have hs20 := bc_0 BK138
 have hfs20 := blk_frozen BK138.out 0
 have hns20_0 := NB130_138.out
 have hms20_0 := NB138_130.out
 have hs21 := bc_1 BK138
 have hfs21 := blk_frozen BK138.out 1
 have hns21_0 := NB130_138.out
 have hms21_0 := NB138_130.out
 have hs22 := bc_2 BK138
 have hfs22 := blk_frozen BK138.out 2
 have hns22_0 := NB130_138.out
 have hms22_0 := NB138_130.out
 refine skip_ (w1 := ?_) (by rfl) rfl ?_ ?_
 rotate_left
 ·
  go_simp
  rfl
 refine hK.out _ _ ⟨((cell_far (p := ⟨gb138, _, none⟩) (by first | exact Nat.ne_of_lt (Nat.lt_of_lt_of_le (by have := World.block_lt_of_cell? _ _ hw132_0; first | rwa [add_block] at this | exact this) GW138.out) | (rw [add_block]; exact Nat.ne_of_lt (Nat.lt_of_lt_of_le (by have := World.block_lt_of_cell? _ _ hw132_0; first | rwa [add_block] at this | exact this) GW138.out)) | (show (Addr.add _ _).block ≠ _; rw [add_block]; exact Nat.ne_of_lt (Nat.lt_of_lt_of_le (by have := World.block_lt_of_cell? _ _ hw132_0; first | rwa [add_block] at this | exact this) GW138.out)) | (dsimp only; exact Nat.ne_of_lt (Nat.lt_of_lt_of_le (by have := World.block_lt_of_cell? _ _ hw132_0; first | rwa [add_block] at this | exact this) GW138.out))) _).trans (((cell_far (p := ⟨gb138, _, none⟩) (by first | exact Nat.ne_of_lt (Nat.lt_of_lt_of_le (by have := World.block_lt_of_cell? _ _ hw132_0; first | rwa [add_block] at this | exact this) GW138.out) | (rw [add_block]; exact Nat.ne_of_lt (Nat.lt_of_lt_of_le (by have := World.block_lt_of_cell? _ _ hw132_0; first | rwa [add_block] at this | exact this) GW138.out)) | (show (Addr.add _ _).block ≠ _; rw [add_block]; exact Nat.ne_of_lt (Nat.lt_of_lt_of_le (by have := World.block_lt_of_cell? _ _ hw132_0; first | rwa [add_block] at this | exact this) GW138.out)) | (dsimp only; exact Nat.ne_of_lt (Nat.lt_of_lt_of_le (by have := World.block_lt_of_cell? _ _ hw132_0; first | rwa [add_block] at this | exact this) GW138.out))) _).trans (((cell_far (p := ⟨gb138, _, none⟩) (by first | exact Nat.ne_of_lt (Nat.lt_of_lt_of_le (by have := World.block_lt_of_cell? _ _ hw132_0; first | rwa [add_block] at this | exact this) GW138.out) | (rw [add_block]; exact Nat.ne_of_lt (Nat.lt_of_lt_of_le (by have := World.block_lt_of_cell? _ _ hw132_0; first | rwa [add_block] at this | exact this) GW138.out)) | (show (Addr.add _ _).block ≠ _; rw [add_block]; exact Nat.ne_of_lt (Nat.lt_of_lt_of_le (by have := World.block_lt_of_cell? _ _ hw132_0; first | rwa [add_block] at this | exact this) GW138.out)) | (dsimp only; exact Nat.ne_of_lt (Nat.lt_of_lt_of_le (by have := World.block_lt_of_cell? _ _ hw132_0; first | rwa [add_block] at this | exact this) GW138.out))) _).trans (hHeld.1)))))), ((cell_far (p := ⟨gb138, _, none⟩) (by first | exact Nat.ne_of_lt (Nat.lt_of_lt_of_le (by have := World.block_lt_of_cell? _ _ hw132_1; first | rwa [add_block] at this | exact this) GW138.out) | (rw [add_block]; exact Nat.ne_of_lt (Nat.lt_of_lt_of_le (by have := World.block_lt_of_cell? _ _ hw132_1; first | rwa [add_block] at this | exact this) GW138.out)) | (show (Addr.add _ _).block ≠ _; rw [add_block]; exact Nat.ne_of_lt (Nat.lt_of_lt_of_le (by have := World.block_lt_of_cell? _ _ hw132_1; first | rwa [add_block] at this | exact this) GW138.out)) | (dsimp only; exact Nat.ne_of_lt (Nat.lt_of_lt_of_le (by have := World.block_lt_of_cell? _ _ hw132_1; first | rwa [add_block] at this | exact this) GW138.out))) _).trans (((cell_far (p := ⟨gb138, _, none⟩) (by first | exact Nat.ne_of_lt (Nat.lt_of_lt_of_le (by have := World.block_lt_of_cell? _ _ hw132_1; first | rwa [add_block] at this | exact this) GW138.out) | (rw [add_block]; exact Nat.ne_of_lt (Nat.lt_of_lt_of_le (by have := World.block_lt_of_cell? _ _ hw132_1; first | rwa [add_block] at this | exact this) GW138.out)) | (show (Addr.add _ _).block ≠ _; rw [add_block]; exact Nat.ne_of_lt (Nat.lt_of_lt_of_le (by have := World.block_lt_of_cell? _ _ hw132_1; first | rwa [add_block] at this | exact this) GW138.out)) | (dsimp only; exact Nat.ne_of_lt (Nat.lt_of_lt_of_le (by have := World.block_lt_of_cell? _ _ hw132_1; first | rwa [add_block] at this | exact this) GW138.out))) _).trans (((cell_far (p := ⟨gb138, _, none⟩) (by first | exact Nat.ne_of_lt (Nat.lt_of_lt_of_le (by have := World.block_lt_of_cell? _ _ hw132_1; first | rwa [add_block] at this | exact this) GW138.out) | (rw [add_block]; exact Nat.ne_of_lt (Nat.lt_of_lt_of_le (by have := World.block_lt_of_cell? _ _ hw132_1; first | rwa [add_block] at this | exact this) GW138.out)) | (show (Addr.add _ _).block ≠ _; rw [add_block]; exact Nat.ne_of_lt (Nat.lt_of_lt_of_le (by have := World.block_lt_of_cell? _ _ hw132_1; first | rwa [add_block] at this | exact this) GW138.out)) | (dsimp only; exact Nat.ne_of_lt (Nat.lt_of_lt_of_le (by have := World.block_lt_of_cell? _ _ hw132_1; first | rwa [add_block] at this | exact this) GW138.out))) _).trans (hHeld.2.1)))))), ((cell_far (p := ⟨gb138, _, none⟩) (by first | exact Nat.ne_of_lt (Nat.lt_of_lt_of_le (by have := World.block_lt_of_cell? _ _ hw132_2; first | rwa [add_block] at this | exact this) GW138.out) | (rw [add_block]; exact Nat.ne_of_lt (Nat.lt_of_lt_of_le (by have := World.block_lt_of_cell? _ _ hw132_2; first | rwa [add_block] at this | exact this) GW138.out)) | (show (Addr.add _ _).block ≠ _; rw [add_block]; exact Nat.ne_of_lt (Nat.lt_of_lt_of_le (by have := World.block_lt_of_cell? _ _ hw132_2; first | rwa [add_block] at this | exact this) GW138.out)) | (dsimp only; exact Nat.ne_of_lt (Nat.lt_of_lt_of_le (by have := World.block_lt_of_cell? _ _ hw132_2; first | rwa [add_block] at this | exact this) GW138.out))) _).trans (((cell_far (p := ⟨gb138, _, none⟩) (by first | exact Nat.ne_of_lt (Nat.lt_of_lt_of_le (by have := World.block_lt_of_cell? _ _ hw132_2; first | rwa [add_block] at this | exact this) GW138.out) | (rw [add_block]; exact Nat.ne_of_lt (Nat.lt_of_lt_of_le (by have := World.block_lt_of_cell? _ _ hw132_2; first | rwa [add_block] at this | exact this) GW138.out)) | (show (Addr.add _ _).block ≠ _; rw [add_block]; exact Nat.ne_of_lt (Nat.lt_of_lt_of_le (by have := World.block_lt_of_cell? _ _ hw132_2; first | rwa [add_block] at this | exact this) GW138.out)) | (dsimp only; exact Nat.ne_of_lt (Nat.lt_of_lt_of_le (by have := World.block_lt_of_cell? _ _ hw132_2; first | rwa [add_block] at this | exact this) GW138.out))) _).trans (((cell_far (p := ⟨gb138, _, none⟩) (by first | exact Nat.ne_of_lt (Nat.lt_of_lt_of_le (by have := World.block_lt_of_cell? _ _ hw132_2; first | rwa [add_block] at this | exact this) GW138.out) | (rw [add_block]; exact Nat.ne_of_lt (Nat.lt_of_lt_of_le (by have := World.block_lt_of_cell? _ _ hw132_2; first | rwa [add_block] at this | exact this) GW138.out)) | (show (Addr.add _ _).block ≠ _; rw [add_block]; exact Nat.ne_of_lt (Nat.lt_of_lt_of_le (by have := World.block_lt_of_cell? _ _ hw132_2; first | rwa [add_block] at this | exact this) GW138.out)) | (dsimp only; exact Nat.ne_of_lt (Nat.lt_of_lt_of_le (by have := World.block_lt_of_cell? _ _ hw132_2; first | rwa [add_block] at this | exact this) GW138.out))) _).trans (hHeld.2.2.1)))))), ((cell_far (p := ⟨gb138, _, none⟩) (by first | exact Nat.ne_of_lt (Nat.lt_of_lt_of_le (by have := World.block_lt_of_cell? _ _ hw133_0; first | rwa [add_block] at this | exact this) GW138.out) | (rw [add_block]; exact Nat.ne_of_lt (Nat.lt_of_lt_of_le (by have := World.block_lt_of_cell? _ _ hw133_0; first | rwa [add_block] at this | exact this) GW138.out)) | (show (Addr.add _ _).block ≠ _; rw [add_block]; exact Nat.ne_of_lt (Nat.lt_of_lt_of_le (by have := World.block_lt_of_cell? _ _ hw133_0; first | rwa [add_block] at this | exact this) GW138.out)) | (dsimp only; exact Nat.ne_of_lt (Nat.lt_of_lt_of_le (by have := World.block_lt_of_cell? _ _ hw133_0; first | rwa [add_block] at this | exact this) GW138.out))) _).trans (((cell_far (p := ⟨gb138, _, none⟩) (by first | exact Nat.ne_of_lt (Nat.lt_of_lt_of_le (by have := World.block_lt_of_cell? _ _ hw133_0; first | rwa [add_block] at this | exact this) GW138.out) | (rw [add_block]; exact Nat.ne_of_lt (Nat.lt_of_lt_of_le (by have := World.block_lt_of_cell? _ _ hw133_0; first | rwa [add_block] at this | exact this) GW138.out)) | (show (Addr.add _ _).block ≠ _; rw [add_block]; exact Nat.ne_of_lt (Nat.lt_of_lt_of_le (by have := World.block_lt_of_cell? _ _ hw133_0; first | rwa [add_block] at this | exact this) GW138.out)) | (dsimp only; exact Nat.ne_of_lt (Nat.lt_of_lt_of_le (by have := World.block_lt_of_cell? _ _ hw133_0; first | rwa [add_block] at this | exact this) GW138.out))) _).trans (((cell_far (p := ⟨gb138, _, none⟩) (by first | exact Nat.ne_of_lt (Nat.lt_of_lt_of_le (by have := World.block_lt_of_cell? _ _ hw133_0; first | rwa [add_block] at this | exact this) GW138.out) | (rw [add_block]; exact Nat.ne_of_lt (Nat.lt_of_lt_of_le (by have := World.block_lt_of_cell? _ _ hw133_0; first | rwa [add_block] at this | exact this) GW138.out)) | (show (Addr.add _ _).block ≠ _; rw [add_block]; exact Nat.ne_of_lt (Nat.lt_of_lt_of_le (by have := World.block_lt_of_cell? _ _ hw133_0; first | rwa [add_block] at this | exact this) GW138.out)) | (dsimp only; exact Nat.ne_of_lt (Nat.lt_of_lt_of_le (by have := World.block_lt_of_cell? _ _ hw133_0; first | rwa [add_block] at this | exact this) GW138.out))) _).trans (hHeld.2.2.2.1)))))), ((cell_far (p := ⟨gb138, _, none⟩) (by first | exact Nat.ne_of_lt (Nat.lt_of_lt_of_le (by have := World.block_lt_of_cell? _ _ hw133_1; first | rwa [add_block] at this | exact this) GW138.out) | (rw [add_block]; exact Nat.ne_of_lt (Nat.lt_of_lt_of_le (by have := World.block_lt_of_cell? _ _ hw133_1; first | rwa [add_block] at this | exact this) GW138.out)) | (show (Addr.add _ _).block ≠ _; rw [add_block]; exact Nat.ne_of_lt (Nat.lt_of_lt_of_le (by have := World.block_lt_of_cell? _ _ hw133_1; first | rwa [add_block] at this | exact this) GW138.out)) | (dsimp only; exact Nat.ne_of_lt (Nat.lt_of_lt_of_le (by have := World.block_lt_of_cell? _ _ hw133_1; first | rwa [add_block] at this | exact this) GW138.out))) _).trans (((cell_far (p := ⟨gb138, _, none⟩) (by first | exact Nat.ne_of_lt (Nat.lt_of_lt_of_le (by have := World.block_lt_of_cell? _ _ hw133_1; first | rwa [add_block] at this | exact this) GW138.out) | (rw [add_block]; exact Nat.ne_of_lt (Nat.lt_of_lt_of_le (by have := World.block_lt_of_cell? _ _ hw133_1; first | rwa [add_block] at this | exact this) GW138.out)) | (show (Addr.add _ _).block ≠ _; rw [add_block]; exact Nat.ne_of_lt (Nat.lt_of_lt_of_le (by have := World.block_lt_of_cell? _ _ hw133_1; first | rwa [add_block] at this | exact this) GW138.out)) | (dsimp only; exact Nat.ne_of_lt (Nat.lt_of_lt_of_le (by have := World.block_lt_of_cell? _ _ hw133_1; first | rwa [add_block] at this | exact this) GW138.out))) _).trans (((cell_far (p := ⟨gb138, _, none⟩) (by first | exact Nat.ne_of_lt (Nat.lt_of_lt_of_le (by have := World.block_lt_of_cell? _ _ hw133_1; first | rwa [add_block] at this | exact this) GW138.out) | (rw [add_block]; exact Nat.ne_of_lt (Nat.lt_of_lt_of_le (by have := World.block_lt_of_cell? _ _ hw133_1; first | rwa [add_block] at this | exact this) GW138.out)) | (show (Addr.add _ _).block ≠ _; rw [add_block]; exact Nat.ne_of_lt (Nat.lt_of_lt_of_le (by have := World.block_lt_of_cell? _ _ hw133_1; first | rwa [add_block] at this | exact this) GW138.out)) | (dsimp only; exact Nat.ne_of_lt (Nat.lt_of_lt_of_le (by have := World.block_lt_of_cell? _ _ hw133_1; first | rwa [add_block] at this | exact this) GW138.out))) _).trans (hHeld.2.2.2.2.1)))))), ((cell_far (p := ⟨gb138, _, none⟩) (by first | exact Nat.ne_of_lt (Nat.lt_of_lt_of_le (by have := World.block_lt_of_cell? _ _ hw133_2; first | rwa [add_block] at this | exact this) GW138.out) | (rw [add_block]; exact Nat.ne_of_lt (Nat.lt_of_lt_of_le (by have := World.block_lt_of_cell? _ _ hw133_2; first | rwa [add_block] at this | exact this) GW138.out)) | (show (Addr.add _ _).block ≠ _; rw [add_block]; exact Nat.ne_of_lt (Nat.lt_of_lt_of_le (by have := World.block_lt_of_cell? _ _ hw133_2; first | rwa [add_block] at this | exact this) GW138.out)) | (dsimp only; exact Nat.ne_of_lt (Nat.lt_of_lt_of_le (by have := World.block_lt_of_cell? _ _ hw133_2; first | rwa [add_block] at this | exact this) GW138.out))) _).trans (((cell_far (p := ⟨gb138, _, none⟩) (by first | exact Nat.ne_of_lt (Nat.lt_of_lt_of_le (by have := World.block_lt_of_cell? _ _ hw133_2; first | rwa [add_block] at this | exact this) GW138.out) | (rw [add_block]; exact Nat.ne_of_lt (Nat.lt_of_lt_of_le (by have := World.block_lt_of_cell? _ _ hw133_2; first | rwa [add_block] at this | exact this) GW138.out)) | (show (Addr.add _ _).block ≠ _; rw [add_block]; exact Nat.ne_of_lt (Nat.lt_of_lt_of_le (by have := World.block_lt_of_cell? _ _ hw133_2; first | rwa [add_block] at this | exact this) GW138.out)) | (dsimp only; exact Nat.ne_of_lt (Nat.lt_of_lt_of_le (by have := World.block_lt_of_cell? _ _ hw133_2; first | rwa [add_block] at this | exact this) GW138.out))) _).trans (((cell_far (p := ⟨gb138, _, none⟩) (by first | exact Nat.ne_of_lt (Nat.lt_of_lt_of_le (by have := World.block_lt_of_cell? _ _ hw133_2; first | rwa [add_block] at this | exact this) GW138.out) | (rw [add_block]; exact Nat.ne_of_lt (Nat.lt_of_lt_of_le (by have := World.block_lt_of_cell? _ _ hw133_2; first | rwa [add_block] at this | exact this) GW138.out)) | (show (Addr.add _ _).block ≠ _; rw [add_block]; exact Nat.ne_of_lt (Nat.lt_of_lt_of_le (by have := World.block_lt_of_cell? _ _ hw133_2; first | rwa [add_block] at this | exact this) GW138.out)) | (dsimp only; exact Nat.ne_of_lt (Nat.lt_of_lt_of_le (by have := World.block_lt_of_cell? _ _ hw133_2; first | rwa [add_block] at this | exact this) GW138.out))) _).trans (hHeld.2.2.2.2.2.1)))))), ((cell_far (p := ⟨gb138, _, none⟩) (by first | exact Nat.ne_of_lt (Nat.lt_of_lt_of_le (by have := World.block_lt_of_cell? _ _ hw134_0; first | rwa [add_block] at this | exact this) GW138.out) | (rw [add_block]; exact Nat.ne_of_lt (Nat.lt_of_lt_of_le (by have := World.block_lt_of_cell? _ _ hw134_0; first | rwa [add_block] at this | exact this) GW138.out)) | (show (Addr.add _ _).block ≠ _; rw [add_block]; exact Nat.ne_of_lt (Nat.lt_of_lt_of_le (by have := World.block_lt_of_cell? _ _ hw134_0; first | rwa [add_block] at this | exact this) GW138.out)) | (dsimp only; exact Nat.ne_of_lt (Nat.lt_of_lt_of_le (by have := World.block_lt_of_cell? _ _ hw134_0; first | rwa [add_block] at this | exact this) GW138.out))) _).trans (((cell_far (p := ⟨gb138, _, none⟩) (by first | exact Nat.ne_of_lt (Nat.lt_of_lt_of_le (by have := World.block_lt_of_cell? _ _ hw134_0; first | rwa [add_block] at this | exact this) GW138.out) | (rw [add_block]; exact Nat.ne_of_lt (Nat.lt_of_lt_of_le (by have := World.block_lt_of_cell? _ _ hw134_0; first | rwa [add_block] at this | exact this) GW138.out)) | (show (Addr.add _ _).block ≠ _; rw [add_block]; exact Nat.ne_of_lt (Nat.lt_of_lt_of_le (by have := World.block_lt_of_cell? _ _ hw134_0; first | rwa [add_block] at this | exact this) GW138.out)) | (dsimp only; exact Nat.ne_of_lt (Nat.lt_of_lt_of_le (by have := World.block_lt_of_cell? _ _ hw134_0; first | rwa [add_block] at this | exact this) GW138.out))) _).trans (((cell_far (p := ⟨gb138, _, none⟩) (by first | exact Nat.ne_of_lt (Nat.lt_of_lt_of_le (by have := World.block_lt_of_cell? _ _ hw134_0; first | rwa [add_block] at this | exact this) GW138.out) | (rw [add_block]; exact Nat.ne_of_lt (Nat.lt_of_lt_of_le (by have := World.block_lt_of_cell? _ _ hw134_0; first | rwa [add_block] at this | exact this) GW138.out)) | (show (Addr.add _ _).block ≠ _; rw [add_block]; exact Nat.ne_of_lt (Nat.lt_of_lt_of_le (by have := World.block_lt_of_cell? _ _ hw134_0; first | rwa [add_block] at this | exact this) GW138.out)) | (dsimp only; exact Nat.ne_of_lt (Nat.lt_of_lt_of_le (by have := World.block_lt_of_cell? _ _ hw134_0; first | rwa [add_block] at this | exact this) GW138.out))) _).trans (hHeld.2.2.2.2.2.2.1)))))), ((cell_far (p := ⟨gb138, _, none⟩) (by first | exact Nat.ne_of_lt (Nat.lt_of_lt_of_le (by have := World.block_lt_of_cell? _ _ hw134_1; first | rwa [add_block] at this | exact this) GW138.out) | (rw [add_block]; exact Nat.ne_of_lt (Nat.lt_of_lt_of_le (by have := World.block_lt_of_cell? _ _ hw134_1; first | rwa [add_block] at this | exact this) GW138.out)) | (show (Addr.add _ _).block ≠ _; rw [add_block]; exact Nat.ne_of_lt (Nat.lt_of_lt_of_le (by have := World.block_lt_of_cell? _ _ hw134_1; first | rwa [add_block] at this | exact this) GW138.out)) | (dsimp only; exact Nat.ne_of_lt (Nat.lt_of_lt_of_le (by have := World.block_lt_of_cell? _ _ hw134_1; first | rwa [add_block] at this | exact this) GW138.out))) _).trans (((cell_far (p := ⟨gb138, _, none⟩) (by first | exact Nat.ne_of_lt (Nat.lt_of_lt_of_le (by have := World.block_lt_of_cell? _ _ hw134_1; first | rwa [add_block] at this | exact this) GW138.out) | (rw [add_block]; exact Nat.ne_of_lt (Nat.lt_of_lt_of_le (by have := World.block_lt_of_cell? _ _ hw134_1; first | rwa [add_block] at this | exact this) GW138.out)) | (show (Addr.add _ _).block ≠ _; rw [add_block]; exact Nat.ne_of_lt (Nat.lt_of_lt_of_le (by have := World.block_lt_of_cell? _ _ hw134_1; first | rwa [add_block] at this | exact this) GW138.out)) | (dsimp only; exact Nat.ne_of_lt (Nat.lt_of_lt_of_le (by have := World.block_lt_of_cell? _ _ hw134_1; first | rwa [add_block] at this | exact this) GW138.out))) _).trans (((cell_far (p := ⟨gb138, _, none⟩) (by first | exact Nat.ne_of_lt (Nat.lt_of_lt_of_le (by have := World.block_lt_of_cell? _ _ hw134_1; first | rwa [add_block] at this | exact this) GW138.out) | (rw [add_block]; exact Nat.ne_of_lt (Nat.lt_of_lt_of_le (by have := World.block_lt_of_cell? _ _ hw134_1; first | rwa [add_block] at this | exact this) GW138.out)) | (show (Addr.add _ _).block ≠ _; rw [add_block]; exact Nat.ne_of_lt (Nat.lt_of_lt_of_le (by have := World.block_lt_of_cell? _ _ hw134_1; first | rwa [add_block] at this | exact this) GW138.out)) | (dsimp only; exact Nat.ne_of_lt (Nat.lt_of_lt_of_le (by have := World.block_lt_of_cell? _ _ hw134_1; first | rwa [add_block] at this | exact this) GW138.out))) _).trans (hHeld.2.2.2.2.2.2.2.1)))))), ((cell_far (p := ⟨gb138, _, none⟩) (by first | exact Nat.ne_of_lt (Nat.lt_of_lt_of_le (by have := World.block_lt_of_cell? _ _ hw134_2; first | rwa [add_block] at this | exact this) GW138.out) | (rw [add_block]; exact Nat.ne_of_lt (Nat.lt_of_lt_of_le (by have := World.block_lt_of_cell? _ _ hw134_2; first | rwa [add_block] at this | exact this) GW138.out)) | (show (Addr.add _ _).block ≠ _; rw [add_block]; exact Nat.ne_of_lt (Nat.lt_of_lt_of_le (by have := World.block_lt_of_cell? _ _ hw134_2; first | rwa [add_block] at this | exact this) GW138.out)) | (dsimp only; exact Nat.ne_of_lt (Nat.lt_of_lt_of_le (by have := World.block_lt_of_cell? _ _ hw134_2; first | rwa [add_block] at this | exact this) GW138.out))) _).trans (((cell_far (p := ⟨gb138, _, none⟩) (by first | exact Nat.ne_of_lt (Nat.lt_of_lt_of_le (by have := World.block_lt_of_cell? _ _ hw134_2; first | rwa [add_block] at this | exact this) GW138.out) | (rw [add_block]; exact Nat.ne_of_lt (Nat.lt_of_lt_of_le (by have := World.block_lt_of_cell? _ _ hw134_2; first | rwa [add_block] at this | exact this) GW138.out)) | (show (Addr.add _ _).block ≠ _; rw [add_block]; exact Nat.ne_of_lt (Nat.lt_of_lt_of_le (by have := World.block_lt_of_cell? _ _ hw134_2; first | rwa [add_block] at this | exact this) GW138.out)) | (dsimp only; exact Nat.ne_of_lt (Nat.lt_of_lt_of_le (by have := World.block_lt_of_cell? _ _ hw134_2; first | rwa [add_block] at this | exact this) GW138.out))) _).trans (((cell_far (p := ⟨gb138, _, none⟩) (by first | exact Nat.ne_of_lt (Nat.lt_of_lt_of_le (by have := World.block_lt_of_cell? _ _ hw134_2; first | rwa [add_block] at this | exact this) GW138.out) | (rw [add_block]; exact Nat.ne_of_lt (Nat.lt_of_lt_of_le (by have := World.block_lt_of_cell? _ _ hw134_2; first | rwa [add_block] at this | exact this) GW138.out)) | (show (Addr.add _ _).block ≠ _; rw [add_block]; exact Nat.ne_of_lt (Nat.lt_of_lt_of_le (by have := World.block_lt_of_cell? _ _ hw134_2; first | rwa [add_block] at this | exact this) GW138.out)) | (dsimp only; exact Nat.ne_of_lt (Nat.lt_of_lt_of_le (by have := World.block_lt_of_cell? _ _ hw134_2; first | rwa [add_block] at this | exact this) GW138.out))) _).trans (hHeld.2.2.2.2.2.2.2.2))))))⟩ (fun hHeld => ?_)
 clear hK K
 refine done_ (done_of HT_.out (by kernel_rfl)) ?_
 try go_wp2
 go_loopg [34] k (fun kq v34 w' => ∃ (x34_1 : Int) (x131000_1 : Int) (x131001_1 : Int) (x139002_1 : List Int) (u139002 : Value), v34 = .int .i64 x34_1 ∧ Aside0 (grid_Add.l0 kq l0 (l0.length : Int) x34_1 ((rd_T24 l0 0).f0) ((rd_T24 l0 0).f1) x139002_1 = some (r1, r2, r3, r4)) ∧ Aside0 (kq ≤ k) ∧ Aside0 (Kd.R (Kd.int .i32) 21 w' w.heap.size (fun _ => True) u139002 x139002_1) ∧ Aside0 (w'.heap[gb130]? = some (.cells #[.int .i64 x131000_1, .int .i64 x131001_1, (.slice none 0 0)] 24 (0, 0))) ∧ Aside0 (w'.heap[gb138]? = some (.cells #[.int .i64 ((rd_T24 l0 0).f0), .int .i64 ((rd_T24 l0 0).f1), u139002] 24 (0, 0))) ∧ Aside0 (Below w.heap.size w w'))
 case atStart => exact ⟨(0), (0), (0), (y135), (.slice Ao19 y135.length co19), (by first | rfl | (simp; done) | (simp [*]; done)), H', ⟨Nat.le_refl _⟩, ⟨by (with_reducible repeat (first | apply Kd.R_alloc | apply Kd.R_drewN | apply Kd.R_drew)); exact Kd.R_mono (Kd.R_far (p := ⟨gb138, 2, none⟩) (Kd.R_far (p := ⟨gb138, 1, none⟩) (Kd.R_far (p := ⟨gb138, 0, none⟩) (Kd.R_types HO137.out BK138.out (by decide)) (fun _ hk => hk.2) (.int .i64 ((rd_T24 l0 0).f0))) (fun _ hk => hk.2) (.int .i64 ((rd_T24 l0 0).f1))) (fun _ hk => hk.2) (.slice Ao19 y135.length co19)) (fun _ hk => trivial)⟩, ⟨by (with_reducible repeat (first | refine k_n ?_ _ | refine k_d ?_ | refine k_a ?_ _)); refine blk_far ?_ NB130_138.out _; (with_reducible repeat (first | refine k_n ?_ _ | refine k_d ?_ | refine k_a ?_ _)); refine blk_far ?_ NB130_138.out _; (with_reducible repeat (first | refine k_n ?_ _ | refine k_d ?_ | refine k_a ?_ _)); refine blk_far ?_ NB130_138.out _; (with_reducible repeat (first | refine k_n ?_ _ | refine k_d ?_ | refine k_a ?_ _)); exact BK130.out⟩, ⟨by (with_reducible repeat (first | refine k_n ?_ _ | refine k_d ?_ | refine k_a ?_ _)); refine blk_put (cs := #[.int .i64 ((rd_T24 l0 0).f0), .int .i64 ((rd_T24 l0 0).f1), .slice none 0 0]) ?_ 2 _ rfl; (with_reducible repeat (first | refine k_n ?_ _ | refine k_d ?_ | refine k_a ?_ _)); refine blk_put (cs := #[.int .i64 ((rd_T24 l0 0).f0), .int .i64 0, .slice none 0 0]) ?_ 1 _ rfl; (with_reducible repeat (first | refine k_n ?_ _ | refine k_d ?_ | refine k_a ?_ _)); refine blk_put (cs := #[.int .i64 0, .int .i64 0, .slice none 0 0]) ?_ 0 _ rfl; (with_reducible repeat (first | refine k_n ?_ _ | refine k_d ?_ | refine k_a ?_ _)); exact BK138.out⟩, ⟨by repeat (first | (with_reducible first | exact HB.out | apply b_a | apply b_n | apply b_d | refine b_s ?_ GE130.out | refine b_s ?_ GE138.out) | exact HB.out)⟩⟩
 case round =>
  clear H'
  try clear c1
  try clear p1
  try clear q1
  try clear hx1
  try clear qi1
  try clear c2
  try clear p2
  try clear c3
  try clear c4
  try clear c4b0
  try clear c4b1
  try clear c4b2
  try clear c8
  try clear c8b0
  try clear c8b1
  try clear c9
  try clear c9b0
  try clear c9b1
  try clear c10
  try clear c10b0
  try clear c10b1
  try clear c13
  try clear p13
  try clear q13
  try clear hx13
  try clear qi13
  try clear c21
  try clear hcz7_0
  try clear hcz7_1
  try clear hcz7_2
  try clear hfz7_0
  try clear hfz7_1
  try clear hfz7_2
  try clear hx132_0
  try clear hx132_1
  try clear hx132_2
  try clear hx133_0
  try clear hx133_1
  try clear hx133_2
  try clear hx134_0
  try clear hx134_1
  try clear hx134_2
  try clear p132
  try clear p133
  try clear p134
  try clear q132
  try clear q133
  try clear q134
  obtain ⟨x34_1, x131000_1, x131001_1, x139002_1, u139002, rfl, HA, HK1, HO_139002, BK130, BK138, HB⟩ := hrel
  cases gk with
  | zero => exact absurd HA.out (by simp [grid_Add.l0])
  | succ k1 =>
   have H := HA.out
   clear HA
   simp only [grid_Add.l0] at H
   by_cases c23 : x34_1 < (l0.length : Int)
   rotate_left
   ·
    rw [if_neg c23] at H
    have c23b0 : decide (x34_1 < (l0.length : Int)) = false := decide_eq_false c23
    clear c23
    simp only [Option.some.injEq, Prod.mk.injEq] at H
    obtain ⟨rfl, rfl, rfl, rfl⟩ := H
    have hnb60 := NB138_130.out
    have hnc60 := NB130_138.out
    have hcz61_0 := bc_0 BK138
    have hcz61_1 := bc_1 BK138
    have hcz61_2 := bc_2 BK138
    have hfz61_0 := blk_frozen BK138.out 0
    have hfz61_1 := blk_frozen BK138.out 1
    have hfz61_2 := blk_frozen BK138.out 2
    have hcz62_0 := bc_0 BK130
    have hcz62_1 := bc_1 BK130
    have hcz62_2 := bc_2 BK130
    have hfz62_0 := blk_frozen BK130.out 0
    have hfz62_1 := blk_frozen BK130.out 1
    have hfz62_2 := blk_frozen BK130.out 2
    obtain ⟨Ao63, co63, eo63⟩ := Kd.R_slice HO_139002.out
    subst eo63
    go_wp2
    refine bodyPost_ret (results_ct rfl _ _ gb130 24 #[.int .i64 ((rd_T24 l0 0).f0), .int .i64 ((rd_T24 l0 0).f1), .slice Ao63 x139002_1.length co63] (0, 0) _ rfl (by (with_reducible repeat (first | refine k_n ?_ _ | refine k_d ?_ | refine k_a ?_ _)); refine blk_put (cs := #[.int .i64 ((rd_T24 l0 0).f0), .int .i64 ((rd_T24 l0 0).f1), .slice none 0 0]) ?_ 2 _ rfl; (with_reducible repeat (first | refine k_n ?_ _ | refine k_d ?_ | refine k_a ?_ _)); refine blk_put (cs := #[.int .i64 ((rd_T24 l0 0).f0), .int .i64 x131001_1, .slice none 0 0]) ?_ 1 _ rfl; (with_reducible repeat (first | refine k_n ?_ _ | refine k_d ?_ | refine k_a ?_ _)); refine blk_put (cs := #[.int .i64 x131000_1, .int .i64 x131001_1, .slice none 0 0]) ?_ 0 _ rfl; (with_reducible repeat (first | refine k_n ?_ _ | refine k_d ?_ | refine k_a ?_ _)); exact BK130.out) Try.underlying24 rfl (by kernel_rfl)) rfl ?_
    exact ⟨_, by first | rfl | (simp [errW_none, errW_some] <;> rfl) | (simp [*, errW_none, errW_some] <;> rfl), by (with_reducible repeat (first | apply Kd.R_alloc | apply Kd.R_drewN | apply Kd.R_drew)); exact Kd.R_mono (Kd.R_far (p := ⟨gb130, 2, none⟩) (Kd.R_far (p := ⟨gb130, 1, none⟩) (Kd.R_far (p := ⟨gb130, 0, none⟩) (Kd.R_types HO_139002.out BK130.out (by decide)) (fun _ hk => hk.2) (.int .i64 ((rd_T24 l0 0).f0))) (fun _ hk => hk.2) (.int .i64 ((rd_T24 l0 0).f1))) (fun _ hk => hk.2) (.slice Ao63 x139002_1.length co63)) (fun _ hk => trivial), by repeat (first | (with_reducible first | exact HB.out | apply b_a | apply b_n | apply b_d | refine b_s ?_ GE130.out | refine b_s ?_ GE138.out) | exact HB.out)⟩
   rw [if_pos c23] at H
   have c23b0 : decide (x34_1 < (l0.length : Int)) = true := decide_eq_true c23
   clear c23
   by_cases c24 : 0 ≤ x34_1
   rotate_left
   ·
    rw [if_neg c24] at H
    exact absurd H (by simp)
   rw [if_pos c24] at H
   have c24b0 : decide (0 ≤ x34_1) = true := decide_eq_true c24
   clear c24
   by_cases c25 : x34_1 < (l0.length : Int)
   rotate_left
   ·
    rw [if_neg c25] at H
    exact absurd H (by simp)
   rw [if_pos c25] at H
   have c25b0 : decide (x34_1 < (l0.length : Int)) = true := decide_eq_true c25
   clear c25
   have HC26 := Aside0.mk H
   clear H
   have p139 : 0 ≤ (x34_1 : Int) := of_decide_eq_true (by first | (with_reducible assumption) | assumption)
   have q139 : x34_1 < (l0.length : Int) := of_decide_eq_true (by first | (with_reducible assumption) | assumption)
   obtain ⟨ad139, A139_2, c139_2, e139, hx139_0, hx139_1, hx139_2, hl139_2, hi139_2⟩ := at_T24 HR0.out x34_1 p139 q139
   obtain rfl : ad132 = ad139 := (by injection e139)
   replace hx139_0 := cb_ HB hx139_0
   replace hx139_1 := cb_ HB hx139_1
   replace hx139_2 := cb_ HB hx139_2
   have HR139_2 := Aside0.mk hi139_2
   have HC139_2 := Aside0.mk hl139_2
   clear hi139_2 hl139_2
   replace p139 := eq_true p139
   replace q139 := eq_true q139
   go_upto_region 9 with (first | ((with_reducible refine gate_dst (N := 6) rfl ?_); refine box_event ?hg (N := 6) ?hd (cs := #[.int .i64 0, .int .i64 0, .slice none 0 0]) (t := 24) ?hr ?_; (case hd => rfl); (case hg => rfl); (case hr => first | (go_simp; done) | (go_simp; rfl)); intro gb140 hg w27 hbox hb; have BK140 := Aside0.mk (hbox); have GW140 := Aside0.mk ((by rw [hg]; exact (below_size (bw_ HB)) : w.heap.size ≤ gb140)); have GE140 := Aside0.mk ((by rw [hg]; exact (below_size (bw_ HB)) : w.heap.size ≤ gb140)); have NB130_140 := Aside0.mk ((by rw [hg]; exact Nat.ne_of_lt (blk_lt (tk_ BK130)) : gb130 ≠ gb140)); have NB140_130 := Aside0.mk ((by rw [hg]; exact Nat.ne_of_gt (blk_lt (tk_ BK130)) : gb140 ≠ gb130)); have NB138_140 := Aside0.mk ((by rw [hg]; exact Nat.ne_of_lt (blk_lt (tk_ BK138)) : gb138 ≠ gb140)); have NB140_138 := Aside0.mk ((by rw [hg]; exact Nat.ne_of_gt (blk_lt (tk_ BK138)) : gb140 ≠ gb138)); replace HO_139002 := Aside0.mk (Kd.R_below (tR_ HO_139002) hb); replace BK130 := Aside0.mk (blk_below (tk_ BK130) hb); replace BK138 := Aside0.mk (blk_below (tk_ BK138) hb); replace HB := Aside0.mk (below_step (bw_ HB) hb); clear hb hbox hg; have hnb28 := NB140_130.out; have hnc28 := NB130_140.out; have hnb29 := NB140_138.out; have hnc29 := NB138_140.out; have hcz30_0 := bc_0 BK140; have hcz30_1 := bc_1 BK140; have hcz30_2 := bc_2 BK140; have hfz30_0 := blk_frozen BK140.out 0; have hfz30_1 := blk_frozen BK140.out 1; have hfz30_2 := blk_frozen BK140.out 2))
   (try simp only [Act.put, l_1, l_2, l_3])
   go_cut [49] (fun v49 wc => ∃ (kq : Nat) (x49_25 : Bool), v49 = .bool x49_25 ∧ Aside0 (grid_Add.j1 kq l0 (l0.length : Int) x34_1 x49_25 ((rd_T24 l0 0).f0) ((rd_T24 l0 0).f1) x139002_1 ((rd_T24 l0 x34_1).f0) ((rd_T24 l0 x34_1).f1) ((rd_T24 l0 x34_1).f2) = some (r1, r2, r3, r4)) ∧ Aside0 (kq ≤ k1) ∧ Aside0 (Kd.R (Kd.int .i32) 21 wc w.heap.size (fun _ => True) u139002 x139002_1) ∧ Aside0 (wc.heap[gb130]? = some (.cells #[.int .i64 x131000_1, .int .i64 x131001_1, (.slice none 0 0)] 24 (0, 0))) ∧ Aside0 (wc.heap[gb138]? = some (.cells #[.int .i64 ((rd_T24 l0 0).f0), .int .i64 ((rd_T24 l0 0).f1), u139002] 24 (0, 0))) ∧ Aside0 (wc.heap[gb140]? = some (.cells #[.int .i64 ((rd_T24 l0 x34_1).f0), .int .i64 ((rd_T24 l0 x34_1).f1), (.slice A139_2 ((rd_T24 l0 x34_1).f2).length c139_2)] 24 (0, 0))) ∧ Aside0 (Below w.heap.size w wc))
   case first =>
    have H := HC26.out
    clear HC26
    by_cases c31 : ((rd_T24 l0 x34_1).f0) = ((rd_T24 l0 0).f0)
    rotate_left
    ·
     rw [if_neg c31] at H
     have c31b0 : (((rd_T24 l0 x34_1).f0) == ((rd_T24 l0 0).f0)) = false := beq_eq_false_iff_ne.mpr c31
     have c31b1 : (((rd_T24 l0 x34_1).f0) != ((rd_T24 l0 0).f0)) = true := bne_iff_ne.mpr c31
     (first | rw [c31b0] | (simp only [i64_w, i32_w]; rw [c31b0]) | skip)
     have H' := Aside0.mk H
     clear H
     have hnb37 := NB140_130.out
     have hnc37 := NB130_140.out
     have hnb38 := NB140_138.out
     have hnc38 := NB138_140.out
     have hcz39_0 := bc_0 BK140
     have hcz39_1 := bc_1 BK140
     have hcz39_2 := bc_2 BK140
     have hfz39_0 := blk_frozen BK140.out 0
     have hfz39_1 := blk_frozen BK140.out 1
     have hfz39_2 := blk_frozen BK140.out 2
     have hnb40 := NB138_130.out
     have hnc40 := NB130_138.out
     have hcz41_0 := bc_0 BK138
     have hcz41_1 := bc_1 BK138
     have hcz41_2 := bc_2 BK138
     have hfz41_0 := blk_frozen BK138.out 0
     have hfz41_1 := blk_frozen BK138.out 1
     have hfz41_2 := blk_frozen BK138.out 2
     go_wp2
     go_meet
     case rel => exact ⟨_, (true), (by first | rfl | (simp; done) | (simp [*]; done)), H', ⟨by have := HK1.out; first | omega | exact Nat.le_refl _⟩, ⟨by (with_reducible repeat (first | apply Kd.R_alloc | apply Kd.R_drewN | apply Kd.R_drew)); exact Kd.R_mono (Kd.R_far (p := ⟨gb140, 2, none⟩) (Kd.R_far (p := ⟨gb140, 1, none⟩) (Kd.R_far (p := ⟨gb140, 0, none⟩) (Kd.R_types HO_139002.out BK140.out (by decide)) (fun _ hk => hk.2) (.int .i64 ((rd_T24 l0 x34_1).f0))) (fun _ hk => hk.2) (.int .i64 ((rd_T24 l0 x34_1).f1))) (fun _ hk => hk.2) (.slice A139_2 ((rd_T24 l0 x34_1).f2).length c139_2)) (fun _ hk => trivial)⟩, ⟨by (with_reducible repeat (first | refine k_n ?_ _ | refine k_d ?_ | refine k_a ?_ _)); refine blk_far ?_ NB130_140.out _; (with_reducible repeat (first | refine k_n ?_ _ | refine k_d ?_ | refine k_a ?_ _)); refine blk_far ?_ NB130_140.out _; (with_reducible repeat (first | refine k_n ?_ _ | refine k_d ?_ | refine k_a ?_ _)); refine blk_far ?_ NB130_140.out _; (with_reducible repeat (first | refine k_n ?_ _ | refine k_d ?_ | refine k_a ?_ _)); exact BK130.out⟩, ⟨by (with_reducible repeat (first | refine k_n ?_ _ | refine k_d ?_ | refine k_a ?_ _)); refine blk_far ?_ NB138_140.out _; (with_reducible repeat (first | refine k_n ?_ _ | refine k_d ?_ | refine k_a ?_ _)); refine blk_far ?_ NB138_140.out _; (with_reducible repeat (first | refine k_n ?_ _ | refine k_d ?_ | refine k_a ?_ _)); refine blk_far ?_ NB138_140.out _; (with_reducible repeat (first | refine k_n ?_ _ | refine k_d ?_ | refine k_a ?_ _)); exact BK138.out⟩, ⟨by (with_reducible repeat (first | refine k_n ?_ _ | refine k_d ?_ | refine k_a ?_ _)); refine blk_put (cs := #[.int .i64 ((rd_T24 l0 x34_1).f0), .int .i64 ((rd_T24 l0 x34_1).f1), .slice none 0 0]) ?_ 2 _ rfl; (with_reducible repeat (first | refine k_n ?_ _ | refine k_d ?_ | refine k_a ?_ _)); refine blk_put (cs := #[.int .i64 ((rd_T24 l0 x34_1).f0), .int .i64 0, .slice none 0 0]) ?_ 1 _ rfl; (with_reducible repeat (first | refine k_n ?_ _ | refine k_d ?_ | refine k_a ?_ _)); refine blk_put (cs := #[.int .i64 0, .int .i64 0, .slice none 0 0]) ?_ 0 _ rfl; (with_reducible repeat (first | refine k_n ?_ _ | refine k_d ?_ | refine k_a ?_ _)); exact BK140.out⟩, ⟨by repeat (first | (with_reducible first | exact HB.out | apply b_a | apply b_n | apply b_d | refine b_s ?_ GE130.out | refine b_s ?_ GE138.out | refine b_s ?_ GE140.out) | exact HB.out)⟩⟩
    rw [if_pos c31] at H
    have c31b0 : (((rd_T24 l0 x34_1).f0) == ((rd_T24 l0 0).f0)) = true := beq_iff_eq.mpr c31
    have c31b1 : (((rd_T24 l0 x34_1).f0) != ((rd_T24 l0 0).f0)) = false := bne_eq_false_iff_eq.mpr c31
    clear c31
    (first | rw [c31b0] | (simp only [i64_w, i32_w]; rw [c31b0]) | skip)
    have H' := Aside0.mk H
    clear H
    have hnb32 := NB140_130.out
    have hnc32 := NB130_140.out
    have hnb33 := NB140_138.out
    have hnc33 := NB138_140.out
    have hcz34_0 := bc_0 BK140
    have hcz34_1 := bc_1 BK140
    have hcz34_2 := bc_2 BK140
    have hfz34_0 := blk_frozen BK140.out 0
    have hfz34_1 := blk_frozen BK140.out 1
    have hfz34_2 := blk_frozen BK140.out 2
    have hnb35 := NB138_130.out
    have hnc35 := NB130_138.out
    have hcz36_0 := bc_0 BK138
    have hcz36_1 := bc_1 BK138
    have hcz36_2 := bc_2 BK138
    have hfz36_0 := blk_frozen BK138.out 0
    have hfz36_1 := blk_frozen BK138.out 1
    have hfz36_2 := blk_frozen BK138.out 2
    go_wp2
    go_meet
    case rel => exact ⟨_, ((((rd_T24 l0 x34_1).f1) != ((rd_T24 l0 0).f1))), (by first | rfl | (simp; done) | (simp [*]; done)), H', ⟨by have := HK1.out; first | omega | exact Nat.le_refl _⟩, ⟨by (with_reducible repeat (first | apply Kd.R_alloc | apply Kd.R_drewN | apply Kd.R_drew)); exact Kd.R_mono (Kd.R_far (p := ⟨gb140, 2, none⟩) (Kd.R_far (p := ⟨gb140, 1, none⟩) (Kd.R_far (p := ⟨gb140, 0, none⟩) (Kd.R_types HO_139002.out BK140.out (by decide)) (fun _ hk => hk.2) (.int .i64 ((rd_T24 l0 x34_1).f0))) (fun _ hk => hk.2) (.int .i64 ((rd_T24 l0 x34_1).f1))) (fun _ hk => hk.2) (.slice A139_2 ((rd_T24 l0 x34_1).f2).length c139_2)) (fun _ hk => trivial)⟩, ⟨by (with_reducible repeat (first | refine k_n ?_ _ | refine k_d ?_ | refine k_a ?_ _)); refine blk_far ?_ NB130_140.out _; (with_reducible repeat (first | refine k_n ?_ _ | refine k_d ?_ | refine k_a ?_ _)); refine blk_far ?_ NB130_140.out _; (with_reducible repeat (first | refine k_n ?_ _ | refine k_d ?_ | refine k_a ?_ _)); refine blk_far ?_ NB130_140.out _; (with_reducible repeat (first | refine k_n ?_ _ | refine k_d ?_ | refine k_a ?_ _)); exact BK130.out⟩, ⟨by (with_reducible repeat (first | refine k_n ?_ _ | refine k_d ?_ | refine k_a ?_ _)); refine blk_far ?_ NB138_140.out _; (with_reducible repeat (first | refine k_n ?_ _ | refine k_d ?_ | refine k_a ?_ _)); refine blk_far ?_ NB138_140.out _; (with_reducible repeat (first | refine k_n ?_ _ | refine k_d ?_ | refine k_a ?_ _)); refine blk_far ?_ NB138_140.out _; (with_reducible repeat (first | refine k_n ?_ _ | refine k_d ?_ | refine k_a ?_ _)); exact BK138.out⟩, ⟨by (with_reducible repeat (first | refine k_n ?_ _ | refine k_d ?_ | refine k_a ?_ _)); refine blk_put (cs := #[.int .i64 ((rd_T24 l0 x34_1).f0), .int .i64 ((rd_T24 l0 x34_1).f1), .slice none 0 0]) ?_ 2 _ rfl; (with_reducible repeat (first | refine k_n ?_ _ | refine k_d ?_ | refine k_a ?_ _)); refine blk_put (cs := #[.int .i64 ((rd_T24 l0 x34_1).f0), .int .i64 0, .slice none 0 0]) ?_ 1 _ rfl; (with_reducible repeat (first | refine k_n ?_ _ | refine k_d ?_ | refine k_a ?_ _)); refine blk_put (cs := #[.int .i64 0, .int .i64 0, .slice none 0 0]) ?_ 0 _ rfl; (with_reducible repeat (first | refine k_n ?_ _ | refine k_d ?_ | refine k_a ?_ _)); exact BK140.out⟩, ⟨by repeat (first | (with_reducible first | exact HB.out | apply b_a | apply b_n | apply b_d | refine b_s ?_ GE130.out | refine b_s ?_ GE138.out | refine b_s ?_ GE140.out) | exact HB.out)⟩⟩
   case rest => as_aux_lemma =>
    clear HC26
    try clear c1
    try clear p1
    try clear q1
    try clear hx1
    try clear qi1
    try clear c2
    try clear p2
    try clear c3
    try clear c4
    try clear c4b0
    try clear c4b1
    try clear c4b2
    try clear c8
    try clear c8b0
    try clear c8b1
    try clear c9
    try clear c9b0
    try clear c9b1
    try clear c10
    try clear c10b0
    try clear c10b1
    try clear c13
    try clear p13
    try clear q13
    try clear hx13
    try clear qi13
    try clear c21
    try clear c23
    try clear c23b0
    try clear c24
    try clear c24b0
    try clear c25
    try clear c25b0
    try clear c28
    try clear c29
    try clear c31
    try clear c31b0
    try clear c31b1
    try clear c32
    try clear c33
    try clear c35
    try clear c36
    try clear c37
    try clear c38
    try clear c40
    try clear hcz30_0
    try clear hcz30_1
    try clear hcz30_2
    try clear hcz34_0
    try clear hcz34_1
    try clear hcz34_2
    try clear hcz36_0
    try clear hcz36_1
    try clear hcz36_2
    try clear hcz39_0
    try clear hcz39_1
    try clear hcz39_2
    try clear hcz41_0
    try clear hcz41_1
    try clear hcz41_2
    try clear hcz7_0
    try clear hcz7_1
    try clear hcz7_2
    try clear hfz30_0
    try clear hfz30_1
    try clear hfz30_2
    try clear hfz34_0
    try clear hfz34_1
    try clear hfz34_2
    try clear hfz36_0
    try clear hfz36_1
    try clear hfz36_2
    try clear hfz39_0
    try clear hfz39_1
    try clear hfz39_2
    try clear hfz41_0
    try clear hfz41_1
    try clear hfz41_2
    try clear hfz7_0
    try clear hfz7_1
    try clear hfz7_2
    try clear hx132_0
    try clear hx132_1
    try clear hx132_2
    try clear hx133_0
    try clear hx133_1
    try clear hx133_2
    try clear hx134_0
    try clear hx134_1
    try clear hx134_2
    try clear hx139_0
    try clear hx139_1
    try clear hx139_2
    try clear p1
    try clear p13
    try clear p132
    try clear p133
    try clear p134
    try clear p139
    try clear p2
    try clear q1
    try clear q13
    try clear q132
    try clear q133
    try clear q134
    try clear q139
    obtain ⟨kq, x49_25, rfl, HA, HJ25, HO_139002, BK130, BK138, BK140, HB⟩ := hcut
    cases kq with
    | zero => exact absurd HA.out (by simp [grid_Add.j1])
    | succ kj25 =>
     have H := HA.out
     clear HA
     simp only [grid_Add.j1] at H
     by_cases c42 : x49_25 = true
     ·
      subst c42
      have H1 : (some (0, 0, ([] : List Int), 30)) = some (r1, r2, r3, r4) := by rw [if_pos rfl] at H; exact H
      clear H
      have H := H1
      clear H1
      simp only [Option.some.injEq, Prod.mk.injEq] at H
      obtain ⟨rfl, rfl, rfl, rfl⟩ := H
      have hnb43 := NB130_138.out
      have hnc43 := NB138_130.out
      have hnb44 := NB130_140.out
      have hnc44 := NB140_130.out
      have hcz45_0 := bc_0 BK130
      have hcz45_1 := bc_1 BK130
      have hcz45_2 := bc_2 BK130
      have hfz45_0 := blk_frozen BK130.out 0
      have hfz45_1 := blk_frozen BK130.out 1
      have hfz45_2 := blk_frozen BK130.out 2
      go_wp2
      refine bodyPost_ret (results_ct rfl _ _ gb130 24 #[.int .i64 0, .int .i64 0, .slice none 0 0] (0, 0) _ rfl (by (with_reducible repeat (first | refine k_n ?_ _ | refine k_d ?_ | refine k_a ?_ _)); refine blk_put (cs := #[.int .i64 0, .int .i64 0, .slice none 0 0]) ?_ 2 _ rfl; (with_reducible repeat (first | refine k_n ?_ _ | refine k_d ?_ | refine k_a ?_ _)); refine blk_put (cs := #[.int .i64 0, .int .i64 x131001_1, .slice none 0 0]) ?_ 1 _ rfl; (with_reducible repeat (first | refine k_n ?_ _ | refine k_d ?_ | refine k_a ?_ _)); refine blk_put (cs := #[.int .i64 x131000_1, .int .i64 x131001_1, .slice none 0 0]) ?_ 0 _ rfl; (with_reducible repeat (first | refine k_n ?_ _ | refine k_d ?_ | refine k_a ?_ _)); exact BK130.out) Try.underlying24 rfl (by kernel_rfl)) rfl ?_
      exact ⟨_, by first | rfl | (simp [errW_none, errW_some] <;> rfl) | (simp [*, errW_none, errW_some] <;> rfl), by first | exact Kd.R_nil _ _ _ _ _ | exact Kd.N_nil _ _ _ _ _ | exact Kd.V_nil _ _ _ _ _ | exact Kd.Q_nil _ _ _ _ _ | exact Kd.S_nil _ _ _ _ _, by repeat (first | (with_reducible first | exact HB.out | apply b_a | apply b_n | apply b_d | refine b_s ?_ GE130.out | refine b_s ?_ GE138.out | refine b_s ?_ GE140.out) | exact HB.out)⟩
     replace c42 := Bool.eq_false_iff.mpr c42
     subst c42
     have H1 : (grid_Add.l1 kj25 l0 (l0.length : Int) x34_1 ((rd_T24 l0 x34_1).f2) (((rd_T24 l0 x34_1).f2).length : Int) 0 ((rd_T24 l0 0).f0) ((rd_T24 l0 0).f1) x139002_1) = some (r1, r2, r3, r4) := by rw [if_neg (show ¬ (false = true) by decide)] at H; exact H
     clear H
     have H := H1
     clear H1
     have H' := Aside0.mk H
     clear H
     have hnb46 := NB140_130.out
     have hnc46 := NB130_140.out
     have hnb47 := NB140_138.out
     have hnc47 := NB138_140.out
     have hcz48_0 := bc_0 BK140
     have hcz48_1 := bc_1 BK140
     have hcz48_2 := bc_2 BK140
     have hfz48_0 := blk_frozen BK140.out 0
     have hfz48_1 := blk_frozen BK140.out 1
     have hfz48_2 := blk_frozen BK140.out 2
     go_wp2
     go_loopg [54] kj25 (fun kq v54 w' => ∃ (x54_3 : Int) (x139002_3 : List Int) (u139002 : Value), v54 = .int .i64 x54_3 ∧ Aside0 (grid_Add.l1 kq l0 (l0.length : Int) x34_1 ((rd_T24 l0 x34_1).f2) (((rd_T24 l0 x34_1).f2).length : Int) x54_3 ((rd_T24 l0 0).f0) ((rd_T24 l0 0).f1) x139002_3 = some (r1, r2, r3, r4)) ∧ Aside0 (kq ≤ kj25) ∧ Aside0 (Kd.R (Kd.int .i32) 21 w' w.heap.size (fun _ => True) u139002 x139002_3) ∧ Aside0 (w'.heap[gb130]? = some (.cells #[.int .i64 x131000_1, .int .i64 x131001_1, (.slice none 0 0)] 24 (0, 0))) ∧ Aside0 (w'.heap[gb138]? = some (.cells #[.int .i64 ((rd_T24 l0 0).f0), .int .i64 ((rd_T24 l0 0).f1), u139002] 24 (0, 0))) ∧ Aside0 (w'.heap[gb140]? = some (.cells #[.int .i64 ((rd_T24 l0 x34_1).f0), .int .i64 ((rd_T24 l0 x34_1).f1), (.slice A139_2 ((rd_T24 l0 x34_1).f2).length c139_2)] 24 (0, 0))) ∧ Aside0 (Below w.heap.size w w'))
     case atStart => exact ⟨(0), (x139002_1), (u139002), (by first | rfl | (simp; done) | (simp [*]; done)), H', ⟨Nat.le_refl _⟩, ⟨tR_ HO_139002⟩, ⟨tk_ BK130⟩, ⟨tk_ BK138⟩, ⟨tk_ BK140⟩, ⟨by repeat (first | (with_reducible first | exact HB.out | apply b_a | apply b_n | apply b_d | refine b_s ?_ GE130.out | refine b_s ?_ GE138.out | refine b_s ?_ GE140.out) | exact HB.out)⟩⟩
     case round =>
      clear H'
      try clear c1
      try clear p1
      try clear q1
      try clear hx1
      try clear qi1
      try clear c2
      try clear p2
      try clear c3
      try clear c4
      try clear c4b0
      try clear c4b1
      try clear c4b2
      try clear c8
      try clear c8b0
      try clear c8b1
      try clear c9
      try clear c9b0
      try clear c9b1
      try clear c10
      try clear c10b0
      try clear c10b1
      try clear c13
      try clear p13
      try clear q13
      try clear hx13
      try clear qi13
      try clear c21
      try clear c23
      try clear c23b0
      try clear c24
      try clear c24b0
      try clear c25
      try clear c25b0
      try clear c28
      try clear c29
      try clear c31
      try clear c31b0
      try clear c31b1
      try clear c32
      try clear c33
      try clear c35
      try clear c36
      try clear c37
      try clear c38
      try clear c40
      try clear c42
      try clear c43
      try clear c44
      try clear c46
      try clear c47
      try clear hcz30_0
      try clear hcz30_1
      try clear hcz30_2
      try clear hcz34_0
      try clear hcz34_1
      try clear hcz34_2
      try clear hcz36_0
      try clear hcz36_1
      try clear hcz36_2
      try clear hcz39_0
      try clear hcz39_1
      try clear hcz39_2
      try clear hcz41_0
      try clear hcz41_1
      try clear hcz41_2
      try clear hcz45_0
      try clear hcz45_1
      try clear hcz45_2
      try clear hcz48_0
      try clear hcz48_1
      try clear hcz48_2
      try clear hcz7_0
      try clear hcz7_1
      try clear hcz7_2
      try clear hfz30_0
      try clear hfz30_1
      try clear hfz30_2
      try clear hfz34_0
      try clear hfz34_1
      try clear hfz34_2
      try clear hfz36_0
      try clear hfz36_1
      try clear hfz36_2
      try clear hfz39_0
      try clear hfz39_1
      try clear hfz39_2
      try clear hfz41_0
      try clear hfz41_1
      try clear hfz41_2
      try clear hfz45_0
      try clear hfz45_1
      try clear hfz45_2
      try clear hfz48_0
      try clear hfz48_1
      try clear hfz48_2
      try clear hfz7_0
      try clear hfz7_1
      try clear hfz7_2
      try clear hx132_0
      try clear hx132_1
      try clear hx132_2
      try clear hx133_0
      try clear hx133_1
      try clear hx133_2
      try clear hx134_0
      try clear hx134_1
      try clear hx134_2
      try clear hx139_0
      try clear hx139_1
      try clear hx139_2
      try clear p1
      try clear p13
      try clear p132
      try clear p133
      try clear p134
      try clear p139
      try clear p2
      try clear q1
      try clear q13
      try clear q132
      try clear q133
      try clear q134
      try clear q139
      obtain ⟨x54_3, x139002_3, u139002, rfl, HA, HK3, HO_139002, BK130, BK138, BK140, HB⟩ := hrel
      cases gk with
      | zero => exact absurd HA.out (by simp [grid_Add.l1])
      | succ k3 =>
       have H := HA.out
       clear HA
       simp only [grid_Add.l1] at H
       by_cases c49 : x54_3 < (((rd_T24 l0 x34_1).f2).length : Int)
       rotate_left
       ·
        rw [if_neg c49] at H
        have c49b0 : decide (x54_3 < (((rd_T24 l0 x34_1).f2).length : Int)) = false := decide_eq_false c49
        clear c49
        have H' := Aside0.mk H
        clear H
        go_wp2
        go_roundg k3
        case measure => have := HK1.out; have := HJ25.out; have := HK3.out; omega
        case rel => exact ⟨(wrap64 (x34_1 + 1)), (x131000_1), (x131001_1), (x139002_3), (u139002), (by first | rfl | (simp; done) | (simp [*]; done)), H', ⟨by have := HK1.out; have := HJ25.out; have := HK3.out; omega⟩, ⟨tR_ HO_139002⟩, ⟨tk_ BK130⟩, ⟨tk_ BK138⟩, ⟨by repeat (first | (with_reducible first | exact HB.out | apply b_a | apply b_n | apply b_d | refine b_s ?_ GE130.out | refine b_s ?_ GE138.out | refine b_s ?_ GE140.out) | exact HB.out)⟩⟩
       rw [if_pos c49] at H
       have c49b0 : decide (x54_3 < (((rd_T24 l0 x34_1).f2).length : Int)) = true := decide_eq_true c49
       clear c49
       by_cases c50 : 0 ≤ x54_3
       rotate_left
       ·
        rw [if_neg c50] at H
        exact absurd H (by simp)
       rw [if_pos c50] at H
       have c50b0 : decide (0 ≤ x54_3) = true := decide_eq_true c50
       clear c50
       by_cases c51 : x54_3 < (((rd_T24 l0 x34_1).f2).length : Int)
       rotate_left
       ·
        rw [if_neg c51] at H
        exact absurd H (by simp)
       rw [if_pos c51] at H
       have c51b0 : decide (x54_3 < (((rd_T24 l0 x34_1).f2).length : Int)) = true := decide_eq_true c51
       clear c51
       by_cases c52 : x54_3 < (x139002_3.length : Int)
       rotate_left
       ·
        rw [if_neg c52] at H
        exact absurd H (by simp)
       rw [if_pos c52] at H
       have c52b0 : decide (x54_3 < (x139002_3.length : Int)) = true := decide_eq_true c52
       clear c52
       obtain ⟨y143, hy143⟩ : ∃ y_ : List Int, y_ = (x139002_3.set (x54_3 : Int).toNat (wrap32 ((rd x139002_3 x54_3) + (rd ((rd_T24 l0 x34_1).f2) x54_3)))) := ⟨_, rfl⟩
       replace H : (grid_Add.l1 k3 l0 (l0.length : Int) x34_1 ((rd_T24 l0 x34_1).f2) (((rd_T24 l0 x34_1).f2).length : Int) (wrap64 (x54_3 + 1)) ((rd_T24 l0 0).f0) ((rd_T24 l0 0).f1) y143) = some (r1, r2, r3, r4) := by first | (rw [hy143]; with_reducible exact H) | (have H2_ := (Option.bind_some _ _).symm.trans H; rw [hy143]; with_reducible exact H2_) | (have H2_ := (Option.bind_some _ _).symm.trans H; with_reducible exact H2_) | with_reducible exact H | (rw [hy143]; exact H) | exact H
       have Ny143 := Aside0.mk hy143
       clear hy143
       have H' := Aside0.mk H
       clear H
       have p141 : 0 ≤ (x54_3 : Int) := of_decide_eq_true (by first | (with_reducible assumption) | assumption)
       have q141 : x54_3 < (((rd_T24 l0 x34_1).f2).length : Int) := of_decide_eq_true (by first | (with_reducible assumption) | assumption)
       obtain ⟨ad141, e141, hx141_0⟩ := Kd.at_int HR139_2.out x54_3 p141 q141
       cases e141
       replace hx141_0 := cb_ HB hx141_0
       replace p141 := eq_true p141
       replace q141 := eq_true q141
       have hnb54 := NB138_130.out
       have hnc54 := NB130_138.out
       have hnb55 := NB138_140.out
       have hnc55 := NB140_138.out
       have hcz56_0 := bc_0 BK138
       have hcz56_1 := bc_1 BK138
       have hcz56_2 := bc_2 BK138
       have hfz56_0 := blk_frozen BK138.out 0
       have hfz56_1 := blk_frozen BK138.out 1
       have hfz56_2 := blk_frozen BK138.out 2
       obtain ⟨Ao57, co57, eo57⟩ := Kd.R_slice HO_139002.out
       subst eo57
       have p142 : 0 ≤ (x54_3 : Int) := of_decide_eq_true (by first | (with_reducible assumption) | assumption)
       have q142 : x54_3 < (x139002_3.length : Int) := of_decide_eq_true (by first | (with_reducible assumption) | assumption)
       obtain ⟨ad142, e142, hx142_0⟩ := Kd.at_int (Kd.R_reads' HO_139002.out).2.2 x54_3 p142 q142
       cases e142
       replace p142 := eq_true p142
       replace q142 := eq_true q142
       have p53 : 0 ≤ (x54_3 : Int) := of_decide_eq_true (by first | (with_reducible assumption) | assumption)
       have q53 : (x54_3 : Int) < ((x139002_3.length : Int) : Int) := of_decide_eq_true (by first | (with_reducible assumption) | assumption)
       obtain ⟨go53, co53, eo53, gb53, gl53, cl53, HG53⟩ := Kd.R_form HO_139002.out (by omega)
       (first | cases eo53 | (injection eo53 with ea_ en_ ec_; (first | subst ea_ | (injection ea_ with ea_; subst ea_)); subst ec_; clear en_))
       have GB53 := Aside0.mk gb53
       have GG53 := Aside0.mk HG53
       clear gb53 gl53 HG53
       (first | simp only [add_plain] at hx142_0 | skip)
       obtain ⟨hx53_0, hf53_0⟩ := Kd.R_celln 0 HO_139002.out (x54_3 : Int) p53 q53
       replace p53 := eq_true p53
       replace q53 := eq_true q53
       have HP58 := Kd.R_putg HO_139002.out (x54_3 : Int) (wrap32 ((rd x139002_3 x54_3) + (rd ((rd_T24 l0 x34_1).f2) x54_3)))
       go_wp2_with (first | ((with_reducible refine gate_store (t := 21) (p := 66) rfl ?_); refine store_event (t := 21) (p := 66) (v := ?vo_w59) (w1 := (wr.setCell ⟨go53, (x54_3 : Int).toNat, none⟩ (.int .i32 (wrap32 ((rd x139002_3 x54_3) + (rd ((rd_T24 l0 x34_1).f2) x54_3)))))) ?hg ?ho ?hn ?hr ?_; (case ho => rfl); (case hg => rfl); (case hn => rfl); (case hr => first | (go_simp; done) | (go_simp; rfl)); intro w59 hw; have hg : wr.grownBy w59 (some go53) := (by rw [hw]; exact HP58.2); have hp_ : Kd.R (Kd.int .i32) 21 w59 w.heap.size (fun _ => True) (.slice (some ⟨go53, 0, none⟩) x139002_3.length co57) y143 := (by rw [hw, Ny143.out]; exact HP58.1); clear HP58; replace BK130 := Aside0.mk (blk_grown (tk_ BK130) hg (Kd.R_ne HO_139002.out BK130.out (by decide))); replace BK138 := Aside0.mk (blk_grown (tk_ BK138) hg (Kd.R_ne HO_139002.out BK138.out (by decide))); replace BK140 := Aside0.mk (blk_grown (tk_ BK140) hg (Kd.R_ne HO_139002.out BK140.out (by decide))); replace HO_139002 := Aside0.mk (hp_); replace HB := Aside0.mk ((by rw [hw]; exact b_s (HB.out) GB53.out : Below w.heap.size w w59)); clear hg hw hp_))
       go_roundg k3
       case measure => have := HK1.out; have := HJ25.out; have := HK3.out; omega
       case rel => exact ⟨(wrap64 (x54_3 + 1)), (y143), (.slice (some ⟨go53, 0, none⟩) x139002_3.length co57), (by first | rfl | (simp; done) | (simp [*]; done)), H', ⟨by have := HK1.out; have := HJ25.out; have := HK3.out; omega⟩, ⟨tR_ HO_139002⟩, ⟨tk_ BK130⟩, ⟨tk_ BK138⟩, ⟨tk_ BK140⟩, ⟨by repeat (first | (with_reducible first | exact HB.out | apply b_a | apply b_n | apply b_d | refine b_s ?_ GE130.out | refine b_s ?_ GE138.out | refine b_s ?_ GE140.out) | exact HB.out)⟩⟩
end Go.Proofs.Ytggcgacndknlaaa.QGridParts
