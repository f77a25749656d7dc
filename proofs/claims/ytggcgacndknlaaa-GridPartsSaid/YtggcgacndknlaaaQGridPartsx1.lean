-- Written by a program of this session (a turned copy of the print) out of the translation. Lean checks it.
import Derived.Test.YtggcgacndknlaaaQGridPartsx0
namespace Go.Proofs.Ytggcgacndknlaaa.QGridParts
open Go.RowKit Go.Proofs.YtggcgacndknlaaaW.PrintWords Go.Proofs.YtggcgacndknlaaaW.PrintLast Go.Proofs.YtggcgacndknlaaaW.PrintMore
attribute [local go_sem] max2_int min2_int max_two min_two max_three min_three max_four min_four   -- for this text's walks alone
open Go.Proofs.YtggcgacndknlaaaW.PrintWords renaming below_alloc → b_a, pw_below_drewN → b_n, below_drew1 → b_d, below_set → b_s, blk_drewN → k_n, blk_drew → k_d, blk_alloc → k_a
open List renaming setIfInBounds_toArray → l_1, set_cons_zero → l_2, set_cons_succ → l_3, map_toArray → l_4, map_cons → l_5, map_nil → l_6, length_drop → l_7, length_take → l_8
set_option linter.unusedVariables false
set_option linter.unusedSimpArgs false

/-! ### grid_side: function 41 -/
def grid_side.f (a0 : Int) : Option (Bool) := if a0 ≥ 0 then (some (decide (a0 ≤ 4096))) else (some false)
set_option maxHeartbeats 60000000 in
set_option maxRecDepth 100000 in
theorem grid_side.calls (a0 : Int) (r : Bool) (w : World) (h : grid_side.f a0 = some r) :
  Calls Try.prog 41 #[.int .i64 a0] w fun e w' => e = .returned (.bool r) ∧ Drawn0 w w' := by
 have H : (if a0 ≥ 0 then (some (decide (a0 ≤ 4096))) else (some false)) = some r := h
 clear h
 by_cases c2 : a0 ≥ 0
 ·
  rw [if_pos c2] at H
  have c2b0 : decide (0 ≤ a0) = true := decide_eq_true c2
  clear c2
  obtain rfl := Option.some.inj H
  go_enter Try.func41, Try.ntmps41
  go_wp2
  go_ret
  exact ⟨by first | rfl | (simp; done) | (simp [*]; done), by repeat (first | exact Drawn0.refl _ | apply Drawn0.step)⟩
 rw [if_neg c2] at H
 have c2b0 : decide (0 ≤ a0) = false := decide_eq_false c2
 clear c2
 obtain rfl := Option.some.inj H
 go_enter Try.func41, Try.ntmps41
 go_wp2
 go_ret
 exact ⟨by first | rfl | (simp; done) | (simp [*]; done), by repeat (first | exact Drawn0.refl _ | apply Drawn0.step)⟩

/-! ### grid_New: function 20 -/
def grid_New.f (a0 : Int) (a1 : Int) : Option (Int × Int × List Int × Int) := (grid_side.f a0).bind fun t102 => (if t102 = true then ((grid_side.f a1).bind fun t103 => (if t103 = true then (if (wrap64 (a0 * a1)) > 1048576 then (some (0, 0, ([] : List Int), 30)) else (if 0 ≤ (wrap64 (a0 * a1)) then (if (wrap64 (a0 * a1) : Int).toNat ≤ 70368744177664 then (some (a0, a1, (List.replicate (wrap64 (a0 * a1) : Int).toNat 0), 0)) else (none)) else (none))) else (some (0, 0, ([] : List Int), 30)))) else (some (0, 0, ([] : List Int), 30)))
set_option maxHeartbeats 60000000 in
set_option maxRecDepth 100000 in
theorem grid_New.calls (a0 : Int) (a1 : Int) (r1 : Int) (r2 : Int) (r3 : List Int) (r4 : Int) (w : World) (h : grid_New.f a0 a1 = some (r1, r2, r3, r4)) :
  Calls Try.prog 20 #[.int .i64 a0, .int .i64 a1] w fun e w' => ∃ v2_ : Value, e = .returned (.tuple #[.agg #[.int .i64 r1, .int .i64 r2, v2_], .int .i64 r4]) ∧ Kd.R (Kd.int .i32) 21 w' w.heap.size (fun _ => True) v2_ r3 ∧ Below w.heap.size w w' := by
 have hu24 := Try.underlying24
 have HB := Aside0.mk (Below.refl w.heap.size w)
 have H : ((grid_side.f a0).bind fun t102 => (if t102 = true then ((grid_side.f a1).bind fun t103 => (if t103 = true then (if (wrap64 (a0 * a1)) > 1048576 then (some (0, 0, ([] : List Int), 30)) else (if 0 ≤ (wrap64 (a0 * a1)) then (if (wrap64 (a0 * a1) : Int).toNat ≤ 70368744177664 then (some (a0, a1, (List.replicate (wrap64 (a0 * a1) : Int).toNat 0), 0)) else (none)) else (none))) else (some (0, 0, ([] : List Int), 30)))) else (some (0, 0, ([] : List Int), 30)))) = some (r1, r2, r3, r4) := h
 clear h
 replace H := Option.bind_eq_some_iff.mp H
 obtain ⟨t102, A30, H⟩ := H
 replace H : (if t102 = true then ((grid_side.f a1).bind fun t103 => (if t103 = true then (if (wrap64 (a0 * a1)) > 1048576 then (some (0, 0, ([] : List Int), 30)) else (if 0 ≤ (wrap64 (a0 * a1)) then (if (wrap64 (a0 * a1) : Int).toNat ≤ 70368744177664 then (some (a0, a1, (List.replicate (wrap64 (a0 * a1) : Int).toNat 0), 0)) else (none)) else (none))) else (some (0, 0, ([] : List Int), 30)))) else (some (0, 0, ([] : List Int), 30))) = some (r1, r2, r3, r4) := H
 have A3 := Aside0.mk A30
 clear A30
 by_cases c4 : t102 = true
 rotate_left
 ·
  replace c4 := Bool.eq_false_iff.mpr c4
  subst c4
  have H1 : (some (0, 0, ([] : List Int), 30)) = some (r1, r2, r3, r4) := by rw [if_neg (show ¬ (false = true) by decide)] at H; exact H
  clear H
  have H := H1
  clear H1
  simp only [Option.some.injEq, Prod.mk.injEq] at H
  obtain ⟨rfl, rfl, rfl, rfl⟩ := H
  go_enter Try.func20, Try.ntmps20
  go_wp2_with (first | ((with_reducible refine gate_dst (N := 4) rfl ?_); refine box_event ?hg (N := 4) ?hd (cs := #[.int .i64 0, .int .i64 0, .slice none 0 0]) (t := 24) ?hr ?_; (case hd => rfl); (case hg => rfl); (case hr => first | (go_simp; done) | (go_simp; rfl)); intro gb101 hg w20 hbox hb; have BK101 := Aside0.mk (hbox); have GW101 := Aside0.mk ((by rw [hg]; exact (below_size (bw_ HB)) : w.heap.size ≤ gb101)); have GE101 := Aside0.mk ((by rw [hg]; exact (below_size (bw_ HB)) : w.heap.size ≤ gb101)); replace HB := Aside0.mk (below_step (bw_ HB) hb); clear hb hbox hg) | ((with_reducible refine gate_callee (f := 41) rfl ?_); refine goesL_ (some 7) rfl rfl Try.func41 (by kernel_rfl) rfl #[.int .i64 a0] rfl (by (try simp only [l_4, l_5, l_6]); first | done | rfl | (simp only [l_7, l_8]; rfl)) ?_; (with_reducible refine (grid_side.calls a0 false _ A3.out).mono ?_); rintro e w' ⟨rfl, ⟨nd, rfl⟩⟩; refine ⟨_, rfl, ?_⟩; (try (rw [drewN_self w20]; generalize hq_ : World.drewN w20 _ = w20; have n0_ : Aside0 (w20.heap[gb101]? = some (.cells #[.int .i64 0, .int .i64 0, .slice none 0 0] 24 (0, 0))) := ⟨by rw [← hq_]; exact (tk_ BK101)⟩; have n1_ : Aside0 (Below w.heap.size w w20) := ⟨by rw [← hq_]; exact (bw_ HB)⟩; clear BK101 HB hq_; have BK101 := n0_; have HB := n1_; clear n0_ n1_)); have hcz21_0 := bc_0 BK101; have hcz21_1 := bc_1 BK101; have hcz21_2 := bc_2 BK101; have hfz21_0 := blk_frozen BK101.out 0; have hfz21_1 := blk_frozen BK101.out 1; have hfz21_2 := blk_frozen BK101.out 2))
  refine bodyPost_ret (results_ct rfl _ _ gb101 24 #[.int .i64 0, .int .i64 0, .slice none 0 0] (0, 0) _ rfl (by (with_reducible repeat (first | refine k_n ?_ _ | refine k_d ?_ | refine k_a ?_ _)); refine blk_put (cs := #[.int .i64 0, .int .i64 0, .slice none 0 0]) ?_ 2 _ rfl; (with_reducible repeat (first | refine k_n ?_ _ | refine k_d ?_ | refine k_a ?_ _)); refine blk_put (cs := #[.int .i64 0, .int .i64 0, .slice none 0 0]) ?_ 1 _ rfl; (with_reducible repeat (first | refine k_n ?_ _ | refine k_d ?_ | refine k_a ?_ _)); refine blk_put (cs := #[.int .i64 0, .int .i64 0, .slice none 0 0]) ?_ 0 _ rfl; (with_reducible repeat (first | refine k_n ?_ _ | refine k_d ?_ | refine k_a ?_ _)); exact BK101.out) Try.underlying24 rfl (by kernel_rfl)) rfl ?_
  exact ⟨_, by first | rfl | (simp [errW_none, errW_some] <;> rfl) | (simp [*, errW_none, errW_some] <;> rfl), by first | exact Kd.R_nil _ _ _ _ _ | exact Kd.N_nil _ _ _ _ _ | exact Kd.V_nil _ _ _ _ _ | exact Kd.Q_nil _ _ _ _ _ | exact Kd.S_nil _ _ _ _ _, by repeat (first | (with_reducible first | exact HB.out | apply b_a | apply b_n | apply b_d | refine b_s ?_ GE101.out) | exact HB.out)⟩

 subst c4
 have H1 : ((grid_side.f a1).bind fun t103 => (if t103 = true then (if (wrap64 (a0 * a1)) > 1048576 then (some (0, 0, ([] : List Int), 30)) else (if 0 ≤ (wrap64 (a0 * a1)) then (if (wrap64 (a0 * a1) : Int).toNat ≤ 70368744177664 then (some (a0, a1, (List.replicate (wrap64 (a0 * a1) : Int).toNat 0), 0)) else (none)) else (none))) else (some (0, 0, ([] : List Int), 30)))) = some (r1, r2, r3, r4) := by rw [if_pos rfl] at H; exact H
 clear H
 have H := H1
 clear H1
 replace H := Option.bind_eq_some_iff.mp H
 obtain ⟨t103, A50, H⟩ := H
 replace H : (if t103 = true then (if (wrap64 (a0 * a1)) > 1048576 then (some (0, 0, ([] : List Int), 30)) else (if 0 ≤ (wrap64 (a0 * a1)) then (if (wrap64 (a0 * a1) : Int).toNat ≤ 70368744177664 then (some (a0, a1, (List.replicate (wrap64 (a0 * a1) : Int).toNat 0), 0)) else (none)) else (none))) else (some (0, 0, ([] : List Int), 30))) = some (r1, r2, r3, r4) := H
 have A5 := Aside0.mk A50
 clear A50
 by_cases c6 : t103 = true
 rotate_left
 ·
  replace c6 := Bool.eq_false_iff.mpr c6
  subst c6
  have H1 : (some (0, 0, ([] : List Int), 30)) = some (r1, r2, r3, r4) := by rw [if_neg (show ¬ (false = true) by decide)] at H; exact H
  clear H
  have H := H1
  clear H1
  simp only [Option.some.injEq, Prod.mk.injEq] at H
  obtain ⟨rfl, rfl, rfl, rfl⟩ := H
  go_enter Try.func20, Try.ntmps20
  go_wp2_with (first | ((with_reducible refine gate_dst (N := 4) rfl ?_); refine box_event ?hg (N := 4) ?hd (cs := #[.int .i64 0, .int .i64 0, .slice none 0 0]) (t := 24) ?hr ?_; (case hd => rfl); (case hg => rfl); (case hr => first | (go_simp; done) | (go_simp; rfl)); intro gb101 hg w18 hbox hb; have BK101 := Aside0.mk (hbox); have GW101 := Aside0.mk ((by rw [hg]; exact (below_size (bw_ HB)) : w.heap.size ≤ gb101)); have GE101 := Aside0.mk ((by rw [hg]; exact (below_size (bw_ HB)) : w.heap.size ≤ gb101)); replace HB := Aside0.mk (below_step (bw_ HB) hb); clear hb hbox hg) | ((with_reducible refine gate_callee (f := 41) rfl ?_); refine goesL_ (some 7) rfl rfl Try.func41 (by kernel_rfl) rfl #[.int .i64 a0] rfl (by (try simp only [l_4, l_5, l_6]); first | done | rfl | (simp only [l_7, l_8]; rfl)) ?_; (with_reducible refine (grid_side.calls a0 true _ A3.out).mono ?_); rintro e w' ⟨rfl, ⟨nd, rfl⟩⟩; refine ⟨_, rfl, ?_⟩; (try (rw [drewN_self w18]; generalize hq_ : World.drewN w18 _ = w18; have n0_ : Aside0 (w18.heap[gb101]? = some (.cells #[.int .i64 0, .int .i64 0, .slice none 0 0] 24 (0, 0))) := ⟨by rw [← hq_]; exact (tk_ BK101)⟩; have n1_ : Aside0 (Below w.heap.size w w18) := ⟨by rw [← hq_]; exact (bw_ HB)⟩; clear BK101 HB hq_; have BK101 := n0_; have HB := n1_; clear n0_ n1_))) | (go_at_call 41; (with_reducible refine (grid_side.calls a1 false _ A5.out).mono ?_); rintro e w' ⟨rfl, ⟨nd, rfl⟩⟩; (try (rw [drewN_self w18]; generalize hq_ : World.drewN w18 _ = w18; have n0_ : Aside0 (w18.heap[gb101]? = some (.cells #[.int .i64 0, .int .i64 0, .slice none 0 0] 24 (0, 0))) := ⟨by rw [← hq_]; exact (tk_ BK101)⟩; have n1_ : Aside0 (Below w.heap.size w w18) := ⟨by rw [← hq_]; exact (bw_ HB)⟩; clear BK101 HB hq_; have BK101 := n0_; have HB := n1_; clear n0_ n1_)); have hcz19_0 := bc_0 BK101; have hcz19_1 := bc_1 BK101; have hcz19_2 := bc_2 BK101; have hfz19_0 := blk_frozen BK101.out 0; have hfz19_1 := blk_frozen BK101.out 1; have hfz19_2 := blk_frozen BK101.out 2))
  refine bodyPost_ret (results_ct rfl _ _ gb101 24 #[.int .i64 0, .int .i64 0, .slice none 0 0] (0, 0) _ rfl (by (with_reducible repeat (first | refine k_n ?_ _ | refine k_d ?_ | refine k_a ?_ _)); refine blk_put (cs := #[.int .i64 0, .int .i64 0, .slice none 0 0]) ?_ 2 _ rfl; (with_reducible repeat (first | refine k_n ?_ _ | refine k_d ?_ | refine k_a ?_ _)); refine blk_put (cs := #[.int .i64 0, .int .i64 0, .slice none 0 0]) ?_ 1 _ rfl; (with_reducible repeat (first | refine k_n ?_ _ | refine k_d ?_ | refine k_a ?_ _)); refine blk_put (cs := #[.int .i64 0, .int .i64 0, .slice none 0 0]) ?_ 0 _ rfl; (with_reducible repeat (first | refine k_n ?_ _ | refine k_d ?_ | refine k_a ?_ _)); exact BK101.out) Try.underlying24 rfl (by kernel_rfl)) rfl ?_
  exact ⟨_, by first | rfl | (simp [errW_none, errW_some] <;> rfl) | (simp [*, errW_none, errW_some] <;> rfl), by first | exact Kd.R_nil _ _ _ _ _ | exact Kd.N_nil _ _ _ _ _ | exact Kd.V_nil _ _ _ _ _ | exact Kd.Q_nil _ _ _ _ _ | exact Kd.S_nil _ _ _ _ _, by repeat (first | (with_reducible first | exact HB.out | apply b_a | apply b_n | apply b_d | refine b_s ?_ GE101.out) | exact HB.out)⟩
 subst c6
 have H1 : (if (wrap64 (a0 * a1)) > 1048576 then (some (0, 0, ([] : List Int), 30)) else (if 0 ≤ (wrap64 (a0 * a1)) then (if (wrap64 (a0 * a1) : Int).toNat ≤ 70368744177664 then (some (a0, a1, (List.replicate (wrap64 (a0 * a1) : Int).toNat 0), 0)) else (none)) else (none))) = some (r1, r2, r3, r4) := by rw [if_pos rfl] at H; exact H
 clear H
 have H := H1
 clear H1
 by_cases c7 : (wrap64 (a0 * a1)) > 1048576
 ·
  rw [if_pos c7] at H
  have c7b0 : decide (1048576 < (wrap64 (a0 * a1))) = true := decide_eq_true c7
  clear c7
  simp only [Option.some.injEq, Prod.mk.injEq] at H
  obtain ⟨rfl, rfl, rfl, rfl⟩ := H
  go_enter Try.func20, Try.ntmps20
  go_wp2_with (first | ((with_reducible refine gate_dst (N := 4) rfl ?_); refine box_event ?hg (N := 4) ?hd (cs := #[.int .i64 0, .int .i64 0, .slice none 0 0]) (t := 24) ?hr ?_; (case hd => rfl); (case hg => rfl); (case hr => first | (go_simp; done) | (go_simp; rfl)); intro gb101 hg w8 hbox hb; have BK101 := Aside0.mk (hbox); have GW101 := Aside0.mk ((by rw [hg]; exact (below_size (bw_ HB)) : w.heap.size ≤ gb101)); have GE101 := Aside0.mk ((by rw [hg]; exact (below_size (bw_ HB)) : w.heap.size ≤ gb101)); replace HB := Aside0.mk (below_step (bw_ HB) hb); clear hb hbox hg) | ((with_reducible refine gate_callee (f := 41) rfl ?_); refine goesL_ (some 7) rfl rfl Try.func41 (by kernel_rfl) rfl #[.int .i64 a0] rfl (by (try simp only [l_4, l_5, l_6]); first | done | rfl | (simp only [l_7, l_8]; rfl)) ?_; (with_reducible refine (grid_side.calls a0 true _ A3.out).mono ?_); rintro e w' ⟨rfl, ⟨nd, rfl⟩⟩; refine ⟨_, rfl, ?_⟩; (try (rw [drewN_self w8]; generalize hq_ : World.drewN w8 _ = w8; have n0_ : Aside0 (w8.heap[gb101]? = some (.cells #[.int .i64 0, .int .i64 0, .slice none 0 0] 24 (0, 0))) := ⟨by rw [← hq_]; exact (tk_ BK101)⟩; have n1_ : Aside0 (Below w.heap.size w w8) := ⟨by rw [← hq_]; exact (bw_ HB)⟩; clear BK101 HB hq_; have BK101 := n0_; have HB := n1_; clear n0_ n1_))) | (go_at_call 41; (with_reducible refine (grid_side.calls a1 true _ A5.out).mono ?_); rintro e w' ⟨rfl, ⟨nd, rfl⟩⟩; (try (rw [drewN_self w8]; generalize hq_ : World.drewN w8 _ = w8; have n0_ : Aside0 (w8.heap[gb101]? = some (.cells #[.int .i64 0, .int .i64 0, .slice none 0 0] 24 (0, 0))) := ⟨by rw [← hq_]; exact (tk_ BK101)⟩; have n1_ : Aside0 (Below w.heap.size w w8) := ⟨by rw [← hq_]; exact (bw_ HB)⟩; clear BK101 HB hq_; have BK101 := n0_; have HB := n1_; clear n0_ n1_)); have hcz9_0 := bc_0 BK101; have hcz9_1 := bc_1 BK101; have hcz9_2 := bc_2 BK101; have hfz9_0 := blk_frozen BK101.out 0; have hfz9_1 := blk_frozen BK101.out 1; have hfz9_2 := blk_frozen BK101.out 2))
  refine bodyPost_ret (results_ct rfl _ _ gb101 24 #[.int .i64 0, .int .i64 0, .slice none 0 0] (0, 0) _ rfl (by (with_reducible repeat (first | refine k_n ?_ _ | refine k_d ?_ | refine k_a ?_ _)); refine blk_put (cs := #[.int .i64 0, .int .i64 0, .slice none 0 0]) ?_ 2 _ rfl; (with_reducible repeat (first | refine k_n ?_ _ | refine k_d ?_ | refine k_a ?_ _)); refine blk_put (cs := #[.int .i64 0, .int .i64 0, .slice none 0 0]) ?_ 1 _ rfl; (with_reducible repeat (first | refine k_n ?_ _ | refine k_d ?_ | refine k_a ?_ _)); refine blk_put (cs := #[.int .i64 0, .int .i64 0, .slice none 0 0]) ?_ 0 _ rfl; (with_reducible repeat (first | refine k_n ?_ _ | refine k_d ?_ | refine k_a ?_ _)); exact BK101.out) Try.underlying24 rfl (by kernel_rfl)) rfl ?_
  exact ⟨_, by first | rfl | (simp [errW_none, errW_some] <;> rfl) | (simp [*, errW_none, errW_some] <;> rfl), by first | exact Kd.R_nil _ _ _ _ _ | exact Kd.N_nil _ _ _ _ _ | exact Kd.V_nil _ _ _ _ _ | exact Kd.Q_nil _ _ _ _ _ | exact Kd.S_nil _ _ _ _ _, by repeat (first | (with_reducible first | exact HB.out | apply b_a | apply b_n | apply b_d | refine b_s ?_ GE101.out) | exact HB.out)⟩
 rw [if_neg c7] at H
 have c7b0 : decide (1048576 < (wrap64 (a0 * a1))) = false := decide_eq_false c7
 clear c7
 obtain ⟨ji10, hji10⟩ : ∃ j_ : Int, (wrap64 (a0 * a1)) = j_ := ⟨_, rfl⟩
 replace H : (if 0 ≤ (ji10) then (if (ji10 : Int).toNat ≤ 70368744177664 then (some (a0, a1, (List.replicate (ji10 : Int).toNat 0), 0)) else (none)) else (none)) = some (r1, r2, r3, r4) := by first | (rw [hji10] at H; exact H) | (simp only [hji10] at H ⊢; exact H)
 (try rw [hji10] at c7b0)
 (try rw [hji10] at A3)
 (try rw [hji10] at A5)
 have hji10w : (IntKind.i64.wrap (a0 * a1)) = ji10 := (i64_w _).trans hji10
 by_cases c11 : 0 ≤ (ji10)
 rotate_left
 ·
  rw [if_neg c11] at H
  exact absurd H (by simp)
 rw [if_pos c11] at H
 have c11b0 := eq_true c11
 have c11b1 : decide (0 ≤ (ji10)) = true := decide_eq_true c11
 clear c11
 by_cases c12 : (ji10 : Int).toNat ≤ 70368744177664
 rotate_left
 ·
  rw [if_neg c12] at H
  exact absurd H (by simp)
 rw [if_pos c12] at H
 have c12b0 := eq_true c12
 have c12b1 : decide ((ji10 : Int).toNat ≤ 70368744177664) = true := decide_eq_true c12
 clear c12
 obtain ⟨y104, hy104⟩ : ∃ y_ : List Int, y_ = (List.replicate (ji10 : Int).toNat 0) := ⟨_, rfl⟩
 replace H : (some (a0, a1, y104, 0)) = some (r1, r2, r3, r4) := by first | (rw [hy104]; with_reducible exact H) | (have H2_ := (Option.bind_some _ _).symm.trans H; rw [hy104]; with_reducible exact H2_) | (have H2_ := (Option.bind_some _ _).symm.trans H; with_reducible exact H2_) | with_reducible exact H | (rw [hy104]; exact H) | exact H
 have Ny104 := Aside0.mk hy104
 clear hy104
 simp only [Option.some.injEq, Prod.mk.injEq] at H
 obtain ⟨rfl, rfl, rfl, rfl⟩ := H
 go_enter Try.func20, Try.ntmps20
 go_wp2_with (first | ((with_reducible refine gate_dst (N := 4) rfl ?_); refine box_event ?hg (N := 4) ?hd (cs := #[.int .i64 0, .int .i64 0, .slice none 0 0]) (t := 24) ?hr ?_; (case hd => rfl); (case hg => rfl); (case hr => first | (go_simp; done) | (go_simp; rfl)); intro gb101 hg w13 hbox hb; have BK101 := Aside0.mk (hbox); have GW101 := Aside0.mk ((by rw [hg]; exact (below_size (bw_ HB)) : w.heap.size ≤ gb101)); have GE101 := Aside0.mk ((by rw [hg]; exact (below_size (bw_ HB)) : w.heap.size ≤ gb101)); replace HB := Aside0.mk (below_step (bw_ HB) hb); clear hb hbox hg) | ((with_reducible refine gate_callee (f := 41) rfl ?_); refine goesL_ (some 7) rfl rfl Try.func41 (by kernel_rfl) rfl #[.int .i64 a0] rfl (by (try simp only [l_4, l_5, l_6]); first | done | rfl | (simp only [l_7, l_8]; rfl)) ?_; (with_reducible refine (grid_side.calls a0 true _ A3.out).mono ?_); rintro e w' ⟨rfl, ⟨nd, rfl⟩⟩; refine ⟨_, rfl, ?_⟩; (try (rw [drewN_self w13]; generalize hq_ : World.drewN w13 _ = w13; have n0_ : Aside0 (w13.heap[gb101]? = some (.cells #[.int .i64 0, .int .i64 0, .slice none 0 0] 24 (0, 0))) := ⟨by rw [← hq_]; exact (tk_ BK101)⟩; have n1_ : Aside0 (Below w.heap.size w w13) := ⟨by rw [← hq_]; exact (bw_ HB)⟩; clear BK101 HB hq_; have BK101 := n0_; have HB := n1_; clear n0_ n1_))) | (go_at_call 41; (with_reducible refine (grid_side.calls a1 true _ A5.out).mono ?_); rintro e w' ⟨rfl, ⟨nd, rfl⟩⟩; (try (rw [drewN_self w13]; generalize hq_ : World.drewN w13 _ = w13; have n0_ : Aside0 (w13.heap[gb101]? = some (.cells #[.int .i64 0, .int .i64 0, .slice none 0 0] 24 (0, 0))) := ⟨by rw [← hq_]; exact (tk_ BK101)⟩; have n1_ : Aside0 (Below w.heap.size w w13) := ⟨by rw [← hq_]; exact (bw_ HB)⟩; clear BK101 HB hq_; have BK101 := n0_; have HB := n1_; clear n0_ n1_))) | ((with_reducible refine gate_dst (N := 26) rfl ?_); refine Kd.R_make (Kd.int .i32) _ 21 rfl (N := 26) rfl 22 _ _ rfl ji10 rfl rfl Try.underlying22 (.int .i32 0) 4 info21 rfl (by decide) (by omega) 0 (ok := fun _ => True) (okp := fun _ => True) rfl (fun _ hk => hk) trivial (of_decide_eq_true (by first | (with_reducible assumption) | assumption)) (Nat.le_trans (Nat.mul_le_mul_right _ (of_decide_eq_true (by first | (with_reducible assumption) | assumption) : ji10.toNat ≤ 70368744177664)) (by omega)) (Below.refl _ _) (Nat.le_refl _) ?_; intro v105 w14 ho15 hb hg_ hnew_; clear hg_ hnew_; (first | rw [← Ny104.out] at ho15 | (simp only [Int.reduceToNat] at ho15; rw [← Ny104.out] at ho15)); have HO106 := Aside0.mk (Kd.R_lower ho15 (below_size (bw_ HB))); replace BK101 := Aside0.mk (blk_below (tk_ BK101) hb); replace HB := Aside0.mk (below_step (bw_ HB) hb); clear hb ho15; obtain ⟨Ao16, co16, eo16⟩ := Kd.R_slice HO106.out; subst eo16; have hcz17_0 := bc_0 BK101; have hcz17_1 := bc_1 BK101; have hcz17_2 := bc_2 BK101; have hfz17_0 := blk_frozen BK101.out 0; have hfz17_1 := blk_frozen BK101.out 1; have hfz17_2 := blk_frozen BK101.out 2))
 refine bodyPost_ret (results_ct rfl _ _ gb101 24 #[.int .i64 a0, .int .i64 a1, .slice Ao16 y104.length co16] (0, 0) _ rfl (by (with_reducible repeat (first | refine k_n ?_ _ | refine k_d ?_ | refine k_a ?_ _)); refine blk_put (cs := #[.int .i64 a0, .int .i64 a1, .slice none 0 0]) ?_ 2 _ rfl; (with_reducible repeat (first | refine k_n ?_ _ | refine k_d ?_ | refine k_a ?_ _)); refine blk_put (cs := #[.int .i64 a0, .int .i64 0, .slice none 0 0]) ?_ 1 _ rfl; (with_reducible repeat (first | refine k_n ?_ _ | refine k_d ?_ | refine k_a ?_ _)); refine blk_put (cs := #[.int .i64 0, .int .i64 0, .slice none 0 0]) ?_ 0 _ rfl; (with_reducible repeat (first | refine k_n ?_ _ | refine k_d ?_ | refine k_a ?_ _)); exact BK101.out) Try.underlying24 rfl (by kernel_rfl)) rfl ?_
 exact ⟨_, by first | rfl | (simp [errW_none, errW_some] <;> rfl) | (simp only [← hji10]; first | rfl | (simp [errW_none, errW_some] <;> rfl)) | (simp [*, errW_none, errW_some] <;> rfl), by (with_reducible repeat (first | apply Kd.R_alloc | apply Kd.R_drewN | apply Kd.R_drew)); exact Kd.R_mono (Kd.R_far (p := ⟨gb101, 2, none⟩) (Kd.R_far (p := ⟨gb101, 1, none⟩) (Kd.R_far (p := ⟨gb101, 0, none⟩) (Kd.R_types HO106.out BK101.out (by decide)) (fun _ hk => hk.2) (.int .i64 a0)) (fun _ hk => hk.2) (.int .i64 a1)) (fun _ hk => hk.2) (.slice Ao16 y104.length co16)) (fun _ hk => trivial), by repeat (first | (with_reducible first | exact HB.out | apply b_a | apply b_n | apply b_d | refine b_s ?_ GE101.out) | exact HB.out)⟩
/-! ### grid_Right_1: function 40 -/
def grid_Right_1.f (a0_0 : Int) (a0_1 : Int) (l0_2 : List Int) : Option (Bool) := (grid_side.f a0_0).bind fun t108 => (if t108 = true then ((grid_side.f a0_1).bind fun t109 => (if t109 = true then (some ((l0_2.length : Int) != (wrap64 (a0_0 * a0_1)))) else (some true))) else (some true))
set_option maxHeartbeats 60000000 in
set_option maxRecDepth 100000 in
theorem grid_Right_1.calls (a0_0 : Int) (a0_1 : Int) (A0_2 : Option Addr) (c0_2 : Nat) (l0_2 : List Int) (r : Bool) (w : World) (hr0_2 : Kd.C (Kd.int .i32) w A0_2 l0_2.length l0_2) (hc0_2 : l0_2.length ≤ c0_2) (h : grid_Right_1.f a0_0 a0_1 l0_2 = some r) :
  Calls Try.prog 40 #[.agg #[.int .i64 a0_0, .int .i64 a0_1, .slice A0_2 l0_2.length c0_2]] w fun e w' => e = .returned (.bool r) ∧ Below w.heap.size w w' := by
 have hu24 := Try.underlying24
 have HR0_2 := Aside0.mk hr0_2
 have HC0_2 := Aside0.mk hc0_2
 clear hr0_2 hc0_2
 have HB := Aside0.mk (Below.refl w.heap.size w)
 have H : ((grid_side.f a0_0).bind fun t108 => (if t108 = true then ((grid_side.f a0_1).bind fun t109 => (if t109 = true then (some ((l0_2.length : Int) != (wrap64 (a0_0 * a0_1)))) else (some true))) else (some true))) = some r := h
 clear h
 replace H := Option.bind_eq_some_iff.mp H
 obtain ⟨t108, A20, H⟩ := H
 replace H : (if t108 = true then ((grid_side.f a0_1).bind fun t109 => (if t109 = true then (some ((l0_2.length : Int) != (wrap64 (a0_0 * a0_1)))) else (some true))) else (some true)) = some r := H
 have A2 := Aside0.mk A20
 clear A20
 by_cases c3 : t108 = true
 rotate_left
 ·
  replace c3 := Bool.eq_false_iff.mpr c3
  subst c3
  have H1 : (some true) = some r := by rw [if_neg (show ¬ (false = true) by decide)] at H; exact H
  clear H
  have H := H1
  clear H1
  obtain rfl := Option.some.inj H
  go_enter Try.func40, Try.ntmps40
  go_wp2_with (first | ((with_reducible refine gate_dst (N := 1) rfl ?_); (try (refine gate_guard (by rfl) ?_; dsimp only)); refine box_event ?hg (N := 1) ?hd (cs := #[.int .i64 a0_0, .int .i64 a0_1, .slice A0_2 l0_2.length c0_2]) (t := 24) ?hr ?_; (case hd => rfl); (case hg => rfl); (case hr => first | (go_simp; done) | (go_simp; rfl)); intro gb107 hg w10 hbox hb; have BK107 := Aside0.mk (hbox); have GW107 := Aside0.mk ((by rw [hg]; exact (below_size (bw_ HB)) : w.heap.size ≤ gb107)); have GE107 := Aside0.mk ((by rw [hg]; exact (below_size (bw_ HB)) : w.heap.size ≤ gb107)); replace HB := Aside0.mk (below_step (bw_ HB) hb); clear hb hbox hg; have hcz11_0 := bc_0 BK107; have hcz11_1 := bc_1 BK107; have hcz11_2 := bc_2 BK107; have hfz11_0 := blk_frozen BK107.out 0; have hfz11_1 := blk_frozen BK107.out 1; have hfz11_2 := blk_frozen BK107.out 2) | ((with_reducible refine gate_callee (f := 41) rfl ?_); refine goesL_ (some 5) rfl rfl Try.func41 (by kernel_rfl) rfl #[.int .i64 a0_0] rfl (by (try simp only [l_4, l_5, l_6]); first | done | rfl | (simp only [l_7, l_8]; rfl)) ?_; (with_reducible refine (grid_side.calls a0_0 false _ A2.out).mono ?_); rintro e w' ⟨rfl, ⟨nd, rfl⟩⟩; refine ⟨_, rfl, ?_⟩))
  go_ret
  exact ⟨by first | rfl | (simp [errW_none, errW_some] <;> rfl) | (simp [*, errW_none, errW_some] <;> rfl), by repeat (first | (with_reducible first | exact HB.out | apply b_a | apply b_n | apply b_d | refine b_s ?_ GE107.out) | exact HB.out)⟩

 subst c3
 have H1 : ((grid_side.f a0_1).bind fun t109 => (if t109 = true then (some ((l0_2.length : Int) != (wrap64 (a0_0 * a0_1)))) else (some true))) = some r := by rw [if_pos rfl] at H; exact H
 clear H
 have H := H1
 clear H1
 replace H := Option.bind_eq_some_iff.mp H
 obtain ⟨t109, A40, H⟩ := H
 replace H : (if t109 = true then (some ((l0_2.length : Int) != (wrap64 (a0_0 * a0_1)))) else (some true)) = some r := H
 have A4 := Aside0.mk A40
 clear A40
 by_cases c5 : t109 = true
 ·
  subst c5
  have H1 : (some ((l0_2.length : Int) != (wrap64 (a0_0 * a0_1)))) = some r := by rw [if_pos rfl] at H; exact H
  clear H
  have H := H1
  clear H1
  obtain rfl := Option.some.inj H
  go_enter Try.func40, Try.ntmps40
  go_wp2_with (first | ((with_reducible refine gate_dst (N := 1) rfl ?_); (try (refine gate_guard (by rfl) ?_; dsimp only)); refine box_event ?hg (N := 1) ?hd (cs := #[.int .i64 a0_0, .int .i64 a0_1, .slice A0_2 l0_2.length c0_2]) (t := 24) ?hr ?_; (case hd => rfl); (case hg => rfl); (case hr => first | (go_simp; done) | (go_simp; rfl)); intro gb107 hg w6 hbox hb; have BK107 := Aside0.mk (hbox); have GW107 := Aside0.mk ((by rw [hg]; exact (below_size (bw_ HB)) : w.heap.size ≤ gb107)); have GE107 := Aside0.mk ((by rw [hg]; exact (below_size (bw_ HB)) : w.heap.size ≤ gb107)); replace HB := Aside0.mk (below_step (bw_ HB) hb); clear hb hbox hg; have hcz7_0 := bc_0 BK107; have hcz7_1 := bc_1 BK107; have hcz7_2 := bc_2 BK107; have hfz7_0 := blk_frozen BK107.out 0; have hfz7_1 := blk_frozen BK107.out 1; have hfz7_2 := blk_frozen BK107.out 2) | ((with_reducible refine gate_callee (f := 41) rfl ?_); refine goesL_ (some 5) rfl rfl Try.func41 (by kernel_rfl) rfl #[.int .i64 a0_0] rfl (by (try simp only [l_4, l_5, l_6]); first | done | rfl | (simp only [l_7, l_8]; rfl)) ?_; (with_reducible refine (grid_side.calls a0_0 true _ A2.out).mono ?_); rintro e w' ⟨rfl, ⟨nd, rfl⟩⟩; refine ⟨_, rfl, ?_⟩) | (go_at_call 41; (with_reducible refine (grid_side.calls a0_1 true _ A4.out).mono ?_); rintro e w' ⟨rfl, ⟨nd, rfl⟩⟩))
  go_ret
  exact ⟨by first | rfl | (simp [errW_none, errW_some] <;> rfl) | (simp [*, errW_none, errW_some] <;> rfl), by repeat (first | (with_reducible first | exact HB.out | apply b_a | apply b_n | apply b_d | refine b_s ?_ GE107.out) | exact HB.out)⟩
 replace c5 := Bool.eq_false_iff.mpr c5
 subst c5
 have H1 : (some true) = some r := by rw [if_neg (show ¬ (false = true) by decide)] at H; exact H
 clear H
 have H := H1
 clear H1
 obtain rfl := Option.some.inj H
 go_enter Try.func40, Try.ntmps40
 go_wp2_with (first | ((with_reducible refine gate_dst (N := 1) rfl ?_); (try (refine gate_guard (by rfl) ?_; dsimp only)); refine box_event ?hg (N := 1) ?hd (cs := #[.int .i64 a0_0, .int .i64 a0_1, .slice A0_2 l0_2.length c0_2]) (t := 24) ?hr ?_; (case hd => rfl); (case hg => rfl); (case hr => first | (go_simp; done) | (go_simp; rfl)); intro gb107 hg w8 hbox hb; have BK107 := Aside0.mk (hbox); have GW107 := Aside0.mk ((by rw [hg]; exact (below_size (bw_ HB)) : w.heap.size ≤ gb107)); have GE107 := Aside0.mk ((by rw [hg]; exact (below_size (bw_ HB)) : w.heap.size ≤ gb107)); replace HB := Aside0.mk (below_step (bw_ HB) hb); clear hb hbox hg; have hcz9_0 := bc_0 BK107; have hcz9_1 := bc_1 BK107; have hcz9_2 := bc_2 BK107; have hfz9_0 := blk_frozen BK107.out 0; have hfz9_1 := blk_frozen BK107.out 1; have hfz9_2 := blk_frozen BK107.out 2) | ((with_reducible refine gate_callee (f := 41) rfl ?_); refine goesL_ (some 5) rfl rfl Try.func41 (by kernel_rfl) rfl #[.int .i64 a0_0] rfl (by (try simp only [l_4, l_5, l_6]); first | done | rfl | (simp only [l_7, l_8]; rfl)) ?_; (with_reducible refine (grid_side.calls a0_0 true _ A2.out).mono ?_); rintro e w' ⟨rfl, ⟨nd, rfl⟩⟩; refine ⟨_, rfl, ?_⟩) | (go_at_call 41; (with_reducible refine (grid_side.calls a0_1 false _ A4.out).mono ?_); rintro e w' ⟨rfl, ⟨nd, rfl⟩⟩))
 go_ret
 exact ⟨by first | rfl | (simp [errW_none, errW_some] <;> rfl) | (simp [*, errW_none, errW_some] <;> rfl), by repeat (first | (with_reducible first | exact HB.out | apply b_a | apply b_n | apply b_d | refine b_s ?_ GE107.out) | exact HB.out)⟩
/-! ### api_Grid_46_at_grid_Right_1: function 46 -/
def api_Grid_46_at_grid_Right_1.l0 : Nat → List (S24) → Int → Int → Option (Int)
 | 0, _, _, _ => none
 | k + 1, x0, x7, x8 => if x8 < x7 then (if 0 ≤ x8 then (if x8 < (x0.length : Int) then ((grid_Right_1.f ((rd_T24 x0 x8).f0) ((rd_T24 x0 x8).f1) ((rd_T24 x0 x8).f2)).bind fun t111 => (if t111 = true then (some x8) else (api_Grid_46_at_grid_Right_1.l0 k x0 x7 (wrap64 (x8 + 1))))) else (none)) else (none)) else (some (-1))
def api_Grid_46_at_grid_Right_1.f (k : Nat) (l0 : List (S24))  : Option (Int) := api_Grid_46_at_grid_Right_1.l0 k l0 (l0.length : Int) 0
theorem api_Grid_46_at_grid_Right_1.mono_l : ∀ k, (∀ y0 y1 y2, LeO (api_Grid_46_at_grid_Right_1.l0 k y0 y1 y2) (api_Grid_46_at_grid_Right_1.l0 (k + 1) y0 y1 y2))
 | 0 => fun _ _ _ r h => by simp [api_Grid_46_at_grid_Right_1.l0] at h
 | k + 1 => by
  have ih0 := api_Grid_46_at_grid_Right_1.mono_l k
  ·
   intro y0 y1 y2
   unfold api_Grid_46_at_grid_Right_1.l0
   repeat' first
   | (with_reducible exact ih0 _ _ _)
   | (with_reducible exact LeO.refl _)
   | (with_reducible exact LeO.none _)
   | (with_reducible refine LeO.ite ?_ ?_)
   | (with_reducible refine LeO.bind ?_ (fun _ => ?_))
   | exact ih0 _ _ _
   | exact LeO.none _
   | refine LeO.ite ?_ ?_
   | refine LeO.bind ?_ (fun _ => ?_)
theorem api_Grid_46_at_grid_Right_1.mono : ∀ a0 k, LeO (api_Grid_46_at_grid_Right_1.f k a0) (api_Grid_46_at_grid_Right_1.f (k + 1) a0) := by
 intro a0 k
 have ih0 := api_Grid_46_at_grid_Right_1.mono_l k
 unfold api_Grid_46_at_grid_Right_1.f
 repeat' first
   | (with_reducible exact ih0 _ _ _)
   | (with_reducible exact LeO.refl _)
   | (with_reducible exact LeO.none _)
   | (with_reducible refine LeO.ite ?_ ?_)
   | (with_reducible refine LeO.bind ?_ (fun _ => ?_))
   | exact ih0 _ _ _
   | exact LeO.none _
   | refine LeO.ite ?_ ?_
   | refine LeO.bind ?_ (fun _ => ?_)
set_option maxHeartbeats 60000000 in
set_option maxRecDepth 100000 in
theorem api_Grid_46_at_grid_Right_1.calls (k : Nat) (A0 : Option Addr) (c0 : Nat) (l0 : List (S24))  (r : Int) (w : World) (hr0 : Kd.C k24 w A0 l0.length l0) (hc0 : l0.length ≤ c0) (h : api_Grid_46_at_grid_Right_1.f k l0 = some r) :
  Calls Try.prog 46 #[.slice A0 l0.length c0, .func (.func 40) #[] #[]] w fun e w' => e = .returned (.int .i64 r) ∧ Below w.heap.size w w' := by
 have hu24 := Try.underlying24
 have HR0 := Aside0.mk hr0
 have HC0 := Aside0.mk hc0
 clear hr0 hc0
 have HB := Aside0.mk (Below.refl w.heap.size w)
 have H : (api_Grid_46_at_grid_Right_1.l0 k l0 (l0.length : Int) 0) = some r := h
 clear h
 have H' := Aside0.mk H
 clear H
 go_enter Try.func46, Try.ntmps46
 go_wp2
 go_loopg [8] k (fun kq v8 w' => ∃ (x8_1 : Int), v8 = .int .i64 x8_1 ∧ Aside0 (api_Grid_46_at_grid_Right_1.l0 kq l0 (l0.length : Int) x8_1 = some r) ∧ Aside0 (kq ≤ k) ∧ Aside0 (Below w.heap.size w w'))
 case atStart => exact ⟨(0), (by first | rfl | (simp; done) | (simp [*]; done)), H', ⟨Nat.le_refl _⟩, ⟨by repeat (first | (with_reducible first | exact HB.out | apply b_a | apply b_n | apply b_d) | exact HB.out)⟩⟩
 case round =>
  clear H'
  try clear p2
  obtain ⟨x8_1, rfl, HA, HK1, HB⟩ := hrel
  cases gk with
  | zero => exact absurd HA.out (by simp [api_Grid_46_at_grid_Right_1.l0])
  | succ k1 =>
   have H := HA.out
   clear HA
   simp only [api_Grid_46_at_grid_Right_1.l0] at H
   by_cases c3 : x8_1 < (l0.length : Int)
   rotate_left
   ·
    rw [if_neg c3] at H
    have c3b0 : decide (x8_1 < (l0.length : Int)) = false := decide_eq_false c3
    clear c3
    obtain rfl := Option.some.inj H
    go_wp2
    go_ret
    exact ⟨by first | rfl | (simp [errW_none, errW_some] <;> rfl) | (simp [*, errW_none, errW_some] <;> rfl), by repeat (first | (with_reducible first | exact HB.out | apply b_a | apply b_n | apply b_d) | exact HB.out)⟩

   rw [if_pos c3] at H
   have c3b0 : decide (x8_1 < (l0.length : Int)) = true := decide_eq_true c3
   clear c3
   by_cases c4 : 0 ≤ x8_1
   rotate_left
   ·
    rw [if_neg c4] at H
    exact absurd H (by simp)
   rw [if_pos c4] at H
   have c4b0 : decide (0 ≤ x8_1) = true := decide_eq_true c4
   clear c4
   by_cases c5 : x8_1 < (l0.length : Int)
   rotate_left
   ·
    rw [if_neg c5] at H
    exact absurd H (by simp)
   rw [if_pos c5] at H
   have c5b0 : decide (x8_1 < (l0.length : Int)) = true := decide_eq_true c5
   clear c5
   replace H := Option.bind_eq_some_iff.mp H
   obtain ⟨t111, A60, H⟩ := H
   replace H : (if t111 = true then (some x8_1) else (api_Grid_46_at_grid_Right_1.l0 k1 l0 (l0.length : Int) (wrap64 (x8_1 + 1)))) = some r := H
   have A6 := Aside0.mk A60
   clear A60
   by_cases c7 : t111 = true
   ·
    subst c7
    have H1 : (some x8_1) = some r := by rw [if_pos rfl] at H; exact H
    clear H
    have H := H1
    clear H1
    obtain rfl := Option.some.inj H
    have p110 : 0 ≤ (x8_1 : Int) := of_decide_eq_true (by first | (with_reducible assumption) | assumption)
    have q110 : x8_1 < (l0.length : Int) := of_decide_eq_true (by first | (with_reducible assumption) | assumption)
    obtain ⟨ad110, A110_2, c110_2, e110, hx110_0, hx110_1, hx110_2, hl110_2, hi110_2⟩ := at_T24 HR0.out x8_1 p110 q110
    cases e110
    replace hx110_0 := cb_ HB hx110_0
    replace hx110_1 := cb_ HB hx110_1
    replace hx110_2 := cb_ HB hx110_2
    have HR110_2 := Aside0.mk hi110_2
    have HC110_2 := Aside0.mk hl110_2
    clear hi110_2 hl110_2
    replace p110 := eq_true p110
    replace q110 := eq_true q110
    go_wp2_with (first | ((with_reducible refine gate_dyn_ (t := 11) rfl ?_); refine goesV_ (some 16) rfl rfl Try.func40 (by kernel_rfl) rfl #[.agg #[.int .i64 ((rd_T24 l0 x8_1).f0), .int .i64 ((rd_T24 l0 x8_1).f1), .slice A110_2 ((rd_T24 l0 x8_1).f2).length c110_2]] rfl (by (try simp only [l_4, l_5, l_6]); first | done | rfl | (simp only [l_7, l_8]; rfl)) ?_; (with_reducible refine (grid_Right_1.calls ((rd_T24 l0 x8_1).f0) ((rd_T24 l0 x8_1).f1) _ _ ((rd_T24 l0 x8_1).f2) true _ ?side1 ?side2 A6.out).mono ?_); (case side1 => repeat (first | exact (Kd.C_below HR110_2.out HB.out) | (with_reducible refine Kd.C_alloc ?_ _) | (with_reducible refine Kd.C_drewN ?_ _) | (with_reducible refine Kd.C_drew ?_))); (case side2 => exact HC110_2.out); rintro e w8 ⟨rfl, hb⟩; (try clear A6); refine ⟨_, rfl, ?_⟩; replace HB := Aside0.mk (below_step (bw_ HB) hb); (try clear hb); (try clear hb2); (try clear hk); (try clear hi)))
    go_ret
    exact ⟨by first | rfl | (simp [errW_none, errW_some] <;> rfl) | (simp [*, errW_none, errW_some] <;> rfl), by repeat (first | (with_reducible first | exact HB.out | apply b_a | apply b_n | apply b_d) | exact HB.out)⟩
   replace c7 := Bool.eq_false_iff.mpr c7
   subst c7
   have H1 : (api_Grid_46_at_grid_Right_1.l0 k1 l0 (l0.length : Int) (wrap64 (x8_1 + 1))) = some r := by rw [if_neg (show ¬ (false = true) by decide)] at H; exact H
   clear H
   have H := H1
   clear H1
   have H' := Aside0.mk H
   clear H
   have p110 : 0 ≤ (x8_1 : Int) := of_decide_eq_true (by first | (with_reducible assumption) | assumption)
   have q110 : x8_1 < (l0.length : Int) := of_decide_eq_true (by first | (with_reducible assumption) | assumption)
   obtain ⟨ad110, A110_2, c110_2, e110, hx110_0, hx110_1, hx110_2, hl110_2, hi110_2⟩ := at_T24 HR0.out x8_1 p110 q110
   cases e110
   replace hx110_0 := cb_ HB hx110_0
   replace hx110_1 := cb_ HB hx110_1
   replace hx110_2 := cb_ HB hx110_2
   have HR110_2 := Aside0.mk hi110_2
   have HC110_2 := Aside0.mk hl110_2
   clear hi110_2 hl110_2
   replace p110 := eq_true p110
   replace q110 := eq_true q110
   go_wp2_with (first | ((with_reducible refine gate_dyn_ (t := 11) rfl ?_); refine goesV_ (some 16) rfl rfl Try.func40 (by kernel_rfl) rfl #[.agg #[.int .i64 ((rd_T24 l0 x8_1).f0), .int .i64 ((rd_T24 l0 x8_1).f1), .slice A110_2 ((rd_T24 l0 x8_1).f2).length c110_2]] rfl (by (try simp only [l_4, l_5, l_6]); first | done | rfl | (simp only [l_7, l_8]; rfl)) ?_; (with_reducible refine (grid_Right_1.calls ((rd_T24 l0 x8_1).f0) ((rd_T24 l0 x8_1).f1) _ _ ((rd_T24 l0 x8_1).f2) false _ ?side1 ?side2 A6.out).mono ?_); (case side1 => repeat (first | exact (Kd.C_below HR110_2.out HB.out) | (with_reducible refine Kd.C_alloc ?_ _) | (with_reducible refine Kd.C_drewN ?_ _) | (with_reducible refine Kd.C_drew ?_))); (case side2 => exact HC110_2.out); rintro e w9 ⟨rfl, hb⟩; (try clear A6); refine ⟨_, rfl, ?_⟩; replace HB := Aside0.mk (below_step (bw_ HB) hb); (try clear hb); (try clear hb2); (try clear hk); (try clear hi)))
   go_roundg k1
   case measure => have := HK1.out; omega
   case rel => exact ⟨(wrap64 (x8_1 + 1)), (by first | rfl | (simp; done) | (simp [*]; done)), H', ⟨by have := HK1.out; omega⟩, ⟨by repeat (first | (with_reducible first | exact HB.out | apply b_a | apply b_n | apply b_d) | exact HB.out)⟩⟩
/-! ### api_Grid_39_at_grid_Right_1: function 39 -/
def api_Grid_39_at_grid_Right_1.f (k : Nat) (l0 : List (S24))  : Option (Bool) := (api_Grid_46_at_grid_Right_1.f k l0).bind fun t112 => (some (decide (t112 ≥ 0)))
theorem api_Grid_39_at_grid_Right_1.mono : ∀ a0 k, LeO (api_Grid_39_at_grid_Right_1.f k a0) (api_Grid_39_at_grid_Right_1.f (k + 1) a0) := by
 intro a0 k
 unfold api_Grid_39_at_grid_Right_1.f
 repeat' first
   | (with_reducible exact api_Grid_46_at_grid_Right_1.mono _ _)
   | (with_reducible exact LeO.refl _)
   | (with_reducible exact LeO.none _)
   | (with_reducible refine LeO.ite ?_ ?_)
   | (with_reducible refine LeO.bind ?_ (fun _ => ?_))
   | exact api_Grid_46_at_grid_Right_1.mono _ _
   | exact LeO.none _
   | refine LeO.ite ?_ ?_
   | refine LeO.bind ?_ (fun _ => ?_)
set_option maxHeartbeats 60000000 in
set_option maxRecDepth 100000 in
theorem api_Grid_39_at_grid_Right_1.calls (k : Nat) (A0 : Option Addr) (c0 : Nat) (l0 : List (S24))  (r : Bool) (w : World) (hr0 : Kd.C k24 w A0 l0.length l0) (hc0 : l0.length ≤ c0) (h : api_Grid_39_at_grid_Right_1.f k l0 = some r) :
  Calls Try.prog 39 #[.slice A0 l0.length c0, .func (.func 40) #[] #[]] w fun e w' => e = .returned (.bool r) ∧ Below w.heap.size w w' := by
 have HR0 := Aside0.mk hr0
 have HC0 := Aside0.mk hc0
 clear hr0 hc0
 have HB := Aside0.mk (Below.refl w.heap.size w)
 have H : ((api_Grid_46_at_grid_Right_1.f k l0).bind fun t112 => (some (decide (t112 ≥ 0)))) = some r := h
 clear h
 replace H := Option.bind_eq_some_iff.mp H
 obtain ⟨t112, A30, H⟩ := H
 replace H : (some (decide (t112 ≥ 0))) = some r := H
 have A3 := Aside0.mk A30
 clear A30
 obtain rfl := Option.some.inj H
 go_enter Try.func39, Try.ntmps39
 go_wp2_with (first | ((with_reducible refine gate_callee (f := 46) rfl ?_); refine goesL_ (some 7) rfl rfl Try.func46 (by kernel_rfl) rfl #[.slice A0 l0.length c0, .func (.func 40) #[] #[]] rfl (by (try simp only [l_4, l_5, l_6]); first | done | rfl | (simp only [l_7, l_8]; rfl)) ?_; (with_reducible refine (api_Grid_46_at_grid_Right_1.calls k _ _ l0  t112 _ ?side1 ?side2 A3.out).mono ?_); (case side1 => repeat (first | exact HR0.out | (with_reducible refine Kd.C_alloc ?_ _) | (with_reducible refine Kd.C_drewN ?_ _) | (with_reducible refine Kd.C_drew ?_))); (case side2 => exact HC0.out); rintro e w4 ⟨rfl, hb⟩; (try clear A3); refine ⟨_, rfl, ?_⟩; replace HB := Aside0.mk (below_step (bw_ HB) hb); (try clear hb); (try clear hb2); (try clear hk); (try clear hi)))
 go_ret
 exact ⟨by first | rfl | (simp [errW_none, errW_some] <;> rfl) | (simp [*, errW_none, errW_some] <;> rfl), by repeat (first | (with_reducible first | exact HB.out | apply b_a | apply b_n | apply b_d) | exact HB.out)⟩

/-! ### grid_Right: function 17 -/
def grid_Right.f (k : Nat) (l0 : List (S24)) : Option (Bool) := (api_Grid_39_at_grid_Right_1.f k l0).bind fun t113 => (some (!t113))
theorem grid_Right.mono : ∀ a0 k, LeO (grid_Right.f k a0) (grid_Right.f (k + 1) a0) := by
 intro a0 k
 unfold grid_Right.f
 repeat' first
   | (with_reducible exact api_Grid_39_at_grid_Right_1.mono _ _)
   | (with_reducible exact LeO.refl _)
   | (with_reducible exact LeO.none _)
   | (with_reducible refine LeO.ite ?_ ?_)
   | (with_reducible refine LeO.bind ?_ (fun _ => ?_))
   | exact api_Grid_39_at_grid_Right_1.mono _ _
   | exact LeO.none _
   | refine LeO.ite ?_ ?_
   | refine LeO.bind ?_ (fun _ => ?_)
set_option maxHeartbeats 60000000 in
set_option maxRecDepth 100000 in
theorem grid_Right.calls (k : Nat) (A0 : Option Addr) (c0 : Nat) (l0 : List (S24)) (r : Bool) (w : World) (hr0 : Kd.C k24 w A0 l0.length l0) (hc0 : l0.length ≤ c0) (h : grid_Right.f k l0 = some r) :
  Calls Try.prog 17 #[.slice A0 l0.length c0] w fun e w' => e = .returned (.bool r) ∧ Below w.heap.size w w' := by
 have HR0 := Aside0.mk hr0
 have HC0 := Aside0.mk hc0
 clear hr0 hc0
 have HB := Aside0.mk (Below.refl w.heap.size w)
 have H : ((api_Grid_39_at_grid_Right_1.f k l0).bind fun t113 => (some (!t113))) = some r := h
 clear h
 replace H := Option.bind_eq_some_iff.mp H
 obtain ⟨t113, A20, H⟩ := H
 replace H : (some (!t113)) = some r := H
 have A2 := Aside0.mk A20
 clear A20
 obtain rfl := Option.some.inj H
 go_enter Try.func17, Try.ntmps17
 go_wp2_with (first | ((with_reducible refine gate_callee (f := 39) rfl ?_); refine goesL_ (some 4) rfl rfl Try.func39 (by kernel_rfl) rfl #[.slice A0 l0.length c0, .func (.func 40) #[] #[]] rfl (by (try simp only [l_4, l_5, l_6]); first | done | rfl | (simp only [l_7, l_8]; rfl)) ?_; (with_reducible refine (api_Grid_39_at_grid_Right_1.calls k _ _ l0  t113 _ ?side1 ?side2 A2.out).mono ?_); (case side1 => repeat (first | exact HR0.out | (with_reducible refine Kd.C_alloc ?_ _) | (with_reducible refine Kd.C_drewN ?_ _) | (with_reducible refine Kd.C_drew ?_))); (case side2 => exact HC0.out); rintro e w3 ⟨rfl, hb⟩; (try clear A2); refine ⟨_, rfl, ?_⟩; replace HB := Aside0.mk (below_step (bw_ HB) hb); (try clear hb); (try clear hb2); (try clear hk); (try clear hi)))
 go_ret
 exact ⟨by first | rfl | (simp [errW_none, errW_some] <;> rfl) | (simp [*, errW_none, errW_some] <;> rfl), by repeat (first | (with_reducible first | exact HB.out | apply b_a | apply b_n | apply b_d) | exact HB.out)⟩

/-! ### grid_fit_1: function 44 -/
def grid_fit_1.f (a0_0 : Int) (a0_1 : Int) (l0_2 : List Int) : Option (Bool) := some (decide ((l0_2.length : Int) > 1048576))
set_option maxHeartbeats 60000000 in
set_option maxRecDepth 100000 in
theorem grid_fit_1.calls (a0_0 : Int) (a0_1 : Int) (A0_2 : Option Addr) (c0_2 : Nat) (l0_2 : List Int) (r : Bool) (w : World) (hr0_2 : Kd.C (Kd.int .i32) w A0_2 l0_2.length l0_2) (hc0_2 : l0_2.length ≤ c0_2) (h : grid_fit_1.f a0_0 a0_1 l0_2 = some r) :
  Calls Try.prog 44 #[.agg #[.int .i64 a0_0, .int .i64 a0_1, .slice A0_2 l0_2.length c0_2]] w fun e w' => e = .returned (.bool r) ∧ Below w.heap.size w w' := by
 have hu24 := Try.underlying24
 have HR0_2 := Aside0.mk hr0_2
 have HC0_2 := Aside0.mk hc0_2
 clear hr0_2 hc0_2
 have HB := Aside0.mk (Below.refl w.heap.size w)
 have H : (some (decide ((l0_2.length : Int) > 1048576))) = some r := h
 clear h
 obtain rfl := Option.some.inj H
 go_enter Try.func44, Try.ntmps44
 go_wp2_with (first | ((with_reducible refine gate_dst (N := 1) rfl ?_); refine box_event ?hg (N := 1) ?hd (cs := #[.int .i64 a0_0, .int .i64 a0_1, .slice A0_2 l0_2.length c0_2]) (t := 24) ?hr ?_; (case hd => rfl); (case hg => rfl); (case hr => first | (go_simp; done) | (go_simp; rfl)); intro gb114 hg w2 hbox hb; have BK114 := Aside0.mk (hbox); have GW114 := Aside0.mk ((by rw [hg]; exact (below_size (bw_ HB)) : w.heap.size ≤ gb114)); have GE114 := Aside0.mk ((by rw [hg]; exact (below_size (bw_ HB)) : w.heap.size ≤ gb114)); replace HB := Aside0.mk (below_step (bw_ HB) hb); clear hb hbox hg; have hcz3_0 := bc_0 BK114; have hcz3_1 := bc_1 BK114; have hcz3_2 := bc_2 BK114; have hfz3_0 := blk_frozen BK114.out 0; have hfz3_1 := blk_frozen BK114.out 1; have hfz3_2 := blk_frozen BK114.out 2))
 go_ret
 exact ⟨by first | rfl | (simp [errW_none, errW_some] <;> rfl) | (simp [*, errW_none, errW_some] <;> rfl), by repeat (first | (with_reducible first | exact HB.out | apply b_a | apply b_n | apply b_d | refine b_s ?_ GE114.out) | exact HB.out)⟩

/-! ### api_Grid_46_at_grid_fit_1: function 46 -/
def api_Grid_46_at_grid_fit_1.l0 : Nat → List (S24) → Int → Int → Option (Int)
 | 0, _, _, _ => none
 | k + 1, x0, x7, x8 => if x8 < x7 then (if 0 ≤ x8 then (if x8 < (x0.length : Int) then ((grid_fit_1.f ((rd_T24 x0 x8).f0) ((rd_T24 x0 x8).f1) ((rd_T24 x0 x8).f2)).bind fun t116 => (if t116 = true then (some x8) else (api_Grid_46_at_grid_fit_1.l0 k x0 x7 (wrap64 (x8 + 1))))) else (none)) else (none)) else (some (-1))
def api_Grid_46_at_grid_fit_1.f (k : Nat) (l0 : List (S24))  : Option (Int) := api_Grid_46_at_grid_fit_1.l0 k l0 (l0.length : Int) 0
theorem api_Grid_46_at_grid_fit_1.mono_l : ∀ k, (∀ y0 y1 y2, LeO (api_Grid_46_at_grid_fit_1.l0 k y0 y1 y2) (api_Grid_46_at_grid_fit_1.l0 (k + 1) y0 y1 y2))
 | 0 => fun _ _ _ r h => by simp [api_Grid_46_at_grid_fit_1.l0] at h
 | k + 1 => by
  have ih0 := api_Grid_46_at_grid_fit_1.mono_l k
  ·
   intro y0 y1 y2
   unfold api_Grid_46_at_grid_fit_1.l0
   repeat' first
   | (with_reducible exact ih0 _ _ _)
   | (with_reducible exact LeO.refl _)
   | (with_reducible exact LeO.none _)
   | (with_reducible refine LeO.ite ?_ ?_)
   | (with_reducible refine LeO.bind ?_ (fun _ => ?_))
   | exact ih0 _ _ _
   | exact LeO.none _
   | refine LeO.ite ?_ ?_
   | refine LeO.bind ?_ (fun _ => ?_)
theorem api_Grid_46_at_grid_fit_1.mono : ∀ a0 k, LeO (api_Grid_46_at_grid_fit_1.f k a0) (api_Grid_46_at_grid_fit_1.f (k + 1) a0) := by
 intro a0 k
 have ih0 := api_Grid_46_at_grid_fit_1.mono_l k
 unfold api_Grid_46_at_grid_fit_1.f
 repeat' first
   | (with_reducible exact ih0 _ _ _)
   | (with_reducible exact LeO.refl _)
   | (with_reducible exact LeO.none _)
   | (with_reducible refine LeO.ite ?_ ?_)
   | (with_reducible refine LeO.bind ?_ (fun _ => ?_))
   | exact ih0 _ _ _
   | exact LeO.none _
   | refine LeO.ite ?_ ?_
   | refine LeO.bind ?_ (fun _ => ?_)
set_option maxHeartbeats 60000000 in
set_option maxRecDepth 100000 in
theorem api_Grid_46_at_grid_fit_1.calls (k : Nat) (A0 : Option Addr) (c0 : Nat) (l0 : List (S24))  (r : Int) (w : World) (hr0 : Kd.C k24 w A0 l0.length l0) (hc0 : l0.length ≤ c0) (h : api_Grid_46_at_grid_fit_1.f k l0 = some r) :
  Calls Try.prog 46 #[.slice A0 l0.length c0, .func (.func 44) #[] #[]] w fun e w' => e = .returned (.int .i64 r) ∧ Below w.heap.size w w' := by
 have hu24 := Try.underlying24
 have HR0 := Aside0.mk hr0
 have HC0 := Aside0.mk hc0
 clear hr0 hc0
 have HB := Aside0.mk (Below.refl w.heap.size w)
 have H : (api_Grid_46_at_grid_fit_1.l0 k l0 (l0.length : Int) 0) = some r := h
 clear h
 have H' := Aside0.mk H
 clear H
 go_enter Try.func46, Try.ntmps46
 go_wp2
 go_loopg [8] k (fun kq v8 w' => ∃ (x8_1 : Int), v8 = .int .i64 x8_1 ∧ Aside0 (api_Grid_46_at_grid_fit_1.l0 kq l0 (l0.length : Int) x8_1 = some r) ∧ Aside0 (kq ≤ k) ∧ Aside0 (Below w.heap.size w w'))
 case atStart => exact ⟨(0), (by first | rfl | (simp; done) | (simp [*]; done)), H', ⟨Nat.le_refl _⟩, ⟨by repeat (first | (with_reducible first | exact HB.out | apply b_a | apply b_n | apply b_d) | exact HB.out)⟩⟩
 case round =>
  clear H'
  try clear p2
  obtain ⟨x8_1, rfl, HA, HK1, HB⟩ := hrel
  cases gk with
  | zero => exact absurd HA.out (by simp [api_Grid_46_at_grid_fit_1.l0])
  | succ k1 =>
   have H := HA.out
   clear HA
   simp only [api_Grid_46_at_grid_fit_1.l0] at H
   by_cases c3 : x8_1 < (l0.length : Int)
   rotate_left
   ·
    rw [if_neg c3] at H
    have c3b0 : decide (x8_1 < (l0.length : Int)) = false := decide_eq_false c3
    clear c3
    obtain rfl := Option.some.inj H
    go_wp2
    go_ret
    exact ⟨by first | rfl | (simp [errW_none, errW_some] <;> rfl) | (simp [*, errW_none, errW_some] <;> rfl), by repeat (first | (with_reducible first | exact HB.out | apply b_a | apply b_n | apply b_d) | exact HB.out)⟩

   rw [if_pos c3] at H
   have c3b0 : decide (x8_1 < (l0.length : Int)) = true := decide_eq_true c3
   clear c3
   by_cases c4 : 0 ≤ x8_1
   rotate_left
   ·
    rw [if_neg c4] at H
    exact absurd H (by simp)
   rw [if_pos c4] at H
   have c4b0 : decide (0 ≤ x8_1) = true := decide_eq_true c4
   clear c4
   by_cases c5 : x8_1 < (l0.length : Int)
   rotate_left
   ·
    rw [if_neg c5] at H
    exact absurd H (by simp)
   rw [if_pos c5] at H
   have c5b0 : decide (x8_1 < (l0.length : Int)) = true := decide_eq_true c5
   clear c5
   replace H := Option.bind_eq_some_iff.mp H
   obtain ⟨t116, A60, H⟩ := H
   replace H : (if t116 = true then (some x8_1) else (api_Grid_46_at_grid_fit_1.l0 k1 l0 (l0.length : Int) (wrap64 (x8_1 + 1)))) = some r := H
   have A6 := Aside0.mk A60
   clear A60
   by_cases c7 : t116 = true
   ·
    subst c7
    have H1 : (some x8_1) = some r := by rw [if_pos rfl] at H; exact H
    clear H
    have H := H1
    clear H1
    obtain rfl := Option.some.inj H
    have p115 : 0 ≤ (x8_1 : Int) := of_decide_eq_true (by first | (with_reducible assumption) | assumption)
    have q115 : x8_1 < (l0.length : Int) := of_decide_eq_true (by first | (with_reducible assumption) | assumption)
    obtain ⟨ad115, A115_2, c115_2, e115, hx115_0, hx115_1, hx115_2, hl115_2, hi115_2⟩ := at_T24 HR0.out x8_1 p115 q115
    cases e115
    replace hx115_0 := cb_ HB hx115_0
    replace hx115_1 := cb_ HB hx115_1
    replace hx115_2 := cb_ HB hx115_2
    have HR115_2 := Aside0.mk hi115_2
    have HC115_2 := Aside0.mk hl115_2
    clear hi115_2 hl115_2
    replace p115 := eq_true p115
    replace q115 := eq_true q115
    go_wp2_with (first | ((with_reducible refine gate_dyn_ (t := 11) rfl ?_); refine goesV_ (some 16) rfl rfl Try.func44 (by kernel_rfl) rfl #[.agg #[.int .i64 ((rd_T24 l0 x8_1).f0), .int .i64 ((rd_T24 l0 x8_1).f1), .slice A115_2 ((rd_T24 l0 x8_1).f2).length c115_2]] rfl (by (try simp only [l_4, l_5, l_6]); first | done | rfl | (simp only [l_7, l_8]; rfl)) ?_; (with_reducible refine (grid_fit_1.calls ((rd_T24 l0 x8_1).f0) ((rd_T24 l0 x8_1).f1) _ _ ((rd_T24 l0 x8_1).f2) true _ ?side1 ?side2 A6.out).mono ?_); (case side1 => repeat (first | exact (Kd.C_below HR115_2.out HB.out) | (with_reducible refine Kd.C_alloc ?_ _) | (with_reducible refine Kd.C_drewN ?_ _) | (with_reducible refine Kd.C_drew ?_))); (case side2 => exact HC115_2.out); rintro e w8 ⟨rfl, hb⟩; (try clear A6); refine ⟨_, rfl, ?_⟩; replace HB := Aside0.mk (below_step (bw_ HB) hb); (try clear hb); (try clear hb2); (try clear hk); (try clear hi)))
    go_ret
    exact ⟨by first | rfl | (simp [errW_none, errW_some] <;> rfl) | (simp [*, errW_none, errW_some] <;> rfl), by repeat (first | (with_reducible first | exact HB.out | apply b_a | apply b_n | apply b_d) | exact HB.out)⟩
   replace c7 := Bool.eq_false_iff.mpr c7
   subst c7
   have H1 : (api_Grid_46_at_grid_fit_1.l0 k1 l0 (l0.length : Int) (wrap64 (x8_1 + 1))) = some r := by rw [if_neg (show ¬ (false = true) by decide)] at H; exact H
   clear H
   have H := H1
   clear H1
   have H' := Aside0.mk H
   clear H
   have p115 : 0 ≤ (x8_1 : Int) := of_decide_eq_true (by first | (with_reducible assumption) | assumption)
   have q115 : x8_1 < (l0.length : Int) := of_decide_eq_true (by first | (with_reducible assumption) | assumption)
   obtain ⟨ad115, A115_2, c115_2, e115, hx115_0, hx115_1, hx115_2, hl115_2, hi115_2⟩ := at_T24 HR0.out x8_1 p115 q115
   cases e115
   replace hx115_0 := cb_ HB hx115_0
   replace hx115_1 := cb_ HB hx115_1
   replace hx115_2 := cb_ HB hx115_2
   have HR115_2 := Aside0.mk hi115_2
   have HC115_2 := Aside0.mk hl115_2
   clear hi115_2 hl115_2
   replace p115 := eq_true p115
   replace q115 := eq_true q115
   go_wp2_with (first | ((with_reducible refine gate_dyn_ (t := 11) rfl ?_); refine goesV_ (some 16) rfl rfl Try.func44 (by kernel_rfl) rfl #[.agg #[.int .i64 ((rd_T24 l0 x8_1).f0), .int .i64 ((rd_T24 l0 x8_1).f1), .slice A115_2 ((rd_T24 l0 x8_1).f2).length c115_2]] rfl (by (try simp only [l_4, l_5, l_6]); first | done | rfl | (simp only [l_7, l_8]; rfl)) ?_; (with_reducible refine (grid_fit_1.calls ((rd_T24 l0 x8_1).f0) ((rd_T24 l0 x8_1).f1) _ _ ((rd_T24 l0 x8_1).f2) false _ ?side1 ?side2 A6.out).mono ?_); (case side1 => repeat (first | exact (Kd.C_below HR115_2.out HB.out) | (with_reducible refine Kd.C_alloc ?_ _) | (with_reducible refine Kd.C_drewN ?_ _) | (with_reducible refine Kd.C_drew ?_))); (case side2 => exact HC115_2.out); rintro e w9 ⟨rfl, hb⟩; (try clear A6); refine ⟨_, rfl, ?_⟩; replace HB := Aside0.mk (below_step (bw_ HB) hb); (try clear hb); (try clear hb2); (try clear hk); (try clear hi)))
   go_roundg k1
   case measure => have := HK1.out; omega
   case rel => exact ⟨(wrap64 (x8_1 + 1)), (by first | rfl | (simp; done) | (simp [*]; done)), H', ⟨by have := HK1.out; omega⟩, ⟨by repeat (first | (with_reducible first | exact HB.out | apply b_a | apply b_n | apply b_d) | exact HB.out)⟩⟩
/-! ### api_Grid_39_at_grid_fit_1: function 39 -/
def api_Grid_39_at_grid_fit_1.f (k : Nat) (l0 : List (S24))  : Option (Bool) := (api_Grid_46_at_grid_fit_1.f k l0).bind fun t117 => (some (decide (t117 ≥ 0)))
theorem api_Grid_39_at_grid_fit_1.mono : ∀ a0 k, LeO (api_Grid_39_at_grid_fit_1.f k a0) (api_Grid_39_at_grid_fit_1.f (k + 1) a0) := by
 intro a0 k
 unfold api_Grid_39_at_grid_fit_1.f
 repeat' first
   | (with_reducible exact api_Grid_46_at_grid_fit_1.mono _ _)
   | (with_reducible exact LeO.refl _)
   | (with_reducible exact LeO.none _)
   | (with_reducible refine LeO.ite ?_ ?_)
   | (with_reducible refine LeO.bind ?_ (fun _ => ?_))
   | exact api_Grid_46_at_grid_fit_1.mono _ _
   | exact LeO.none _
   | refine LeO.ite ?_ ?_
   | refine LeO.bind ?_ (fun _ => ?_)
set_option maxHeartbeats 60000000 in
set_option maxRecDepth 100000 in
theorem api_Grid_39_at_grid_fit_1.calls (k : Nat) (A0 : Option Addr) (c0 : Nat) (l0 : List (S24))  (r : Bool) (w : World) (hr0 : Kd.C k24 w A0 l0.length l0) (hc0 : l0.length ≤ c0) (h : api_Grid_39_at_grid_fit_1.f k l0 = some r) :
  Calls Try.prog 39 #[.slice A0 l0.length c0, .func (.func 44) #[] #[]] w fun e w' => e = .returned (.bool r) ∧ Below w.heap.size w w' := by
 have HR0 := Aside0.mk hr0
 have HC0 := Aside0.mk hc0
 clear hr0 hc0
 have HB := Aside0.mk (Below.refl w.heap.size w)
 have H : ((api_Grid_46_at_grid_fit_1.f k l0).bind fun t117 => (some (decide (t117 ≥ 0)))) = some r := h
 clear h
 replace H := Option.bind_eq_some_iff.mp H
 obtain ⟨t117, A30, H⟩ := H
 replace H : (some (decide (t117 ≥ 0))) = some r := H
 have A3 := Aside0.mk A30
 clear A30
 obtain rfl := Option.some.inj H
 go_enter Try.func39, Try.ntmps39
 go_wp2_with (first | ((with_reducible refine gate_callee (f := 46) rfl ?_); refine goesL_ (some 7) rfl rfl Try.func46 (by kernel_rfl) rfl #[.slice A0 l0.length c0, .func (.func 44) #[] #[]] rfl (by (try simp only [l_4, l_5, l_6]); first | done | rfl | (simp only [l_7, l_8]; rfl)) ?_; (with_reducible refine (api_Grid_46_at_grid_fit_1.calls k _ _ l0  t117 _ ?side1 ?side2 A3.out).mono ?_); (case side1 => repeat (first | exact HR0.out | (with_reducible refine Kd.C_alloc ?_ _) | (with_reducible refine Kd.C_drewN ?_ _) | (with_reducible refine Kd.C_drew ?_))); (case side2 => exact HC0.out); rintro e w4 ⟨rfl, hb⟩; (try clear A3); refine ⟨_, rfl, ?_⟩; replace HB := Aside0.mk (below_step (bw_ HB) hb); (try clear hb); (try clear hb2); (try clear hk); (try clear hi)))
 go_ret
 exact ⟨by first | rfl | (simp [errW_none, errW_some] <;> rfl) | (simp [*, errW_none, errW_some] <;> rfl), by repeat (first | (with_reducible first | exact HB.out | apply b_a | apply b_n | apply b_d) | exact HB.out)⟩

/-! ### grid_fit: function 36 -/
def grid_fit.f (k : Nat) (l0 : List (S24)) : Option (Bool) := (grid_Right.f k l0).bind fun t118 => (if t118 = true then ((api_Grid_39_at_grid_fit_1.f k l0).bind fun t119 => (some (!t119))) else (some false))
theorem grid_fit.mono : ∀ a0 k, LeO (grid_fit.f k a0) (grid_fit.f (k + 1) a0) := by
 intro a0 k
 unfold grid_fit.f
 repeat' first
   | (with_reducible exact api_Grid_39_at_grid_fit_1.mono _ _)
   | (with_reducible exact grid_Right.mono _ _)
   | (with_reducible exact LeO.refl _)
   | (with_reducible exact LeO.none _)
   | (with_reducible refine LeO.ite ?_ ?_)
   | (with_reducible refine LeO.bind ?_ (fun _ => ?_))
   | exact api_Grid_39_at_grid_fit_1.mono _ _
   | exact grid_Right.mono _ _
   | exact LeO.none _
   | refine LeO.ite ?_ ?_
   | refine LeO.bind ?_ (fun _ => ?_)
set_option maxHeartbeats 60000000 in
set_option maxRecDepth 100000 in
theorem grid_fit.calls (k : Nat) (A0 : Option Addr) (c0 : Nat) (l0 : List (S24)) (r : Bool) (w : World) (hr0 : Kd.C k24 w A0 l0.length l0) (hc0 : l0.length ≤ c0) (h : grid_fit.f k l0 = some r) :
  Calls Try.prog 36 #[.slice A0 l0.length c0] w fun e w' => e = .returned (.bool r) ∧ Below w.heap.size w w' := by
 have HR0 := Aside0.mk hr0
 have HC0 := Aside0.mk hc0
 clear hr0 hc0
 have HB := Aside0.mk (Below.refl w.heap.size w)
 have H : ((grid_Right.f k l0).bind fun t118 => (if t118 = true then ((api_Grid_39_at_grid_fit_1.f k l0).bind fun t119 => (some (!t119))) else (some false))) = some r := h
 clear h
 replace H := Option.bind_eq_some_iff.mp H
 obtain ⟨t118, A20, H⟩ := H
 replace H : (if t118 = true then ((api_Grid_39_at_grid_fit_1.f k l0).bind fun t119 => (some (!t119))) else (some false)) = some r := H
 have A2 := Aside0.mk A20
 clear A20
 by_cases c3 : t118 = true
 rotate_left
 ·
  replace c3 := Bool.eq_false_iff.mpr c3
  subst c3
  have H1 : (some false) = some r := by rw [if_neg (show ¬ (false = true) by decide)] at H; exact H
  clear H
  have H := H1
  clear H1
  obtain rfl := Option.some.inj H
  go_enter Try.func36, Try.ntmps36
  go_wp2_with (first | ((with_reducible refine gate_callee (f := 17) rfl ?_); refine goesL_ (some 4) rfl rfl Try.func17 (by kernel_rfl) rfl #[.slice A0 l0.length c0] rfl (by (try simp only [l_4, l_5, l_6]); first | done | rfl | (simp only [l_7, l_8]; rfl)) ?_; (with_reducible refine (grid_Right.calls k _ _ l0 false _ ?side1 ?side2 A2.out).mono ?_); (case side1 => repeat (first | exact HR0.out | (with_reducible refine Kd.C_alloc ?_ _) | (with_reducible refine Kd.C_drewN ?_ _) | (with_reducible refine Kd.C_drew ?_))); (case side2 => exact HC0.out); rintro e w7 ⟨rfl, hb⟩; (try clear A2); refine ⟨_, rfl, ?_⟩; replace HB := Aside0.mk (below_step (bw_ HB) hb); (try clear hb); (try clear hb2); (try clear hk); (try clear hi)))
  go_ret
  exact ⟨by first | rfl | (simp [errW_none, errW_some] <;> rfl) | (simp [*, errW_none, errW_some] <;> rfl), by repeat (first | (with_reducible first | exact HB.out | apply b_a | apply b_n | apply b_d) | exact HB.out)⟩

 subst c3
 have H1 : ((api_Grid_39_at_grid_fit_1.f k l0).bind fun t119 => (some (!t119))) = some r := by rw [if_pos rfl] at H; exact H
 clear H
 have H := H1
 clear H1
 replace H := Option.bind_eq_some_iff.mp H
 obtain ⟨t119, A40, H⟩ := H
 replace H : (some (!t119)) = some r := H
 have A4 := Aside0.mk A40
 clear A40
 obtain rfl := Option.some.inj H
 go_enter Try.func36, Try.ntmps36
 go_wp2_with (first | ((with_reducible refine gate_callee (f := 17) rfl ?_); refine goesL_ (some 4) rfl rfl Try.func17 (by kernel_rfl) rfl #[.slice A0 l0.length c0] rfl (by (try simp only [l_4, l_5, l_6]); first | done | rfl | (simp only [l_7, l_8]; rfl)) ?_; (with_reducible refine (grid_Right.calls k _ _ l0 true _ ?side1 ?side2 A2.out).mono ?_); (case side1 => repeat (first | exact HR0.out | (with_reducible refine Kd.C_alloc ?_ _) | (with_reducible refine Kd.C_drewN ?_ _) | (with_reducible refine Kd.C_drew ?_))); (case side2 => exact HC0.out); rintro e w5 ⟨rfl, hb⟩; (try clear A2); refine ⟨_, rfl, ?_⟩; replace HB := Aside0.mk (below_step (bw_ HB) hb); (try clear hb); (try clear hb2); (try clear hk); (try clear hi)) | (go_at_call 39; (with_reducible refine (api_Grid_39_at_grid_fit_1.calls k _ _ l0  t119 _ ?side1 ?side2 A4.out).mono ?_); (case side1 => repeat (first | exact (Kd.C_below HR0.out HB.out) | (with_reducible refine Kd.C_alloc ?_ _) | (with_reducible refine Kd.C_drewN ?_ _) | (with_reducible refine Kd.C_drew ?_))); (case side2 => exact HC0.out); rintro e w6 ⟨rfl, hb⟩; (try clear A4); replace HB := Aside0.mk (below_step (bw_ HB) hb); (try clear hb); (try clear hb2); (try clear hk); (try clear hi)))
 go_ret
 exact ⟨by first | rfl | (simp [errW_none, errW_some] <;> rfl) | (simp [*, errW_none, errW_some] <;> rfl), by repeat (first | (with_reducible first | exact HB.out | apply b_a | apply b_n | apply b_d) | exact HB.out)⟩
/-! ### grid_row: function 37, by hand -/
def grid_row.A (A : Option Addr) (c lo : Nat) : Option Addr := if c = lo then A else A.map (·.add lo)
theorem grid_row.mul (i a : Int) (h0 : 0 ≤ i) (h1 : i ≤ 4096) (ha : 0 ≤ a) (hb : a ≤ 4096) : IntKind.i64.wrap (i * a) = i * a ∧ 0 ≤ i * a := by
  have hu : i * a ≤ 4096 * 4096 := Int.mul_le_mul h1 hb ha (by omega)
  have hl : 0 ≤ i * a := Int.mul_nonneg h0 ha
  constructor
  · rw [i64_w]; unfold wrap64; omega
  · exact hl
set_option maxHeartbeats 8000000 in
set_option maxRecDepth 100000 in
theorem grid_row.calls (a0 a1 : Int) (A0 : Option Addr) (c0 n0 : Nat) (i : Int) (w : World) (hn : n0 ≤ c0) (h0 : 0 ≤ i) (h1 : i < 4096) (ha : 0 ≤ a1) (hb : a1 ≤ 4096) (hm : (i + 1) * a1 ≤ n0) :
    Calls Try.prog 37 #[.agg #[.int .i64 a0, .int .i64 a1, .slice A0 n0 c0], .int .i64 i] w fun e w' => ∃ (Ar : Option Addr) (nr cr : Nat), e = .returned (.slice Ar nr cr) ∧ Ar = grid_row.A A0 c0 (i * a1).toNat ∧ (nr : Int) = a1 ∧ nr ≤ cr ∧ Below w.heap.size w w' := by
  have HB := Aside0.mk (Below.refl w.heap.size w)
  obtain ⟨m1, p1⟩ := grid_row.mul i a1 h0 (by omega) ha hb
  obtain ⟨m2, p2⟩ := grid_row.mul (i + 1) a1 (by omega) (by omega) ha hb
  have m3 : IntKind.i64.wrap (i + 1) = i + 1 := by rw [i64_w]; unfold wrap64; omega
  have e2 : (i + 1) * a1 = i * a1 + a1 := by rw [Int.add_mul, Int.one_mul]
  have hcut : ∀ W : World, (Instr.slice 22 (.slice A0 n0 c0) (some (.int .i64 (i * a1))) (some (.int .i64 ((i + 1) * a1))) none).run Try.prog W = .ok (.slice (grid_row.A A0 c0 (i * a1).toNat) a1.toNat (c0 - (i * a1).toNat)) W := by
    obtain ⟨j, hj, _, hs, _⟩ := info_parts info21
    intro W
    have hel : Try.prog.elem 22 = 21 := by simp [Program.elem, Try.underlying22]
    have hu : Try.prog.underlying 22 = some (.slice (Try.prog.elem 22)) := by rw [hel]; exact Try.underlying22
    rw [run_slice_lh W 22 A0 n0 c0 hu .i64 .i64 _ _ p1 (by omega) (by omega), hel]
    simp only [sizeOf, typeInfo, hj, hs, sliced, Result.andThen, grid_row.A, Nat.mul_one]
    have hd : ((i + 1) * a1).toNat - (i * a1).toNat = a1.toNat := by omega
    simp [hj, hs, hd]
  have HE : Aside0 (a1.toNat ≤ c0 - (i * a1).toNat) := ⟨by omega⟩
  clear e2 hm
  have hfa := Try.underlying24
  go_enter Try.func37, Try.ntmps37
  go_wp2_with (first | ((with_reducible refine gate_dst (N := 2) rfl ?_); (try (refine gate_guard (by rfl) ?_; dsimp only)); refine box_event ?hg (N := 2) ?hd (cs := #[.int .i64 a0, .int .i64 a1, .slice A0 n0 c0]) (t := 24) ?hr ?_; (case hd => rfl); (case hg => rfl); (case hr => first | (go_simp; done) | (go_simp; rfl)); intro gb hg w4 hbox hb; have HB4 := Aside0.mk (below_step HB.out hb); have hz0 : w4.cell? ⟨gb, 0, none⟩ = some (.int .i64 a0) := (blk_cell hbox 0).trans rfl; have hz1 : w4.cell? ⟨gb, 1, none⟩ = some (.int .i64 a1) := (blk_cell hbox 1).trans rfl; have hz2 : w4.cell? ⟨gb, 2, none⟩ = some (.slice A0 n0 c0) := (blk_cell hbox 2).trans rfl; clear hb hbox hg))
  go_ret
  exact ⟨_, _, _, rfl, rfl, by omega, HE.out, HB4.out⟩
/-- what a call of fit is told of a grid that came in -/
theorem fk24 {w : World} {A : Option Addr} {c : Nat} (x : S24) (hc : x.f2.length ≤ c) (h : Kd.C (Kd.int .i32) w A x.f2.length x.f2) : Kd.FK k24 w (fun _ => True) x [.int .i64 x.f0, .int .i64 x.f1, .slice A x.f2.length c] := k24_mkF _ _ x hc (C_F h)
/-- a block of a struct, as cells -/
theorem cell3 {w : World} {g t : Nat} {u v x : Value} (h : w.heap[g]? = some (.cells #[u, v, x] t (0, 0))) : w.cell? ⟨g, 0, none⟩ = some u ∧ w.cell? ⟨g, 1, none⟩ = some v ∧ w.cell? ⟨g, 2, none⟩ = some x ∧ w.frozen? ⟨g, 0, none⟩ = false ∧ w.frozen? ⟨g, 1, none⟩ = false ∧ w.frozen? ⟨g, 2, none⟩ = false :=
  ⟨(blk_cell h 0).trans rfl, (blk_cell h 1).trans rfl, (blk_cell h 2).trans rfl, blk_frozen h 0, blk_frozen h 1, blk_frozen h 2⟩
/-- a struct put into its block -/
theorem put3 {w : World} {g t : Nat} {a b c u v x : Value} (h : w.heap[g]? = some (.cells #[a, b, c] t (0, 0))) : (((w.setCell ⟨g, 0, none⟩ u).setCell ⟨g, 1, none⟩ v).setCell ⟨g, 2, none⟩ x).heap[g]? = some (.cells #[u, v, x] t (0, 0)) :=
  blk_put (cs := #[u, v, c]) (blk_put (cs := #[u, b, c]) (blk_put h 0 u rfl) 1 v rfl) 2 x rfl
theorem set_other {w : World} {g h' : Nat} {o : Obj} (j : Nat) (v : Value) (hg : w.heap[h']? = some o) (hne : h' ≠ g) : (w.setCell ⟨g, j, none⟩ v).heap[h']? = some o := (Below.heap_setCell w ⟨g, j, none⟩ v h' hne).trans hg
theorem set3_other {w : World} {g h' : Nat} {o : Obj} {u v x : Value} (hg : w.heap[h']? = some o) (hne : h' ≠ g) : (((w.setCell ⟨g, 0, none⟩ u).setCell ⟨g, 1, none⟩ v).setCell ⟨g, 2, none⟩ x).heap[h']? = some o := set_other 2 _ (set_other 1 _ (set_other 0 _ hg hne) hne) hne
theorem below3 {w W : World} {g : Nat} {u v x : Value} (h : Below w.heap.size w W) (hg : w.heap.size ≤ g) : Below w.heap.size w (((W.setCell ⟨g, 0, none⟩ u).setCell ⟨g, 1, none⟩ v).setCell ⟨g, 2, none⟩ x) := below_set (below_set (below_set h hg) hg) hg
/-- a row, beside a struct put into its block -/
theorem far3 {d : Kd Int} {e t : Nat} {w : World} {base g : Nat} {v' u v x : Value} {cells : Array Value} {xs : List Int} (h : d.R e w base (fun _ => True) v' xs) (hb : w.heap[g]? = some (.cells cells t (0, 0))) (ht : ∀ q, q ∈ e :: d.E → q ≠ t) : d.R e (((w.setCell ⟨g, 0, none⟩ u).setCell ⟨g, 1, none⟩ v).setCell ⟨g, 2, none⟩ x) base (fun _ => True) v' xs :=
  Kd.R_mono (Kd.R_far (p := ⟨g, 2, none⟩) (Kd.R_far (p := ⟨g, 1, none⟩) (Kd.R_far (p := ⟨g, 0, none⟩) (Kd.R_types h hb ht) (fun _ hk => hk.2) u) (fun _ hk => hk.2) v) (fun _ hk => hk.2) x) (fun _ hk => trivial)
/-- a row's place, where there is one -/
theorem grid_row.at_ {Ao : Option Addr} {g c lo : Nat} (h : Ao = some ⟨g, 0, none⟩) (hlt : lo < c) : grid_row.A Ao c lo = some ⟨g, lo, none⟩ := by
  unfold grid_row.A
  rw [if_neg (by omega), h]
  have e : (⟨g, 0, none⟩ : Addr).add lo = ⟨g, lo, none⟩ := by unfold Addr.add; split <;> simp_all
  simp [e]
def grid_row.L (l : List Int) (a i : Int) : List Int := (l.take (i * a + a).toNat).drop (i * a).toNat
theorem grid_row.len (l : List Int) (a i : Int) (h0 : 0 ≤ i * a) (ha : 0 ≤ a) (hm : i * a + a ≤ l.length) : (grid_row.L l a i).length = a.toNat := by
  unfold grid_row.L
  rw [List.length_drop, List.length_take]; omega
theorem grid_row.C {w : World} {A0 : Option Addr} {c0 : Nat} {l : List Int} (a i : Int) (h : Kd.C (Kd.int .i32) w A0 l.length l) (hc : l.length ≤ c0) (h0 : 0 ≤ i * a) (ha : 0 ≤ a) (hm : i * a + a ≤ l.length) : Kd.C (Kd.int .i32) w (grid_row.A A0 c0 (i * a).toNat) a.toNat (grid_row.L l a i) := by
  have h1 := Kd.C_mid (c := c0) (lo := (i * a).toNat) (hi := (i * a + a).toNat) h (by omega) (by omega) hc
  have h2 := grid_row.len l a i h0 ha hm
  unfold grid_row.L at h2
  rw [h2] at h1
  have e : (i * a).toNat * (Kd.int .i32).sz = (i * a).toNat := Nat.mul_one _
  rw [e] at h1
  exact h1
def grid_row.f (a0 a1 : Int) (l : List Int) (i : Int) : Option (List Int) := if 0 ≤ i ∧ i < 4096 ∧ 0 ≤ a1 ∧ a1 ≤ 4096 ∧ (i + 1) * a1 ≤ l.length then some (grid_row.L l a1 i) else none
theorem grid_row.callsC (a0 a1 : Int) (A0 : Option Addr) (c0 : Nat) (l : List Int) (i : Int) (r : List Int) (w : World) (hr : Kd.C (Kd.int .i32) w A0 l.length l) (hc : l.length ≤ c0) (h : grid_row.f a0 a1 l i = some r) :
    Calls Try.prog 37 #[.agg #[.int .i64 a0, .int .i64 a1, .slice A0 l.length c0], .int .i64 i] w fun e w' => ∃ (Ar : Option Addr) (cr : Nat), e = .returned (.slice Ar r.length cr) ∧ r.length ≤ cr ∧ (∀ W : World, Kd.C (Kd.int .i32) W A0 l.length l → Kd.C (Kd.int .i32) W Ar r.length r) ∧ Below w.heap.size w w' := by
  unfold grid_row.f at h
  by_cases hg : 0 ≤ i ∧ i < 4096 ∧ 0 ≤ a1 ∧ a1 ≤ 4096 ∧ (i + 1) * a1 ≤ l.length
  · rw [if_pos hg] at h
    obtain rfl := Option.some.inj h
    obtain ⟨h0, h1, ha, hb, hm⟩ := hg
    have h3 := Int.mul_nonneg h0 ha
    have hm' : i * a1 + a1 ≤ l.length := by rw [Int.add_mul, Int.one_mul] at hm; exact hm
    have hlen := grid_row.len l a1 i h3 ha hm'
    refine (grid_row.calls a0 a1 A0 c0 l.length i w hc h0 h1 ha hb hm).mono ?_
    rintro e w' ⟨Ar, nr, cr, rfl, hAr, hnr, hcr, hbl⟩
    have e1 : nr = (grid_row.L l a1 i).length := by rw [hlen]; omega
    subst e1
    refine ⟨Ar, cr, rfl, hcr, fun W hW => ?_, hbl⟩
    have := grid_row.C a1 i hW hc h3 ha hm'
    rw [← hlen, ← hAr] at this
    exact this
  · rw [if_neg hg] at h; cases h
end Go.Proofs.Ytggcgacndknlaaa.QGridParts
