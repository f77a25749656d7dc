-- Written by a program of this session (a turned copy of the print) out of the translation. Lean checks it.
import Derived.Test.YtijkcjlkfjeedaaQSliceOwnsx0
namespace Go.Proofs.Ytijkcjlkfjeedaa.QSliceOwns
open Go.RowKit Go.Proofs.YtijkcjlkfjeedaaW.PrintWords Go.Proofs.YtijkcjlkfjeedaaW.PrintLast Go.Proofs.YtijkcjlkfjeedaaW.PrintMore
attribute [local go_sem] max2_int min2_int max_two min_two max_three min_three max_four min_four   -- for this text's walks alone
open Go.Proofs.YtijkcjlkfjeedaaW.PrintWords renaming below_alloc → b_a, pw_below_drewN → b_n, below_drew1 → b_d, below_set → b_s, blk_drewN → k_n, blk_drew → k_d, blk_alloc → k_a
open List renaming setIfInBounds_toArray → l_1, set_cons_zero → l_2, set_cons_succ → l_3, map_toArray → l_4, map_cons → l_5, map_nil → l_6, length_drop → l_7, length_take → l_8
set_option linter.unusedVariables false
set_option linter.unusedSimpArgs false

/-! ### weight_in: function 26 -/
def weight_in.f (a0 : Int) (a1 : Int) (a2 : Int) : Option (Bool) := if a0 ≥ a1 then (some (decide (a0 ≤ a2))) else (some false)
set_option maxHeartbeats 60000000 in
set_option maxRecDepth 100000 in
theorem weight_in.calls (a0 : Int) (a1 : Int) (a2 : Int) (r : Bool) (w : World) (h : weight_in.f a0 a1 a2 = some r) :
  Calls Try.prog 26 #[.int .i64 a0, .int .i64 a1, .int .i64 a2] w fun e w' => e = .returned (.bool r) ∧ Drawn0 w w' := by
 have H : (if a0 ≥ a1 then (some (decide (a0 ≤ a2))) else (some false)) = some r := h
 clear h
 by_cases c4 : a0 ≥ a1
 ·
  rw [if_pos c4] at H
  have c4b0 : decide (a1 ≤ a0) = true := decide_eq_true c4
  clear c4
  obtain rfl := Option.some.inj H
  go_enter Try.func26, Try.ntmps26
  go_wp2
  go_ret
  exact ⟨by first | rfl | (simp; done) | (simp [*]; done), by repeat (first | exact Drawn0.refl _ | apply Drawn0.step)⟩
 rw [if_neg c4] at H
 have c4b0 : decide (a1 ≤ a0) = false := decide_eq_false c4
 clear c4
 obtain rfl := Option.some.inj H
 go_enter Try.func26, Try.ntmps26
 go_wp2
 go_ret
 exact ⟨by first | rfl | (simp; done) | (simp [*]; done), by repeat (first | exact Drawn0.refl _ | apply Drawn0.step)⟩

/-! ### weight_Right: function 22 -/
def weight_Right.f (a0_0 : Int) (a0_1 : Int) (a0_2 : Int) (a0_3 : Int) (a0_4 : Int) (a0_5 : Int) : Option (Bool) := (weight_in.f a0_0 1 16).bind fun t102 => (if t102 = true then ((weight_in.f a0_2 1 16).bind fun t103 => (if t103 = true then ((weight_in.f a0_1 2 128).bind fun t104 => (if t104 = true then (if (wrap64 (2 * a0_2)) = 0 then (none) else (if (Int.tmod a0_1 (wrap64 (2 * a0_2))) = 0 then ((weight_in.f a0_3 1 256).bind fun t105 => (if t105 = true then ((weight_in.f a0_4 1 512).bind fun t106 => (if t106 = true then ((weight_in.f a0_5 1 256).bind fun t107 => (some t107)) else (some false))) else (some false))) else (some false))) else (some false))) else (some false))) else (some false))
set_option maxHeartbeats 60000000 in
set_option maxRecDepth 100000 in
theorem weight_Right.calls (a0_0 : Int) (a0_1 : Int) (a0_2 : Int) (a0_3 : Int) (a0_4 : Int) (a0_5 : Int) (r : Bool) (w : World) (h : weight_Right.f a0_0 a0_1 a0_2 a0_3 a0_4 a0_5 = some r) :
  Calls Try.prog 22 #[.agg #[.int .i64 a0_0, .int .i64 a0_1, .int .i64 a0_2, .int .i64 a0_3, .int .i64 a0_4, .int .i64 a0_5]] w fun e w' => e = .returned (.bool r) ∧ Below w.heap.size w w' := by
 have hu23 := Try.underlying23
 have HB := Aside0.mk (Below.refl w.heap.size w)
 have H : ((weight_in.f a0_0 1 16).bind fun t102 => (if t102 = true then ((weight_in.f a0_2 1 16).bind fun t103 => (if t103 = true then ((weight_in.f a0_1 2 128).bind fun t104 => (if t104 = true then (if (wrap64 (2 * a0_2)) = 0 then (none) else (if (Int.tmod a0_1 (wrap64 (2 * a0_2))) = 0 then ((weight_in.f a0_3 1 256).bind fun t105 => (if t105 = true then ((weight_in.f a0_4 1 512).bind fun t106 => (if t106 = true then ((weight_in.f a0_5 1 256).bind fun t107 => (some t107)) else (some false))) else (some false))) else (some false))) else (some false))) else (some false))) else (some false))) = some r := h
 clear h
 replace H := Option.bind_eq_some_iff.mp H
 obtain ⟨t102, A20, H⟩ := H
 replace H : (if t102 = true then ((weight_in.f a0_2 1 16).bind fun t103 => (if t103 = true then ((weight_in.f a0_1 2 128).bind fun t104 => (if t104 = true then (if (wrap64 (2 * a0_2)) = 0 then (none) else (if (Int.tmod a0_1 (wrap64 (2 * a0_2))) = 0 then ((weight_in.f a0_3 1 256).bind fun t105 => (if t105 = true then ((weight_in.f a0_4 1 512).bind fun t106 => (if t106 = true then ((weight_in.f a0_5 1 256).bind fun t107 => (some t107)) else (some false))) else (some false))) else (some false))) else (some false))) else (some false))) else (some false)) = some r := H
 have A2 := Aside0.mk A20
 clear A20
 by_cases c3 : t102 = true
 rotate_left
 ·
  replace c3 := Bool.eq_false_iff.mpr c3
  subst c3
  have H1 : (some false) = some r := by rw [if_neg (show ¬ (false = true) by decide)] at H; exact H
  clear H
  have H := H1
  clear H1
  obtain rfl := Option.some.inj H
  go_enter Try.func22, Try.ntmps22
  go_wp2_with (first | ((with_reducible refine gate_dst (N := 1) rfl ?_); refine box_event ?hg (N := 1) ?hd (cs := #[.int .i64 a0_0, .int .i64 a0_1, .int .i64 a0_2, .int .i64 a0_3, .int .i64 a0_4, .int .i64 a0_5]) (t := 23) ?hr ?_; (case hd => rfl); (case hg => rfl); (case hr => first | (go_simp; done) | (go_simp; rfl)); intro gb101 hg w27 hbox hb; have BK101 := Aside0.mk (hbox); have GW101 := Aside0.mk ((by rw [hg]; exact (below_size (bw_ HB)) : w.heap.size ≤ gb101)); have GE101 := Aside0.mk ((by rw [hg]; exact (below_size (bw_ HB)) : w.heap.size ≤ gb101)); replace HB := Aside0.mk (below_step (bw_ HB) hb); clear hb hbox hg; have hcz28_0 := bc_0 BK101; have hcz28_1 := bc_1 BK101; have hcz28_2 := bc_2 BK101; have hcz28_3 := bc_3 BK101; have hcz28_4 := bc_4 BK101; have hcz28_5 := bc_5 BK101; have hfz28_0 := blk_frozen BK101.out 0; have hfz28_1 := blk_frozen BK101.out 1; have hfz28_2 := blk_frozen BK101.out 2; have hfz28_3 := blk_frozen BK101.out 3; have hfz28_4 := blk_frozen BK101.out 4; have hfz28_5 := blk_frozen BK101.out 5) | ((with_reducible refine gate_callee (f := 26) rfl ?_); refine goesL_ (some 5) rfl rfl Try.func26 (by kernel_rfl) rfl #[.int .i64 a0_0, .int .i64 1, .int .i64 16] rfl (by (try simp only [l_4, l_5, l_6]); first | done | rfl | (simp only [l_7, l_8]; rfl)) ?_; (with_reducible refine (weight_in.calls a0_0 1 16 false _ A2.out).mono ?_); rintro e w' ⟨rfl, ⟨nd, rfl⟩⟩; refine ⟨_, rfl, ?_⟩))
  go_ret
  exact ⟨by first | rfl | (simp [errW_none, errW_some] <;> rfl) | (simp [*, errW_none, errW_some] <;> rfl), by repeat (first | (with_reducible first | exact HB.out | apply b_a | apply b_n | apply b_d | refine b_s ?_ GE101.out) | exact HB.out)⟩

 subst c3
 have H1 : ((weight_in.f a0_2 1 16).bind fun t103 => (if t103 = true then ((weight_in.f a0_1 2 128).bind fun t104 => (if t104 = true then (if (wrap64 (2 * a0_2)) = 0 then (none) else (if (Int.tmod a0_1 (wrap64 (2 * a0_2))) = 0 then ((weight_in.f a0_3 1 256).bind fun t105 => (if t105 = true then ((weight_in.f a0_4 1 512).bind fun t106 => (if t106 = true then ((weight_in.f a0_5 1 256).bind fun t107 => (some t107)) else (some false))) else (some false))) else (some false))) else (some false))) else (some false))) = some r := by rw [if_pos rfl] at H; exact H
 clear H
 have H := H1
 clear H1
 replace H := Option.bind_eq_some_iff.mp H
 obtain ⟨t103, A40, H⟩ := H
 replace H : (if t103 = true then ((weight_in.f a0_1 2 128).bind fun t104 => (if t104 = true then (if (wrap64 (2 * a0_2)) = 0 then (none) else (if (Int.tmod a0_1 (wrap64 (2 * a0_2))) = 0 then ((weight_in.f a0_3 1 256).bind fun t105 => (if t105 = true then ((weight_in.f a0_4 1 512).bind fun t106 => (if t106 = true then ((weight_in.f a0_5 1 256).bind fun t107 => (some t107)) else (some false))) else (some false))) else (some false))) else (some false))) else (some false)) = some r := H
 have A4 := Aside0.mk A40
 clear A40
 by_cases c5 : t103 = true
 rotate_left
 ·
  replace c5 := Bool.eq_false_iff.mpr c5
  subst c5
  have H1 : (some false) = some r := by rw [if_neg (show ¬ (false = true) by decide)] at H; exact H
  clear H
  have H := H1
  clear H1
  obtain rfl := Option.some.inj H
  go_enter Try.func22, Try.ntmps22
  go_wp2_with (first | ((with_reducible refine gate_dst (N := 1) rfl ?_); refine box_event ?hg (N := 1) ?hd (cs := #[.int .i64 a0_0, .int .i64 a0_1, .int .i64 a0_2, .int .i64 a0_3, .int .i64 a0_4, .int .i64 a0_5]) (t := 23) ?hr ?_; (case hd => rfl); (case hg => rfl); (case hr => first | (go_simp; done) | (go_simp; rfl)); intro gb101 hg w25 hbox hb; have BK101 := Aside0.mk (hbox); have GW101 := Aside0.mk ((by rw [hg]; exact (below_size (bw_ HB)) : w.heap.size ≤ gb101)); have GE101 := Aside0.mk ((by rw [hg]; exact (below_size (bw_ HB)) : w.heap.size ≤ gb101)); replace HB := Aside0.mk (below_step (bw_ HB) hb); clear hb hbox hg; have hcz26_0 := bc_0 BK101; have hcz26_1 := bc_1 BK101; have hcz26_2 := bc_2 BK101; have hcz26_3 := bc_3 BK101; have hcz26_4 := bc_4 BK101; have hcz26_5 := bc_5 BK101; have hfz26_0 := blk_frozen BK101.out 0; have hfz26_1 := blk_frozen BK101.out 1; have hfz26_2 := blk_frozen BK101.out 2; have hfz26_3 := blk_frozen BK101.out 3; have hfz26_4 := blk_frozen BK101.out 4; have hfz26_5 := blk_frozen BK101.out 5) | ((with_reducible refine gate_callee (f := 26) rfl ?_); refine goesL_ (some 5) rfl rfl Try.func26 (by kernel_rfl) rfl #[.int .i64 a0_0, .int .i64 1, .int .i64 16] rfl (by (try simp only [l_4, l_5, l_6]); first | done | rfl | (simp only [l_7, l_8]; rfl)) ?_; (with_reducible refine (weight_in.calls a0_0 1 16 true _ A2.out).mono ?_); rintro e w' ⟨rfl, ⟨nd, rfl⟩⟩; refine ⟨_, rfl, ?_⟩) | (go_at_call 26; (with_reducible refine (weight_in.calls a0_2 1 16 false _ A4.out).mono ?_); rintro e w' ⟨rfl, ⟨nd, rfl⟩⟩))
  go_ret
  exact ⟨by first | rfl | (simp [errW_none, errW_some] <;> rfl) | (simp [*, errW_none, errW_some] <;> rfl), by repeat (first | (with_reducible first | exact HB.out | apply b_a | apply b_n | apply b_d | refine b_s ?_ GE101.out) | exact HB.out)⟩
 subst c5
 have H1 : ((weight_in.f a0_1 2 128).bind fun t104 => (if t104 = true then (if (wrap64 (2 * a0_2)) = 0 then (none) else (if (Int.tmod a0_1 (wrap64 (2 * a0_2))) = 0 then ((weight_in.f a0_3 1 256).bind fun t105 => (if t105 = true then ((weight_in.f a0_4 1 512).bind fun t106 => (if t106 = true then ((weight_in.f a0_5 1 256).bind fun t107 => (some t107)) else (some false))) else (some false))) else (some false))) else (some false))) = some r := by rw [if_pos rfl] at H; exact H
 clear H
 have H := H1
 clear H1
 replace H := Option.bind_eq_some_iff.mp H
 obtain ⟨t104, A60, H⟩ := H
 replace H : (if t104 = true then (if (wrap64 (2 * a0_2)) = 0 then (none) else (if (Int.tmod a0_1 (wrap64 (2 * a0_2))) = 0 then ((weight_in.f a0_3 1 256).bind fun t105 => (if t105 = true then ((weight_in.f a0_4 1 512).bind fun t106 => (if t106 = true then ((weight_in.f a0_5 1 256).bind fun t107 => (some t107)) else (some false))) else (some false))) else (some false))) else (some false)) = some r := H
 have A6 := Aside0.mk A60
 clear A60
 by_cases c7 : t104 = true
 rotate_left
 ·
  replace c7 := Bool.eq_false_iff.mpr c7
  subst c7
  have H1 : (some false) = some r := by rw [if_neg (show ¬ (false = true) by decide)] at H; exact H
  clear H
  have H := H1
  clear H1
  obtain rfl := Option.some.inj H
  go_enter Try.func22, Try.ntmps22
  go_wp2_with (first | ((with_reducible refine gate_dst (N := 1) rfl ?_); refine box_event ?hg (N := 1) ?hd (cs := #[.int .i64 a0_0, .int .i64 a0_1, .int .i64 a0_2, .int .i64 a0_3, .int .i64 a0_4, .int .i64 a0_5]) (t := 23) ?hr ?_; (case hd => rfl); (case hg => rfl); (case hr => first | (go_simp; done) | (go_simp; rfl)); intro gb101 hg w23 hbox hb; have BK101 := Aside0.mk (hbox); have GW101 := Aside0.mk ((by rw [hg]; exact (below_size (bw_ HB)) : w.heap.size ≤ gb101)); have GE101 := Aside0.mk ((by rw [hg]; exact (below_size (bw_ HB)) : w.heap.size ≤ gb101)); replace HB := Aside0.mk (below_step (bw_ HB) hb); clear hb hbox hg; have hcz24_0 := bc_0 BK101; have hcz24_1 := bc_1 BK101; have hcz24_2 := bc_2 BK101; have hcz24_3 := bc_3 BK101; have hcz24_4 := bc_4 BK101; have hcz24_5 := bc_5 BK101; have hfz24_0 := blk_frozen BK101.out 0; have hfz24_1 := blk_frozen BK101.out 1; have hfz24_2 := blk_frozen BK101.out 2; have hfz24_3 := blk_frozen BK101.out 3; have hfz24_4 := blk_frozen BK101.out 4; have hfz24_5 := blk_frozen BK101.out 5) | ((with_reducible refine gate_callee (f := 26) rfl ?_); refine goesL_ (some 5) rfl rfl Try.func26 (by kernel_rfl) rfl #[.int .i64 a0_0, .int .i64 1, .int .i64 16] rfl (by (try simp only [l_4, l_5, l_6]); first | done | rfl | (simp only [l_7, l_8]; rfl)) ?_; (with_reducible refine (weight_in.calls a0_0 1 16 true _ A2.out).mono ?_); rintro e w' ⟨rfl, ⟨nd, rfl⟩⟩; refine ⟨_, rfl, ?_⟩) | (go_at_call 26; (with_reducible refine (weight_in.calls a0_2 1 16 true _ A4.out).mono ?_); rintro e w' ⟨rfl, ⟨nd, rfl⟩⟩) | (go_at_call 26; (with_reducible refine (weight_in.calls a0_1 2 128 false _ A6.out).mono ?_); rintro e w' ⟨rfl, ⟨nd, rfl⟩⟩))
  go_ret
  exact ⟨by first | rfl | (simp [errW_none, errW_some] <;> rfl) | (simp [*, errW_none, errW_some] <;> rfl), by repeat (first | (with_reducible first | exact HB.out | apply b_a | apply b_n | apply b_d | refine b_s ?_ GE101.out) | exact HB.out)⟩
 subst c7
 have H1 : (if (wrap64 (2 * a0_2)) = 0 then (none) else (if (Int.tmod a0_1 (wrap64 (2 * a0_2))) = 0 then ((weight_in.f a0_3 1 256).bind fun t105 => (if t105 = true then ((weight_in.f a0_4 1 512).bind fun t106 => (if t106 = true then ((weight_in.f a0_5 1 256).bind fun t107 => (some t107)) else (some false))) else (some false))) else (some false))) = some r := by rw [if_pos rfl] at H; exact H
 clear H
 have H := H1
 clear H1
 by_cases c8 : (wrap64 (2 * a0_2)) = 0
 ·
  rw [if_pos c8] at H
  exact absurd H (by simp)
 rw [if_neg c8] at H
 have c8b0 : ((wrap64 (2 * a0_2)) == 0) = false := beq_eq_false_iff_ne.mpr c8
 have c8b1 : ((wrap64 (2 * a0_2)) != 0) = true := bne_iff_ne.mpr c8
 by_cases c9 : (Int.tmod a0_1 (wrap64 (2 * a0_2))) = 0
 rotate_left
 ·
  rw [if_neg c9] at H
  have c9b0 : ((Int.tmod a0_1 (wrap64 (2 * a0_2))) == 0) = false := beq_eq_false_iff_ne.mpr c9
  have c9b1 : ((Int.tmod a0_1 (wrap64 (2 * a0_2))) != 0) = true := bne_iff_ne.mpr c9
  obtain rfl := Option.some.inj H
  go_enter Try.func22, Try.ntmps22
  go_wp2_with (first | ((with_reducible refine gate_dst (N := 1) rfl ?_); refine box_event ?hg (N := 1) ?hd (cs := #[.int .i64 a0_0, .int .i64 a0_1, .int .i64 a0_2, .int .i64 a0_3, .int .i64 a0_4, .int .i64 a0_5]) (t := 23) ?hr ?_; (case hd => rfl); (case hg => rfl); (case hr => first | (go_simp; done) | (go_simp; rfl)); intro gb101 hg w21 hbox hb; have BK101 := Aside0.mk (hbox); have GW101 := Aside0.mk ((by rw [hg]; exact (below_size (bw_ HB)) : w.heap.size ≤ gb101)); have GE101 := Aside0.mk ((by rw [hg]; exact (below_size (bw_ HB)) : w.heap.size ≤ gb101)); replace HB := Aside0.mk (below_step (bw_ HB) hb); clear hb hbox hg; have hcz22_0 := bc_0 BK101; have hcz22_1 := bc_1 BK101; have hcz22_2 := bc_2 BK101; have hcz22_3 := bc_3 BK101; have hcz22_4 := bc_4 BK101; have hcz22_5 := bc_5 BK101; have hfz22_0 := blk_frozen BK101.out 0; have hfz22_1 := blk_frozen BK101.out 1; have hfz22_2 := blk_frozen BK101.out 2; have hfz22_3 := blk_frozen BK101.out 3; have hfz22_4 := blk_frozen BK101.out 4; have hfz22_5 := blk_frozen BK101.out 5) | ((with_reducible refine gate_callee (f := 26) rfl ?_); refine goesL_ (some 5) rfl rfl Try.func26 (by kernel_rfl) rfl #[.int .i64 a0_0, .int .i64 1, .int .i64 16] rfl (by (try simp only [l_4, l_5, l_6]); first | done | rfl | (simp only [l_7, l_8]; rfl)) ?_; (with_reducible refine (weight_in.calls a0_0 1 16 true _ A2.out).mono ?_); rintro e w' ⟨rfl, ⟨nd, rfl⟩⟩; refine ⟨_, rfl, ?_⟩) | (go_at_call 26; (with_reducible refine (weight_in.calls a0_2 1 16 true _ A4.out).mono ?_); rintro e w' ⟨rfl, ⟨nd, rfl⟩⟩) | (go_at_call 26; (with_reducible refine (weight_in.calls a0_1 2 128 true _ A6.out).mono ?_); rintro e w' ⟨rfl, ⟨nd, rfl⟩⟩))
  go_ret
  exact ⟨by first | rfl | (simp [errW_none, errW_some] <;> rfl) | (simp [*, errW_none, errW_some] <;> rfl), by repeat (first | (with_reducible first | exact HB.out | apply b_a | apply b_n | apply b_d | refine b_s ?_ GE101.out) | exact HB.out)⟩
 rw [if_pos c9] at H
 have c9b0 : ((Int.tmod a0_1 (wrap64 (2 * a0_2))) == 0) = true := beq_iff_eq.mpr c9
 have c9b1 : ((Int.tmod a0_1 (wrap64 (2 * a0_2))) != 0) = false := bne_eq_false_iff_eq.mpr c9
 clear c9
 replace H := Option.bind_eq_some_iff.mp H
 obtain ⟨t105, A100, H⟩ := H
 replace H : (if t105 = true then ((weight_in.f a0_4 1 512).bind fun t106 => (if t106 = true then ((weight_in.f a0_5 1 256).bind fun t107 => (some t107)) else (some false))) else (some false)) = some r := H
 have A10 := Aside0.mk A100
 clear A100
 by_cases c11 : t105 = true
 rotate_left
 ·
  replace c11 := Bool.eq_false_iff.mpr c11
  subst c11
  have H1 : (some false) = some r := by rw [if_neg (show ¬ (false = true) by decide)] at H; exact H
  clear H
  have H := H1
  clear H1
  obtain rfl := Option.some.inj H
  go_enter Try.func22, Try.ntmps22
  go_wp2_with (first | ((with_reducible refine gate_dst (N := 1) rfl ?_); refine box_event ?hg (N := 1) ?hd (cs := #[.int .i64 a0_0, .int .i64 a0_1, .int .i64 a0_2, .int .i64 a0_3, .int .i64 a0_4, .int .i64 a0_5]) (t := 23) ?hr ?_; (case hd => rfl); (case hg => rfl); (case hr => first | (go_simp; done) | (go_simp; rfl)); intro gb101 hg w19 hbox hb; have BK101 := Aside0.mk (hbox); have GW101 := Aside0.mk ((by rw [hg]; exact (below_size (bw_ HB)) : w.heap.size ≤ gb101)); have GE101 := Aside0.mk ((by rw [hg]; exact (below_size (bw_ HB)) : w.heap.size ≤ gb101)); replace HB := Aside0.mk (below_step (bw_ HB) hb); clear hb hbox hg; have hcz20_0 := bc_0 BK101; have hcz20_1 := bc_1 BK101; have hcz20_2 := bc_2 BK101; have hcz20_3 := bc_3 BK101; have hcz20_4 := bc_4 BK101; have hcz20_5 := bc_5 BK101; have hfz20_0 := blk_frozen BK101.out 0; have hfz20_1 := blk_frozen BK101.out 1; have hfz20_2 := blk_frozen BK101.out 2; have hfz20_3 := blk_frozen BK101.out 3; have hfz20_4 := blk_frozen BK101.out 4; have hfz20_5 := blk_frozen BK101.out 5) | ((with_reducible refine gate_callee (f := 26) rfl ?_); refine goesL_ (some 5) rfl rfl Try.func26 (by kernel_rfl) rfl #[.int .i64 a0_0, .int .i64 1, .int .i64 16] rfl (by (try simp only [l_4, l_5, l_6]); first | done | rfl | (simp only [l_7, l_8]; rfl)) ?_; (with_reducible refine (weight_in.calls a0_0 1 16 true _ A2.out).mono ?_); rintro e w' ⟨rfl, ⟨nd, rfl⟩⟩; refine ⟨_, rfl, ?_⟩) | (go_at_call 26; (with_reducible refine (weight_in.calls a0_2 1 16 true _ A4.out).mono ?_); rintro e w' ⟨rfl, ⟨nd, rfl⟩⟩) | (go_at_call 26; (with_reducible refine (weight_in.calls a0_1 2 128 true _ A6.out).mono ?_); rintro e w' ⟨rfl, ⟨nd, rfl⟩⟩) | (go_at_call 26; (with_reducible refine (weight_in.calls a0_3 1 256 false _ A10.out).mono ?_); rintro e w' ⟨rfl, ⟨nd, rfl⟩⟩))
  go_ret
  exact ⟨by first | rfl | (simp [errW_none, errW_some] <;> rfl) | (simp [*, errW_none, errW_some] <;> rfl), by repeat (first | (with_reducible first | exact HB.out | apply b_a | apply b_n | apply b_d | refine b_s ?_ GE101.out) | exact HB.out)⟩
 subst c11
 have H1 : ((weight_in.f a0_4 1 512).bind fun t106 => (if t106 = true then ((weight_in.f a0_5 1 256).bind fun t107 => (some t107)) else (some false))) = some r := by rw [if_pos rfl] at H; exact H
 clear H
 have H := H1
 clear H1
 replace H := Option.bind_eq_some_iff.mp H
 obtain ⟨t106, A120, H⟩ := H
 replace H : (if t106 = true then ((weight_in.f a0_5 1 256).bind fun t107 => (some t107)) else (some false)) = some r := H
 have A12 := Aside0.mk A120
 clear A120
 by_cases c13 : t106 = true
 rotate_left
 ·
  replace c13 := Bool.eq_false_iff.mpr c13
  subst c13
  have H1 : (some false) = some r := by rw [if_neg (show ¬ (false = true) by decide)] at H; exact H
  clear H
  have H := H1
  clear H1
  obtain rfl := Option.some.inj H
  go_enter Try.func22, Try.ntmps22
  go_wp2_with (first | ((with_reducible refine gate_dst (N := 1) rfl ?_); refine box_event ?hg (N := 1) ?hd (cs := #[.int .i64 a0_0, .int .i64 a0_1, .int .i64 a0_2, .int .i64 a0_3, .int .i64 a0_4, .int .i64 a0_5]) (t := 23) ?hr ?_; (case hd => rfl); (case hg => rfl); (case hr => first | (go_simp; done) | (go_simp; rfl)); intro gb101 hg w17 hbox hb; have BK101 := Aside0.mk (hbox); have GW101 := Aside0.mk ((by rw [hg]; exact (below_size (bw_ HB)) : w.heap.size ≤ gb101)); have GE101 := Aside0.mk ((by rw [hg]; exact (below_size (bw_ HB)) : w.heap.size ≤ gb101)); replace HB := Aside0.mk (below_step (bw_ HB) hb); clear hb hbox hg; have hcz18_0 := bc_0 BK101; have hcz18_1 := bc_1 BK101; have hcz18_2 := bc_2 BK101; have hcz18_3 := bc_3 BK101; have hcz18_4 := bc_4 BK101; have hcz18_5 := bc_5 BK101; have hfz18_0 := blk_frozen BK101.out 0; have hfz18_1 := blk_frozen BK101.out 1; have hfz18_2 := blk_frozen BK101.out 2; have hfz18_3 := blk_frozen BK101.out 3; have hfz18_4 := blk_frozen BK101.out 4; have hfz18_5 := blk_frozen BK101.out 5) | ((with_reducible refine gate_callee (f := 26) rfl ?_); refine goesL_ (some 5) rfl rfl Try.func26 (by kernel_rfl) rfl #[.int .i64 a0_0, .int .i64 1, .int .i64 16] rfl (by (try simp only [l_4, l_5, l_6]); first | done | rfl | (simp only [l_7, l_8]; rfl)) ?_; (with_reducible refine (weight_in.calls a0_0 1 16 true _ A2.out).mono ?_); rintro e w' ⟨rfl, ⟨nd, rfl⟩⟩; refine ⟨_, rfl, ?_⟩) | (go_at_call 26; (with_reducible refine (weight_in.calls a0_2 1 16 true _ A4.out).mono ?_); rintro e w' ⟨rfl, ⟨nd, rfl⟩⟩) | (go_at_call 26; (with_reducible refine (weight_in.calls a0_1 2 128 true _ A6.out).mono ?_); rintro e w' ⟨rfl, ⟨nd, rfl⟩⟩) | (go_at_call 26; (with_reducible refine (weight_in.calls a0_3 1 256 true _ A10.out).mono ?_); rintro e w' ⟨rfl, ⟨nd, rfl⟩⟩) | (go_at_call 26; (with_reducible refine (weight_in.calls a0_4 1 512 false _ A12.out).mono ?_); rintro e w' ⟨rfl, ⟨nd, rfl⟩⟩))
  go_ret
  exact ⟨by first | rfl | (simp [errW_none, errW_some] <;> rfl) | (simp [*, errW_none, errW_some] <;> rfl), by repeat (first | (with_reducible first | exact HB.out | apply b_a | apply b_n | apply b_d | refine b_s ?_ GE101.out) | exact HB.out)⟩
 subst c13
 have H1 : ((weight_in.f a0_5 1 256).bind fun t107 => (some t107)) = some r := by rw [if_pos rfl] at H; exact H
 clear H
 have H := H1
 clear H1
 replace H := Option.bind_eq_some_iff.mp H
 obtain ⟨t107, A140, H⟩ := H
 replace H : (some t107) = some r := H
 have A14 := Aside0.mk A140
 clear A140
 obtain rfl := Option.some.inj H
 go_enter Try.func22, Try.ntmps22
 go_wp2_with (first | ((with_reducible refine gate_dst (N := 1) rfl ?_); refine box_event ?hg (N := 1) ?hd (cs := #[.int .i64 a0_0, .int .i64 a0_1, .int .i64 a0_2, .int .i64 a0_3, .int .i64 a0_4, .int .i64 a0_5]) (t := 23) ?hr ?_; (case hd => rfl); (case hg => rfl); (case hr => first | (go_simp; done) | (go_simp; rfl)); intro gb101 hg w15 hbox hb; have BK101 := Aside0.mk (hbox); have GW101 := Aside0.mk ((by rw [hg]; exact (below_size (bw_ HB)) : w.heap.size ≤ gb101)); have GE101 := Aside0.mk ((by rw [hg]; exact (below_size (bw_ HB)) : w.heap.size ≤ gb101)); replace HB := Aside0.mk (below_step (bw_ HB) hb); clear hb hbox hg; have hcz16_0 := bc_0 BK101; have hcz16_1 := bc_1 BK101; have hcz16_2 := bc_2 BK101; have hcz16_3 := bc_3 BK101; have hcz16_4 := bc_4 BK101; have hcz16_5 := bc_5 BK101; have hfz16_0 := blk_frozen BK101.out 0; have hfz16_1 := blk_frozen BK101.out 1; have hfz16_2 := blk_frozen BK101.out 2; have hfz16_3 := blk_frozen BK101.out 3; have hfz16_4 := blk_frozen BK101.out 4; have hfz16_5 := blk_frozen BK101.out 5) | ((with_reducible refine gate_callee (f := 26) rfl ?_); refine goesL_ (some 5) rfl rfl Try.func26 (by kernel_rfl) rfl #[.int .i64 a0_0, .int .i64 1, .int .i64 16] rfl (by (try simp only [l_4, l_5, l_6]); first | done | rfl | (simp only [l_7, l_8]; rfl)) ?_; (with_reducible refine (weight_in.calls a0_0 1 16 true _ A2.out).mono ?_); rintro e w' ⟨rfl, ⟨nd, rfl⟩⟩; refine ⟨_, rfl, ?_⟩) | (go_at_call 26; (with_reducible refine (weight_in.calls a0_2 1 16 true _ A4.out).mono ?_); rintro e w' ⟨rfl, ⟨nd, rfl⟩⟩) | (go_at_call 26; (with_reducible refine (weight_in.calls a0_1 2 128 true _ A6.out).mono ?_); rintro e w' ⟨rfl, ⟨nd, rfl⟩⟩) | (go_at_call 26; (with_reducible refine (weight_in.calls a0_3 1 256 true _ A10.out).mono ?_); rintro e w' ⟨rfl, ⟨nd, rfl⟩⟩) | (go_at_call 26; (with_reducible refine (weight_in.calls a0_4 1 512 true _ A12.out).mono ?_); rintro e w' ⟨rfl, ⟨nd, rfl⟩⟩) | (go_at_call 26; (with_reducible refine (weight_in.calls a0_5 1 256 t107 _ A14.out).mono ?_); rintro e w' ⟨rfl, ⟨nd, rfl⟩⟩))
 go_ret
 exact ⟨by first | rfl | (simp [errW_none, errW_some] <;> rfl) | (simp [*, errW_none, errW_some] <;> rfl), by repeat (first | (with_reducible first | exact HB.out | apply b_a | apply b_n | apply b_d | refine b_s ?_ GE101.out) | exact HB.out)⟩
/-! ### slice_fits: function 23 -/
def slice_fits.f (a0_0 : Int) (a0_1 : Int) : Option (Bool) := if a0_0 ≥ 1 then (if a0_0 ≤ 64 then (if a0_1 ≥ 1 then (some (decide (a0_1 ≤ 64))) else (some false)) else (some false)) else (some false)
set_option maxHeartbeats 60000000 in
set_option maxRecDepth 100000 in
theorem slice_fits.calls (a0_0 : Int) (a0_1 : Int) (r : Bool) (w : World) (h : slice_fits.f a0_0 a0_1 = some r) :
  Calls Try.prog 23 #[.agg #[.int .i64 a0_0, .int .i64 a0_1]] w fun e w' => e = .returned (.bool r) ∧ Below w.heap.size w w' := by
 have hu25 := Try.underlying25
 have HB := Aside0.mk (Below.refl w.heap.size w)
 have H : (if a0_0 ≥ 1 then (if a0_0 ≤ 64 then (if a0_1 ≥ 1 then (some (decide (a0_1 ≤ 64))) else (some false)) else (some false)) else (some false)) = some r := h
 clear h
 by_cases c2 : a0_0 ≥ 1
 rotate_left
 ·
  rw [if_neg c2] at H
  have c2b0 : decide (1 ≤ a0_0) = false := decide_eq_false c2
  clear c2
  obtain rfl := Option.some.inj H
  go_enter Try.func23, Try.ntmps23
  go_wp2_with (first | ((with_reducible refine gate_dst (N := 1) rfl ?_); refine box_event ?hg (N := 1) ?hd (cs := #[.int .i64 a0_0, .int .i64 a0_1]) (t := 25) ?hr ?_; (case hd => rfl); (case hg => rfl); (case hr => first | (go_simp; done) | (go_simp; rfl)); intro gb108 hg w11 hbox hb; have BK108 := Aside0.mk (hbox); have GW108 := Aside0.mk ((by rw [hg]; exact (below_size (bw_ HB)) : w.heap.size ≤ gb108)); have GE108 := Aside0.mk ((by rw [hg]; exact (below_size (bw_ HB)) : w.heap.size ≤ gb108)); replace HB := Aside0.mk (below_step (bw_ HB) hb); clear hb hbox hg; have hcz12_0 := bc_0 BK108; have hcz12_1 := bc_1 BK108; have hfz12_0 := blk_frozen BK108.out 0; have hfz12_1 := blk_frozen BK108.out 1))
  go_ret
  exact ⟨by first | rfl | (simp [errW_none, errW_some] <;> rfl) | (simp [*, errW_none, errW_some] <;> rfl), by repeat (first | (with_reducible first | exact HB.out | apply b_a | apply b_n | apply b_d | refine b_s ?_ GE108.out) | exact HB.out)⟩

 rw [if_pos c2] at H
 have c2b0 : decide (1 ≤ a0_0) = true := decide_eq_true c2
 clear c2
 by_cases c3 : a0_0 ≤ 64
 rotate_left
 ·
  rw [if_neg c3] at H
  have c3b0 : decide (a0_0 ≤ 64) = false := decide_eq_false c3
  clear c3
  obtain rfl := Option.some.inj H
  go_enter Try.func23, Try.ntmps23
  go_wp2_with (first | ((with_reducible refine gate_dst (N := 1) rfl ?_); refine box_event ?hg (N := 1) ?hd (cs := #[.int .i64 a0_0, .int .i64 a0_1]) (t := 25) ?hr ?_; (case hd => rfl); (case hg => rfl); (case hr => first | (go_simp; done) | (go_simp; rfl)); intro gb108 hg w9 hbox hb; have BK108 := Aside0.mk (hbox); have GW108 := Aside0.mk ((by rw [hg]; exact (below_size (bw_ HB)) : w.heap.size ≤ gb108)); have GE108 := Aside0.mk ((by rw [hg]; exact (below_size (bw_ HB)) : w.heap.size ≤ gb108)); replace HB := Aside0.mk (below_step (bw_ HB) hb); clear hb hbox hg; have hcz10_0 := bc_0 BK108; have hcz10_1 := bc_1 BK108; have hfz10_0 := blk_frozen BK108.out 0; have hfz10_1 := blk_frozen BK108.out 1))
  go_ret
  exact ⟨by first | rfl | (simp [errW_none, errW_some] <;> rfl) | (simp [*, errW_none, errW_some] <;> rfl), by repeat (first | (with_reducible first | exact HB.out | apply b_a | apply b_n | apply b_d | refine b_s ?_ GE108.out) | exact HB.out)⟩
 rw [if_pos c3] at H
 have c3b0 : decide (a0_0 ≤ 64) = true := decide_eq_true c3
 clear c3
 by_cases c4 : a0_1 ≥ 1
 ·
  rw [if_pos c4] at H
  have c4b0 : decide (1 ≤ a0_1) = true := decide_eq_true c4
  clear c4
  obtain rfl := Option.some.inj H
  go_enter Try.func23, Try.ntmps23
  go_wp2_with (first | ((with_reducible refine gate_dst (N := 1) rfl ?_); refine box_event ?hg (N := 1) ?hd (cs := #[.int .i64 a0_0, .int .i64 a0_1]) (t := 25) ?hr ?_; (case hd => rfl); (case hg => rfl); (case hr => first | (go_simp; done) | (go_simp; rfl)); intro gb108 hg w5 hbox hb; have BK108 := Aside0.mk (hbox); have GW108 := Aside0.mk ((by rw [hg]; exact (below_size (bw_ HB)) : w.heap.size ≤ gb108)); have GE108 := Aside0.mk ((by rw [hg]; exact (below_size (bw_ HB)) : w.heap.size ≤ gb108)); replace HB := Aside0.mk (below_step (bw_ HB) hb); clear hb hbox hg; have hcz6_0 := bc_0 BK108; have hcz6_1 := bc_1 BK108; have hfz6_0 := blk_frozen BK108.out 0; have hfz6_1 := blk_frozen BK108.out 1))
  go_ret
  exact ⟨by first | rfl | (simp [errW_none, errW_some] <;> rfl) | (simp [*, errW_none, errW_some] <;> rfl), by repeat (first | (with_reducible first | exact HB.out | apply b_a | apply b_n | apply b_d | refine b_s ?_ GE108.out) | exact HB.out)⟩
 rw [if_neg c4] at H
 have c4b0 : decide (1 ≤ a0_1) = false := decide_eq_false c4
 clear c4
 obtain rfl := Option.some.inj H
 go_enter Try.func23, Try.ntmps23
 go_wp2_with (first | ((with_reducible refine gate_dst (N := 1) rfl ?_); refine box_event ?hg (N := 1) ?hd (cs := #[.int .i64 a0_0, .int .i64 a0_1]) (t := 25) ?hr ?_; (case hd => rfl); (case hg => rfl); (case hr => first | (go_simp; done) | (go_simp; rfl)); intro gb108 hg w7 hbox hb; have BK108 := Aside0.mk (hbox); have GW108 := Aside0.mk ((by rw [hg]; exact (below_size (bw_ HB)) : w.heap.size ≤ gb108)); have GE108 := Aside0.mk ((by rw [hg]; exact (below_size (bw_ HB)) : w.heap.size ≤ gb108)); replace HB := Aside0.mk (below_step (bw_ HB) hb); clear hb hbox hg; have hcz8_0 := bc_0 BK108; have hcz8_1 := bc_1 BK108; have hfz8_0 := blk_frozen BK108.out 0; have hfz8_1 := blk_frozen BK108.out 1))
 go_ret
 exact ⟨by first | rfl | (simp [errW_none, errW_some] <;> rfl) | (simp [*, errW_none, errW_some] <;> rfl), by repeat (first | (with_reducible first | exact HB.out | apply b_a | apply b_n | apply b_d | refine b_s ?_ GE108.out) | exact HB.out)⟩
/-! ### slice_Right: function 9 -/
def slice_Right.f (a0_0 : Int) (a0_1 : Int) (a0_2 : Int) (a0_3 : Int) (a0_4 : Int) (a0_5 : Int) (a1_0 : Int) (a1_1 : Int) : Option (Bool) := (weight_Right.f a0_0 a0_1 a0_2 a0_3 a0_4 a0_5).bind fun t111 => (if t111 = true then ((slice_fits.f a1_0 a1_1).bind fun t112 => (if t112 = true then (if a1_0 ≤ a0_0 then (if a1_1 = 0 then (none) else (if (Int.tmod a0_2 a1_1) = 0 then (if (Int.tmod a0_3 a1_1) = 0 then (some (decide ((wrap64 (a1_0 * a1_1)) ≤ 64))) else (some false)) else (some false))) else (some false)) else (some false))) else (some false))
set_option maxHeartbeats 60000000 in
set_option maxRecDepth 100000 in
theorem slice_Right.calls (a0_0 : Int) (a0_1 : Int) (a0_2 : Int) (a0_3 : Int) (a0_4 : Int) (a0_5 : Int) (a1_0 : Int) (a1_1 : Int) (r : Bool) (w : World) (h : slice_Right.f a0_0 a0_1 a0_2 a0_3 a0_4 a0_5 a1_0 a1_1 = some r) :
  Calls Try.prog 9 #[.agg #[.int .i64 a0_0, .int .i64 a0_1, .int .i64 a0_2, .int .i64 a0_3, .int .i64 a0_4, .int .i64 a0_5], .agg #[.int .i64 a1_0, .int .i64 a1_1]] w fun e w' => e = .returned (.bool r) ∧ Below w.heap.size w w' := by
 have hu23 := Try.underlying23
 have hu25 := Try.underlying25
 have HB := Aside0.mk (Below.refl w.heap.size w)
 have H : ((weight_Right.f a0_0 a0_1 a0_2 a0_3 a0_4 a0_5).bind fun t111 => (if t111 = true then ((slice_fits.f a1_0 a1_1).bind fun t112 => (if t112 = true then (if a1_0 ≤ a0_0 then (if a1_1 = 0 then (none) else (if (Int.tmod a0_2 a1_1) = 0 then (if (Int.tmod a0_3 a1_1) = 0 then (some (decide ((wrap64 (a1_0 * a1_1)) ≤ 64))) else (some false)) else (some false))) else (some false)) else (some false))) else (some false))) = some r := h
 clear h
 replace H := Option.bind_eq_some_iff.mp H
 obtain ⟨t111, A30, H⟩ := H
 replace H : (if t111 = true then ((slice_fits.f a1_0 a1_1).bind fun t112 => (if t112 = true then (if a1_0 ≤ a0_0 then (if a1_1 = 0 then (none) else (if (Int.tmod a0_2 a1_1) = 0 then (if (Int.tmod a0_3 a1_1) = 0 then (some (decide ((wrap64 (a1_0 * a1_1)) ≤ 64))) else (some false)) else (some false))) else (some false)) else (some false))) else (some false)) = some r := H
 have A3 := Aside0.mk A30
 clear A30
 by_cases c4 : t111 = true
 rotate_left
 ·
  replace c4 := Bool.eq_false_iff.mpr c4
  subst c4
  have H1 : (some false) = some r := by rw [if_neg (show ¬ (false = true) by decide)] at H; exact H
  clear H
  have H := H1
  clear H1
  obtain rfl := Option.some.inj H
  go_enter Try.func9, Try.ntmps9
  go_wp2_with (first | ((with_reducible refine gate_dst (N := 2) rfl ?_); refine box_event ?hg (N := 2) ?hd (cs := #[.int .i64 a0_0, .int .i64 a0_1, .int .i64 a0_2, .int .i64 a0_3, .int .i64 a0_4, .int .i64 a0_5]) (t := 23) ?hr ?_; (case hd => rfl); (case hg => rfl); (case hr => first | (go_simp; done) | (go_simp; rfl)); intro gb109 hg w54 hbox hb; have BK109 := Aside0.mk (hbox); have GW109 := Aside0.mk ((by rw [hg]; exact (below_size (bw_ HB)) : w.heap.size ≤ gb109)); have GE109 := Aside0.mk ((by rw [hg]; exact (below_size (bw_ HB)) : w.heap.size ≤ gb109)); replace HB := Aside0.mk (below_step (bw_ HB) hb); clear hb hbox hg) | ((with_reducible refine gate_dst (N := 3) rfl ?_); refine box_event ?hg (N := 3) ?hd (cs := #[.int .i64 a1_0, .int .i64 a1_1]) (t := 25) ?hr ?_; (case hd => rfl); (case hg => rfl); (case hr => first | (go_simp; done) | (go_simp; rfl)); intro gb110 hg w55 hbox hb; have BK110 := Aside0.mk (hbox); have GW110 := Aside0.mk ((by rw [hg]; exact (below_size (bw_ HB)) : w.heap.size ≤ gb110)); have GE110 := Aside0.mk ((by rw [hg]; exact (below_size (bw_ HB)) : w.heap.size ≤ gb110)); have NB109_110 := Aside0.mk ((by rw [hg]; exact Nat.ne_of_lt (blk_lt (tk_ BK109)) : gb109 ≠ gb110)); have NB110_109 := Aside0.mk ((by rw [hg]; exact Nat.ne_of_gt (blk_lt (tk_ BK109)) : gb110 ≠ gb109)); replace BK109 := Aside0.mk (blk_below (tk_ BK109) hb); replace HB := Aside0.mk (below_step (bw_ HB) hb); clear hb hbox hg; have hnb56 := NB109_110.out; have hnc56 := NB110_109.out; have hcz57_0 := bc_0 BK109; have hcz57_1 := bc_1 BK109; have hcz57_2 := bc_2 BK109; have hcz57_3 := bc_3 BK109; have hcz57_4 := bc_4 BK109; have hcz57_5 := bc_5 BK109; have hfz57_0 := blk_frozen BK109.out 0; have hfz57_1 := blk_frozen BK109.out 1; have hfz57_2 := blk_frozen BK109.out 2; have hfz57_3 := blk_frozen BK109.out 3; have hfz57_4 := blk_frozen BK109.out 4; have hfz57_5 := blk_frozen BK109.out 5) | ((with_reducible refine gate_callee (f := 22) rfl ?_); refine goesL_ (some 6) rfl rfl Try.func22 (by kernel_rfl) rfl #[.agg #[.int .i64 a0_0, .int .i64 a0_1, .int .i64 a0_2, .int .i64 a0_3, .int .i64 a0_4, .int .i64 a0_5]] rfl (by (try simp only [l_4, l_5, l_6]); first | done | rfl | (simp only [l_7, l_8]; rfl)) ?_; (with_reducible refine (weight_Right.calls a0_0 a0_1 a0_2 a0_3 a0_4 a0_5 false _ A3.out).mono ?_); rintro e w58 ⟨rfl, hb⟩; (try clear A3); refine ⟨_, rfl, ?_⟩; replace BK109 := Aside0.mk (blk_below (tk_ BK109) hb); replace BK110 := Aside0.mk (blk_below (tk_ BK110) hb); replace HB := Aside0.mk (below_step (bw_ HB) hb); (try clear hb); (try clear hb2); (try clear hk); (try clear hi)))
  go_ret
  exact ⟨by first | rfl | (simp [errW_none, errW_some] <;> rfl) | (simp [*, errW_none, errW_some] <;> rfl), by repeat (first | (with_reducible first | exact HB.out | apply b_a | apply b_n | apply b_d | refine b_s ?_ GE109.out | refine b_s ?_ GE110.out) | exact HB.out)⟩

 subst c4
 have H1 : ((slice_fits.f a1_0 a1_1).bind fun t112 => (if t112 = true then (if a1_0 ≤ a0_0 then (if a1_1 = 0 then (none) else (if (Int.tmod a0_2 a1_1) = 0 then (if (Int.tmod a0_3 a1_1) = 0 then (some (decide ((wrap64 (a1_0 * a1_1)) ≤ 64))) else (some false)) else (some false))) else (some false)) else (some false))) = some r := by rw [if_pos rfl] at H; exact H
 clear H
 have H := H1
 clear H1
 replace H := Option.bind_eq_some_iff.mp H
 obtain ⟨t112, A50, H⟩ := H
 replace H : (if t112 = true then (if a1_0 ≤ a0_0 then (if a1_1 = 0 then (none) else (if (Int.tmod a0_2 a1_1) = 0 then (if (Int.tmod a0_3 a1_1) = 0 then (some (decide ((wrap64 (a1_0 * a1_1)) ≤ 64))) else (some false)) else (some false))) else (some false)) else (some false)) = some r := H
 have A5 := Aside0.mk A50
 clear A50
 by_cases c6 : t112 = true
 rotate_left
 ·
  replace c6 := Bool.eq_false_iff.mpr c6
  subst c6
  have H1 : (some false) = some r := by rw [if_neg (show ¬ (false = true) by decide)] at H; exact H
  clear H
  have H := H1
  clear H1
  obtain rfl := Option.some.inj H
  go_enter Try.func9, Try.ntmps9
  go_wp2_with (first | ((with_reducible refine gate_dst (N := 2) rfl ?_); refine box_event ?hg (N := 2) ?hd (cs := #[.int .i64 a0_0, .int .i64 a0_1, .int .i64 a0_2, .int .i64 a0_3, .int .i64 a0_4, .int .i64 a0_5]) (t := 23) ?hr ?_; (case hd => rfl); (case hg => rfl); (case hr => first | (go_simp; done) | (go_simp; rfl)); intro gb109 hg w47 hbox hb; have BK109 := Aside0.mk (hbox); have GW109 := Aside0.mk ((by rw [hg]; exact (below_size (bw_ HB)) : w.heap.size ≤ gb109)); have GE109 := Aside0.mk ((by rw [hg]; exact (below_size (bw_ HB)) : w.heap.size ≤ gb109)); replace HB := Aside0.mk (below_step (bw_ HB) hb); clear hb hbox hg) | ((with_reducible refine gate_dst (N := 3) rfl ?_); refine box_event ?hg (N := 3) ?hd (cs := #[.int .i64 a1_0, .int .i64 a1_1]) (t := 25) ?hr ?_; (case hd => rfl); (case hg => rfl); (case hr => first | (go_simp; done) | (go_simp; rfl)); intro gb110 hg w48 hbox hb; have BK110 := Aside0.mk (hbox); have GW110 := Aside0.mk ((by rw [hg]; exact (below_size (bw_ HB)) : w.heap.size ≤ gb110)); have GE110 := Aside0.mk ((by rw [hg]; exact (below_size (bw_ HB)) : w.heap.size ≤ gb110)); have NB109_110 := Aside0.mk ((by rw [hg]; exact Nat.ne_of_lt (blk_lt (tk_ BK109)) : gb109 ≠ gb110)); have NB110_109 := Aside0.mk ((by rw [hg]; exact Nat.ne_of_gt (blk_lt (tk_ BK109)) : gb110 ≠ gb109)); replace BK109 := Aside0.mk (blk_below (tk_ BK109) hb); replace HB := Aside0.mk (below_step (bw_ HB) hb); clear hb hbox hg; have hnb49 := NB109_110.out; have hnc49 := NB110_109.out; have hcz50_0 := bc_0 BK109; have hcz50_1 := bc_1 BK109; have hcz50_2 := bc_2 BK109; have hcz50_3 := bc_3 BK109; have hcz50_4 := bc_4 BK109; have hcz50_5 := bc_5 BK109; have hfz50_0 := blk_frozen BK109.out 0; have hfz50_1 := blk_frozen BK109.out 1; have hfz50_2 := blk_frozen BK109.out 2; have hfz50_3 := blk_frozen BK109.out 3; have hfz50_4 := blk_frozen BK109.out 4; have hfz50_5 := blk_frozen BK109.out 5) | ((with_reducible refine gate_callee (f := 22) rfl ?_); refine goesL_ (some 6) rfl rfl Try.func22 (by kernel_rfl) rfl #[.agg #[.int .i64 a0_0, .int .i64 a0_1, .int .i64 a0_2, .int .i64 a0_3, .int .i64 a0_4, .int .i64 a0_5]] rfl (by (try simp only [l_4, l_5, l_6]); first | done | rfl | (simp only [l_7, l_8]; rfl)) ?_; (with_reducible refine (weight_Right.calls a0_0 a0_1 a0_2 a0_3 a0_4 a0_5 true _ A3.out).mono ?_); rintro e w51 ⟨rfl, hb⟩; (try clear A3); refine ⟨_, rfl, ?_⟩; replace BK109 := Aside0.mk (blk_below (tk_ BK109) hb); replace BK110 := Aside0.mk (blk_below (tk_ BK110) hb); replace HB := Aside0.mk (below_step (bw_ HB) hb); (try clear hb); (try clear hb2); (try clear hk); (try clear hi); have hcz52_0 := bc_0 BK110; have hcz52_1 := bc_1 BK110; have hfz52_0 := blk_frozen BK110.out 0; have hfz52_1 := blk_frozen BK110.out 1) | (go_at_call 23; (with_reducible refine (slice_fits.calls a1_0 a1_1 false _ A5.out).mono ?_); rintro e w53 ⟨rfl, hb⟩; (try clear A5); replace BK109 := Aside0.mk (blk_below (tk_ BK109) hb); replace BK110 := Aside0.mk (blk_below (tk_ BK110) hb); replace HB := Aside0.mk (below_step (bw_ HB) hb); (try clear hb); (try clear hb2); (try clear hk); (try clear hi)))
  go_ret
  exact ⟨by first | rfl | (simp [errW_none, errW_some] <;> rfl) | (simp [*, errW_none, errW_some] <;> rfl), by repeat (first | (with_reducible first | exact HB.out | apply b_a | apply b_n | apply b_d | refine b_s ?_ GE109.out | refine b_s ?_ GE110.out) | exact HB.out)⟩
 subst c6
 have H1 : (if a1_0 ≤ a0_0 then (if a1_1 = 0 then (none) else (if (Int.tmod a0_2 a1_1) = 0 then (if (Int.tmod a0_3 a1_1) = 0 then (some (decide ((wrap64 (a1_0 * a1_1)) ≤ 64))) else (some false)) else (some false))) else (some false)) = some r := by rw [if_pos rfl] at H; exact H
 clear H
 have H := H1
 clear H1
 by_cases c7 : a1_0 ≤ a0_0
 rotate_left
 ·
  rw [if_neg c7] at H
  have c7b0 : decide (a1_0 ≤ a0_0) = false := decide_eq_false c7
  clear c7
  obtain rfl := Option.some.inj H
  go_enter Try.func9, Try.ntmps9
  go_wp2_with (first | ((with_reducible refine gate_dst (N := 2) rfl ?_); refine box_event ?hg (N := 2) ?hd (cs := #[.int .i64 a0_0, .int .i64 a0_1, .int .i64 a0_2, .int .i64 a0_3, .int .i64 a0_4, .int .i64 a0_5]) (t := 23) ?hr ?_; (case hd => rfl); (case hg => rfl); (case hr => first | (go_simp; done) | (go_simp; rfl)); intro gb109 hg w38 hbox hb; have BK109 := Aside0.mk (hbox); have GW109 := Aside0.mk ((by rw [hg]; exact (below_size (bw_ HB)) : w.heap.size ≤ gb109)); have GE109 := Aside0.mk ((by rw [hg]; exact (below_size (bw_ HB)) : w.heap.size ≤ gb109)); replace HB := Aside0.mk (below_step (bw_ HB) hb); clear hb hbox hg) | ((with_reducible refine gate_dst (N := 3) rfl ?_); refine box_event ?hg (N := 3) ?hd (cs := #[.int .i64 a1_0, .int .i64 a1_1]) (t := 25) ?hr ?_; (case hd => rfl); (case hg => rfl); (case hr => first | (go_simp; done) | (go_simp; rfl)); intro gb110 hg w39 hbox hb; have BK110 := Aside0.mk (hbox); have GW110 := Aside0.mk ((by rw [hg]; exact (below_size (bw_ HB)) : w.heap.size ≤ gb110)); have GE110 := Aside0.mk ((by rw [hg]; exact (below_size (bw_ HB)) : w.heap.size ≤ gb110)); have NB109_110 := Aside0.mk ((by rw [hg]; exact Nat.ne_of_lt (blk_lt (tk_ BK109)) : gb109 ≠ gb110)); have NB110_109 := Aside0.mk ((by rw [hg]; exact Nat.ne_of_gt (blk_lt (tk_ BK109)) : gb110 ≠ gb109)); replace BK109 := Aside0.mk (blk_below (tk_ BK109) hb); replace HB := Aside0.mk (below_step (bw_ HB) hb); clear hb hbox hg; have hnb40 := NB109_110.out; have hnc40 := NB110_109.out; have hcz41_0 := bc_0 BK109; have hcz41_1 := bc_1 BK109; have hcz41_2 := bc_2 BK109; have hcz41_3 := bc_3 BK109; have hcz41_4 := bc_4 BK109; have hcz41_5 := bc_5 BK109; have hfz41_0 := blk_frozen BK109.out 0; have hfz41_1 := blk_frozen BK109.out 1; have hfz41_2 := blk_frozen BK109.out 2; have hfz41_3 := blk_frozen BK109.out 3; have hfz41_4 := blk_frozen BK109.out 4; have hfz41_5 := blk_frozen BK109.out 5) | ((with_reducible refine gate_callee (f := 22) rfl ?_); refine goesL_ (some 6) rfl rfl Try.func22 (by kernel_rfl) rfl #[.agg #[.int .i64 a0_0, .int .i64 a0_1, .int .i64 a0_2, .int .i64 a0_3, .int .i64 a0_4, .int .i64 a0_5]] rfl (by (try simp only [l_4, l_5, l_6]); first | done | rfl | (simp only [l_7, l_8]; rfl)) ?_; (with_reducible refine (weight_Right.calls a0_0 a0_1 a0_2 a0_3 a0_4 a0_5 true _ A3.out).mono ?_); rintro e w42 ⟨rfl, hb⟩; (try clear A3); refine ⟨_, rfl, ?_⟩; replace BK109 := Aside0.mk (blk_below (tk_ BK109) hb); replace BK110 := Aside0.mk (blk_below (tk_ BK110) hb); replace HB := Aside0.mk (below_step (bw_ HB) hb); (try clear hb); (try clear hb2); (try clear hk); (try clear hi); have hcz43_0 := bc_0 BK110; have hcz43_1 := bc_1 BK110; have hfz43_0 := blk_frozen BK110.out 0; have hfz43_1 := blk_frozen BK110.out 1) | (go_at_call 23; (with_reducible refine (slice_fits.calls a1_0 a1_1 true _ A5.out).mono ?_); rintro e w44 ⟨rfl, hb⟩; (try clear A5); replace BK109 := Aside0.mk (blk_below (tk_ BK109) hb); replace BK110 := Aside0.mk (blk_below (tk_ BK110) hb); replace HB := Aside0.mk (below_step (bw_ HB) hb); (try clear hb); (try clear hb2); (try clear hk); (try clear hi); have hcz45_0 := bc_0 BK110; have hcz45_1 := bc_1 BK110; have hfz45_0 := blk_frozen BK110.out 0; have hfz45_1 := blk_frozen BK110.out 1; have hcz46_0 := bc_0 BK109; have hcz46_1 := bc_1 BK109; have hcz46_2 := bc_2 BK109; have hcz46_3 := bc_3 BK109; have hcz46_4 := bc_4 BK109; have hcz46_5 := bc_5 BK109; have hfz46_0 := blk_frozen BK109.out 0; have hfz46_1 := blk_frozen BK109.out 1; have hfz46_2 := blk_frozen BK109.out 2; have hfz46_3 := blk_frozen BK109.out 3; have hfz46_4 := blk_frozen BK109.out 4; have hfz46_5 := blk_frozen BK109.out 5))
  go_ret
  exact ⟨by first | rfl | (simp [errW_none, errW_some] <;> rfl) | (simp [*, errW_none, errW_some] <;> rfl), by repeat (first | (with_reducible first | exact HB.out | apply b_a | apply b_n | apply b_d | refine b_s ?_ GE109.out | refine b_s ?_ GE110.out) | exact HB.out)⟩
 rw [if_pos c7] at H
 have c7b0 : decide (a1_0 ≤ a0_0) = true := decide_eq_true c7
 clear c7
 by_cases c8 : a1_1 = 0
 ·
  rw [if_pos c8] at H
  exact absurd H (by simp)
 rw [if_neg c8] at H
 have c8b0 : (a1_1 == 0) = false := beq_eq_false_iff_ne.mpr c8
 have c8b1 : (a1_1 != 0) = true := bne_iff_ne.mpr c8
 by_cases c9 : (Int.tmod a0_2 a1_1) = 0
 rotate_left
 ·
  rw [if_neg c9] at H
  have c9b0 : ((Int.tmod a0_2 a1_1) == 0) = false := beq_eq_false_iff_ne.mpr c9
  have c9b1 : ((Int.tmod a0_2 a1_1) != 0) = true := bne_iff_ne.mpr c9
  obtain rfl := Option.some.inj H
  go_enter Try.func9, Try.ntmps9
  go_wp2_with (first | ((with_reducible refine gate_dst (N := 2) rfl ?_); refine box_event ?hg (N := 2) ?hd (cs := #[.int .i64 a0_0, .int .i64 a0_1, .int .i64 a0_2, .int .i64 a0_3, .int .i64 a0_4, .int .i64 a0_5]) (t := 23) ?hr ?_; (case hd => rfl); (case hg => rfl); (case hr => first | (go_simp; done) | (go_simp; rfl)); intro gb109 hg w29 hbox hb; have BK109 := Aside0.mk (hbox); have GW109 := Aside0.mk ((by rw [hg]; exact (below_size (bw_ HB)) : w.heap.size ≤ gb109)); have GE109 := Aside0.mk ((by rw [hg]; exact (below_size (bw_ HB)) : w.heap.size ≤ gb109)); replace HB := Aside0.mk (below_step (bw_ HB) hb); clear hb hbox hg) | ((with_reducible refine gate_dst (N := 3) rfl ?_); refine box_event ?hg (N := 3) ?hd (cs := #[.int .i64 a1_0, .int .i64 a1_1]) (t := 25) ?hr ?_; (case hd => rfl); (case hg => rfl); (case hr => first | (go_simp; done) | (go_simp; rfl)); intro gb110 hg w30 hbox hb; have BK110 := Aside0.mk (hbox); have GW110 := Aside0.mk ((by rw [hg]; exact (below_size (bw_ HB)) : w.heap.size ≤ gb110)); have GE110 := Aside0.mk ((by rw [hg]; exact (below_size (bw_ HB)) : w.heap.size ≤ gb110)); have NB109_110 := Aside0.mk ((by rw [hg]; exact Nat.ne_of_lt (blk_lt (tk_ BK109)) : gb109 ≠ gb110)); have NB110_109 := Aside0.mk ((by rw [hg]; exact Nat.ne_of_gt (blk_lt (tk_ BK109)) : gb110 ≠ gb109)); replace BK109 := Aside0.mk (blk_below (tk_ BK109) hb); replace HB := Aside0.mk (below_step (bw_ HB) hb); clear hb hbox hg; have hnb31 := NB109_110.out; have hnc31 := NB110_109.out; have hcz32_0 := bc_0 BK109; have hcz32_1 := bc_1 BK109; have hcz32_2 := bc_2 BK109; have hcz32_3 := bc_3 BK109; have hcz32_4 := bc_4 BK109; have hcz32_5 := bc_5 BK109; have hfz32_0 := blk_frozen BK109.out 0; have hfz32_1 := blk_frozen BK109.out 1; have hfz32_2 := blk_frozen BK109.out 2; have hfz32_3 := blk_frozen BK109.out 3; have hfz32_4 := blk_frozen BK109.out 4; have hfz32_5 := blk_frozen BK109.out 5) | ((with_reducible refine gate_callee (f := 22) rfl ?_); refine goesL_ (some 6) rfl rfl Try.func22 (by kernel_rfl) rfl #[.agg #[.int .i64 a0_0, .int .i64 a0_1, .int .i64 a0_2, .int .i64 a0_3, .int .i64 a0_4, .int .i64 a0_5]] rfl (by (try simp only [l_4, l_5, l_6]); first | done | rfl | (simp only [l_7, l_8]; rfl)) ?_; (with_reducible refine (weight_Right.calls a0_0 a0_1 a0_2 a0_3 a0_4 a0_5 true _ A3.out).mono ?_); rintro e w33 ⟨rfl, hb⟩; (try clear A3); refine ⟨_, rfl, ?_⟩; replace BK109 := Aside0.mk (blk_below (tk_ BK109) hb); replace BK110 := Aside0.mk (blk_below (tk_ BK110) hb); replace HB := Aside0.mk (below_step (bw_ HB) hb); (try clear hb); (try clear hb2); (try clear hk); (try clear hi); have hcz34_0 := bc_0 BK110; have hcz34_1 := bc_1 BK110; have hfz34_0 := blk_frozen BK110.out 0; have hfz34_1 := blk_frozen BK110.out 1) | (go_at_call 23; (with_reducible refine (slice_fits.calls a1_0 a1_1 true _ A5.out).mono ?_); rintro e w35 ⟨rfl, hb⟩; (try clear A5); replace BK109 := Aside0.mk (blk_below (tk_ BK109) hb); replace BK110 := Aside0.mk (blk_below (tk_ BK110) hb); replace HB := Aside0.mk (below_step (bw_ HB) hb); (try clear hb); (try clear hb2); (try clear hk); (try clear hi); have hcz36_0 := bc_0 BK110; have hcz36_1 := bc_1 BK110; have hfz36_0 := blk_frozen BK110.out 0; have hfz36_1 := blk_frozen BK110.out 1; have hcz37_0 := bc_0 BK109; have hcz37_1 := bc_1 BK109; have hcz37_2 := bc_2 BK109; have hcz37_3 := bc_3 BK109; have hcz37_4 := bc_4 BK109; have hcz37_5 := bc_5 BK109; have hfz37_0 := blk_frozen BK109.out 0; have hfz37_1 := blk_frozen BK109.out 1; have hfz37_2 := blk_frozen BK109.out 2; have hfz37_3 := blk_frozen BK109.out 3; have hfz37_4 := blk_frozen BK109.out 4; have hfz37_5 := blk_frozen BK109.out 5))
  go_ret
  exact ⟨by first | rfl | (simp [errW_none, errW_some] <;> rfl) | (simp [*, errW_none, errW_some] <;> rfl), by repeat (first | (with_reducible first | exact HB.out | apply b_a | apply b_n | apply b_d | refine b_s ?_ GE109.out | refine b_s ?_ GE110.out) | exact HB.out)⟩
 rw [if_pos c9] at H
 have c9b0 : ((Int.tmod a0_2 a1_1) == 0) = true := beq_iff_eq.mpr c9
 have c9b1 : ((Int.tmod a0_2 a1_1) != 0) = false := bne_eq_false_iff_eq.mpr c9
 clear c9
 by_cases c10 : (Int.tmod a0_3 a1_1) = 0
 rotate_left
 ·
  rw [if_neg c10] at H
  have c10b0 : ((Int.tmod a0_3 a1_1) == 0) = false := beq_eq_false_iff_ne.mpr c10
  have c10b1 : ((Int.tmod a0_3 a1_1) != 0) = true := bne_iff_ne.mpr c10
  obtain rfl := Option.some.inj H
  go_enter Try.func9, Try.ntmps9
  go_wp2_with (first | ((with_reducible refine gate_dst (N := 2) rfl ?_); refine box_event ?hg (N := 2) ?hd (cs := #[.int .i64 a0_0, .int .i64 a0_1, .int .i64 a0_2, .int .i64 a0_3, .int .i64 a0_4, .int .i64 a0_5]) (t := 23) ?hr ?_; (case hd => rfl); (case hg => rfl); (case hr => first | (go_simp; done) | (go_simp; rfl)); intro gb109 hg w20 hbox hb; have BK109 := Aside0.mk (hbox); have GW109 := Aside0.mk ((by rw [hg]; exact (below_size (bw_ HB)) : w.heap.size ≤ gb109)); have GE109 := Aside0.mk ((by rw [hg]; exact (below_size (bw_ HB)) : w.heap.size ≤ gb109)); replace HB := Aside0.mk (below_step (bw_ HB) hb); clear hb hbox hg) | ((with_reducible refine gate_dst (N := 3) rfl ?_); refine box_event ?hg (N := 3) ?hd (cs := #[.int .i64 a1_0, .int .i64 a1_1]) (t := 25) ?hr ?_; (case hd => rfl); (case hg => rfl); (case hr => first | (go_simp; done) | (go_simp; rfl)); intro gb110 hg w21 hbox hb; have BK110 := Aside0.mk (hbox); have GW110 := Aside0.mk ((by rw [hg]; exact (below_size (bw_ HB)) : w.heap.size ≤ gb110)); have GE110 := Aside0.mk ((by rw [hg]; exact (below_size (bw_ HB)) : w.heap.size ≤ gb110)); have NB109_110 := Aside0.mk ((by rw [hg]; exact Nat.ne_of_lt (blk_lt (tk_ BK109)) : gb109 ≠ gb110)); have NB110_109 := Aside0.mk ((by rw [hg]; exact Nat.ne_of_gt (blk_lt (tk_ BK109)) : gb110 ≠ gb109)); replace BK109 := Aside0.mk (blk_below (tk_ BK109) hb); replace HB := Aside0.mk (below_step (bw_ HB) hb); clear hb hbox hg; have hnb22 := NB109_110.out; have hnc22 := NB110_109.out; have hcz23_0 := bc_0 BK109; have hcz23_1 := bc_1 BK109; have hcz23_2 := bc_2 BK109; have hcz23_3 := bc_3 BK109; have hcz23_4 := bc_4 BK109; have hcz23_5 := bc_5 BK109; have hfz23_0 := blk_frozen BK109.out 0; have hfz23_1 := blk_frozen BK109.out 1; have hfz23_2 := blk_frozen BK109.out 2; have hfz23_3 := blk_frozen BK109.out 3; have hfz23_4 := blk_frozen BK109.out 4; have hfz23_5 := blk_frozen BK109.out 5) | ((with_reducible refine gate_callee (f := 22) rfl ?_); refine goesL_ (some 6) rfl rfl Try.func22 (by kernel_rfl) rfl #[.agg #[.int .i64 a0_0, .int .i64 a0_1, .int .i64 a0_2, .int .i64 a0_3, .int .i64 a0_4, .int .i64 a0_5]] rfl (by (try simp only [l_4, l_5, l_6]); first | done | rfl | (simp only [l_7, l_8]; rfl)) ?_; (with_reducible refine (weight_Right.calls a0_0 a0_1 a0_2 a0_3 a0_4 a0_5 true _ A3.out).mono ?_); rintro e w24 ⟨rfl, hb⟩; (try clear A3); refine ⟨_, rfl, ?_⟩; replace BK109 := Aside0.mk (blk_below (tk_ BK109) hb); replace BK110 := Aside0.mk (blk_below (tk_ BK110) hb); replace HB := Aside0.mk (below_step (bw_ HB) hb); (try clear hb); (try clear hb2); (try clear hk); (try clear hi); have hcz25_0 := bc_0 BK110; have hcz25_1 := bc_1 BK110; have hfz25_0 := blk_frozen BK110.out 0; have hfz25_1 := blk_frozen BK110.out 1) | (go_at_call 23; (with_reducible refine (slice_fits.calls a1_0 a1_1 true _ A5.out).mono ?_); rintro e w26 ⟨rfl, hb⟩; (try clear A5); replace BK109 := Aside0.mk (blk_below (tk_ BK109) hb); replace BK110 := Aside0.mk (blk_below (tk_ BK110) hb); replace HB := Aside0.mk (below_step (bw_ HB) hb); (try clear hb); (try clear hb2); (try clear hk); (try clear hi); have hcz27_0 := bc_0 BK110; have hcz27_1 := bc_1 BK110; have hfz27_0 := blk_frozen BK110.out 0; have hfz27_1 := blk_frozen BK110.out 1; have hcz28_0 := bc_0 BK109; have hcz28_1 := bc_1 BK109; have hcz28_2 := bc_2 BK109; have hcz28_3 := bc_3 BK109; have hcz28_4 := bc_4 BK109; have hcz28_5 := bc_5 BK109; have hfz28_0 := blk_frozen BK109.out 0; have hfz28_1 := blk_frozen BK109.out 1; have hfz28_2 := blk_frozen BK109.out 2; have hfz28_3 := blk_frozen BK109.out 3; have hfz28_4 := blk_frozen BK109.out 4; have hfz28_5 := blk_frozen BK109.out 5))
  go_ret
  exact ⟨by first | rfl | (simp [errW_none, errW_some] <;> rfl) | (simp [*, errW_none, errW_some] <;> rfl), by repeat (first | (with_reducible first | exact HB.out | apply b_a | apply b_n | apply b_d | refine b_s ?_ GE109.out | refine b_s ?_ GE110.out) | exact HB.out)⟩
 rw [if_pos c10] at H
 have c10b0 : ((Int.tmod a0_3 a1_1) == 0) = true := beq_iff_eq.mpr c10
 have c10b1 : ((Int.tmod a0_3 a1_1) != 0) = false := bne_eq_false_iff_eq.mpr c10
 clear c10
 obtain rfl := Option.some.inj H
 go_enter Try.func9, Try.ntmps9
 go_wp2_with (first | ((with_reducible refine gate_dst (N := 2) rfl ?_); refine box_event ?hg (N := 2) ?hd (cs := #[.int .i64 a0_0, .int .i64 a0_1, .int .i64 a0_2, .int .i64 a0_3, .int .i64 a0_4, .int .i64 a0_5]) (t := 23) ?hr ?_; (case hd => rfl); (case hg => rfl); (case hr => first | (go_simp; done) | (go_simp; rfl)); intro gb109 hg w11 hbox hb; have BK109 := Aside0.mk (hbox); have GW109 := Aside0.mk ((by rw [hg]; exact (below_size (bw_ HB)) : w.heap.size ≤ gb109)); have GE109 := Aside0.mk ((by rw [hg]; exact (below_size (bw_ HB)) : w.heap.size ≤ gb109)); replace HB := Aside0.mk (below_step (bw_ HB) hb); clear hb hbox hg) | ((with_reducible refine gate_dst (N := 3) rfl ?_); refine box_event ?hg (N := 3) ?hd (cs := #[.int .i64 a1_0, .int .i64 a1_1]) (t := 25) ?hr ?_; (case hd => rfl); (case hg => rfl); (case hr => first | (go_simp; done) | (go_simp; rfl)); intro gb110 hg w12 hbox hb; have BK110 := Aside0.mk (hbox); have GW110 := Aside0.mk ((by rw [hg]; exact (below_size (bw_ HB)) : w.heap.size ≤ gb110)); have GE110 := Aside0.mk ((by rw [hg]; exact (below_size (bw_ HB)) : w.heap.size ≤ gb110)); have NB109_110 := Aside0.mk ((by rw [hg]; exact Nat.ne_of_lt (blk_lt (tk_ BK109)) : gb109 ≠ gb110)); have NB110_109 := Aside0.mk ((by rw [hg]; exact Nat.ne_of_gt (blk_lt (tk_ BK109)) : gb110 ≠ gb109)); replace BK109 := Aside0.mk (blk_below (tk_ BK109) hb); replace HB := Aside0.mk (below_step (bw_ HB) hb); clear hb hbox hg; have hnb13 := NB109_110.out; have hnc13 := NB110_109.out; have hcz14_0 := bc_0 BK109; have hcz14_1 := bc_1 BK109; have hcz14_2 := bc_2 BK109; have hcz14_3 := bc_3 BK109; have hcz14_4 := bc_4 BK109; have hcz14_5 := bc_5 BK109; have hfz14_0 := blk_frozen BK109.out 0; have hfz14_1 := blk_frozen BK109.out 1; have hfz14_2 := blk_frozen BK109.out 2; have hfz14_3 := blk_frozen BK109.out 3; have hfz14_4 := blk_frozen BK109.out 4; have hfz14_5 := blk_frozen BK109.out 5) | ((with_reducible refine gate_callee (f := 22) rfl ?_); refine goesL_ (some 6) rfl rfl Try.func22 (by kernel_rfl) rfl #[.agg #[.int .i64 a0_0, .int .i64 a0_1, .int .i64 a0_2, .int .i64 a0_3, .int .i64 a0_4, .int .i64 a0_5]] rfl (by (try simp only [l_4, l_5, l_6]); first | done | rfl | (simp only [l_7, l_8]; rfl)) ?_; (with_reducible refine (weight_Right.calls a0_0 a0_1 a0_2 a0_3 a0_4 a0_5 true _ A3.out).mono ?_); rintro e w15 ⟨rfl, hb⟩; (try clear A3); refine ⟨_, rfl, ?_⟩; replace BK109 := Aside0.mk (blk_below (tk_ BK109) hb); replace BK110 := Aside0.mk (blk_below (tk_ BK110) hb); replace HB := Aside0.mk (below_step (bw_ HB) hb); (try clear hb); (try clear hb2); (try clear hk); (try clear hi); have hcz16_0 := bc_0 BK110; have hcz16_1 := bc_1 BK110; have hfz16_0 := blk_frozen BK110.out 0; have hfz16_1 := blk_frozen BK110.out 1) | (go_at_call 23; (with_reducible refine (slice_fits.calls a1_0 a1_1 true _ A5.out).mono ?_); rintro e w17 ⟨rfl, hb⟩; (try clear A5); replace BK109 := Aside0.mk (blk_below (tk_ BK109) hb); replace BK110 := Aside0.mk (blk_below (tk_ BK110) hb); replace HB := Aside0.mk (below_step (bw_ HB) hb); (try clear hb); (try clear hb2); (try clear hk); (try clear hi); have hcz18_0 := bc_0 BK110; have hcz18_1 := bc_1 BK110; have hfz18_0 := blk_frozen BK110.out 0; have hfz18_1 := blk_frozen BK110.out 1; have hcz19_0 := bc_0 BK109; have hcz19_1 := bc_1 BK109; have hcz19_2 := bc_2 BK109; have hcz19_3 := bc_3 BK109; have hcz19_4 := bc_4 BK109; have hcz19_5 := bc_5 BK109; have hfz19_0 := blk_frozen BK109.out 0; have hfz19_1 := blk_frozen BK109.out 1; have hfz19_2 := blk_frozen BK109.out 2; have hfz19_3 := blk_frozen BK109.out 3; have hfz19_4 := blk_frozen BK109.out 4; have hfz19_5 := blk_frozen BK109.out 5))
 go_ret
 exact ⟨by first | rfl | (simp [errW_none, errW_some] <;> rfl) | (simp [*, errW_none, errW_some] <;> rfl), by repeat (first | (with_reducible first | exact HB.out | apply b_a | apply b_n | apply b_d | refine b_s ?_ GE109.out | refine b_s ?_ GE110.out) | exact HB.out)⟩
/-! ### slice_Workers: function 10 -/
def slice_Workers.f (a0_0 : Int) (a0_1 : Int) (a0_2 : Int) (a0_3 : Int) (a0_4 : Int) (a0_5 : Int) (a1_0 : Int) (a1_1 : Int) : Option (Int) := (slice_Right.f a0_0 a0_1 a0_2 a0_3 a0_4 a0_5 a1_0 a1_1).bind fun t115 => (if t115 = true then (some (wrap64 (a1_0 * a1_1))) else (some 0))
set_option maxHeartbeats 60000000 in
set_option maxRecDepth 100000 in
theorem slice_Workers.calls (a0_0 : Int) (a0_1 : Int) (a0_2 : Int) (a0_3 : Int) (a0_4 : Int) (a0_5 : Int) (a1_0 : Int) (a1_1 : Int) (r : Int) (w : World) (h : slice_Workers.f a0_0 a0_1 a0_2 a0_3 a0_4 a0_5 a1_0 a1_1 = some r) :
  Calls Try.prog 10 #[.agg #[.int .i64 a0_0, .int .i64 a0_1, .int .i64 a0_2, .int .i64 a0_3, .int .i64 a0_4, .int .i64 a0_5], .agg #[.int .i64 a1_0, .int .i64 a1_1]] w fun e w' => e = .returned (.int .i64 r) ∧ Below w.heap.size w w' := by
 have hu23 := Try.underlying23
 have hu25 := Try.underlying25
 have HB := Aside0.mk (Below.refl w.heap.size w)
 have H : ((slice_Right.f a0_0 a0_1 a0_2 a0_3 a0_4 a0_5 a1_0 a1_1).bind fun t115 => (if t115 = true then (some (wrap64 (a1_0 * a1_1))) else (some 0))) = some r := h
 clear h
 replace H := Option.bind_eq_some_iff.mp H
 obtain ⟨t115, A30, H⟩ := H
 replace H : (if t115 = true then (some (wrap64 (a1_0 * a1_1))) else (some 0)) = some r := H
 have A3 := Aside0.mk A30
 clear A30
 by_cases c4 : t115 = true
 rotate_left
 ·
  replace c4 := Bool.eq_false_iff.mpr c4
  subst c4
  have H1 : (some 0) = some r := by rw [if_neg (show ¬ (false = true) by decide)] at H; exact H
  clear H
  have H := H1
  clear H1
  obtain rfl := Option.some.inj H
  go_enter Try.func10, Try.ntmps10
  go_wp2_with (first | ((with_reducible refine gate_dst (N := 2) rfl ?_); refine box_event ?hg (N := 2) ?hd (cs := #[.int .i64 a0_0, .int .i64 a0_1, .int .i64 a0_2, .int .i64 a0_3, .int .i64 a0_4, .int .i64 a0_5]) (t := 23) ?hr ?_; (case hd => rfl); (case hg => rfl); (case hr => first | (go_simp; done) | (go_simp; rfl)); intro gb113 hg w12 hbox hb; have BK113 := Aside0.mk (hbox); have GW113 := Aside0.mk ((by rw [hg]; exact (below_size (bw_ HB)) : w.heap.size ≤ gb113)); have GE113 := Aside0.mk ((by rw [hg]; exact (below_size (bw_ HB)) : w.heap.size ≤ gb113)); replace HB := Aside0.mk (below_step (bw_ HB) hb); clear hb hbox hg) | ((with_reducible refine gate_dst (N := 3) rfl ?_); refine box_event ?hg (N := 3) ?hd (cs := #[.int .i64 a1_0, .int .i64 a1_1]) (t := 25) ?hr ?_; (case hd => rfl); (case hg => rfl); (case hr => first | (go_simp; done) | (go_simp; rfl)); intro gb114 hg w13 hbox hb; have BK114 := Aside0.mk (hbox); have GW114 := Aside0.mk ((by rw [hg]; exact (below_size (bw_ HB)) : w.heap.size ≤ gb114)); have GE114 := Aside0.mk ((by rw [hg]; exact (below_size (bw_ HB)) : w.heap.size ≤ gb114)); have NB113_114 := Aside0.mk ((by rw [hg]; exact Nat.ne_of_lt (blk_lt (tk_ BK113)) : gb113 ≠ gb114)); have NB114_113 := Aside0.mk ((by rw [hg]; exact Nat.ne_of_gt (blk_lt (tk_ BK113)) : gb114 ≠ gb113)); replace BK113 := Aside0.mk (blk_below (tk_ BK113) hb); replace HB := Aside0.mk (below_step (bw_ HB) hb); clear hb hbox hg; have hnb14 := NB113_114.out; have hnc14 := NB114_113.out; have hcz15_0 := bc_0 BK113; have hcz15_1 := bc_1 BK113; have hcz15_2 := bc_2 BK113; have hcz15_3 := bc_3 BK113; have hcz15_4 := bc_4 BK113; have hcz15_5 := bc_5 BK113; have hfz15_0 := blk_frozen BK113.out 0; have hfz15_1 := blk_frozen BK113.out 1; have hfz15_2 := blk_frozen BK113.out 2; have hfz15_3 := blk_frozen BK113.out 3; have hfz15_4 := blk_frozen BK113.out 4; have hfz15_5 := blk_frozen BK113.out 5; have hcz16_0 := bc_0 BK114; have hcz16_1 := bc_1 BK114; have hfz16_0 := blk_frozen BK114.out 0; have hfz16_1 := blk_frozen BK114.out 1) | ((with_reducible refine gate_callee (f := 9) rfl ?_); refine goesL_ (some 7) rfl rfl Try.func9 (by kernel_rfl) rfl #[.agg #[.int .i64 a0_0, .int .i64 a0_1, .int .i64 a0_2, .int .i64 a0_3, .int .i64 a0_4, .int .i64 a0_5], .agg #[.int .i64 a1_0, .int .i64 a1_1]] rfl (by (try simp only [l_4, l_5, l_6]); first | done | rfl | (simp only [l_7, l_8]; rfl)) ?_; (with_reducible refine (slice_Right.calls a0_0 a0_1 a0_2 a0_3 a0_4 a0_5 a1_0 a1_1 false _ A3.out).mono ?_); rintro e w17 ⟨rfl, hb⟩; (try clear A3); refine ⟨_, rfl, ?_⟩; replace BK113 := Aside0.mk (blk_below (tk_ BK113) hb); replace BK114 := Aside0.mk (blk_below (tk_ BK114) hb); replace HB := Aside0.mk (below_step (bw_ HB) hb); (try clear hb); (try clear hb2); (try clear hk); (try clear hi)))
  go_ret
  exact ⟨by first | rfl | (simp [errW_none, errW_some] <;> rfl) | (simp [*, errW_none, errW_some] <;> rfl), by repeat (first | (with_reducible first | exact HB.out | apply b_a | apply b_n | apply b_d | refine b_s ?_ GE113.out | refine b_s ?_ GE114.out) | exact HB.out)⟩

 subst c4
 have H1 : (some (wrap64 (a1_0 * a1_1))) = some r := by rw [if_pos rfl] at H; exact H
 clear H
 have H := H1
 clear H1
 obtain rfl := Option.some.inj H
 go_enter Try.func10, Try.ntmps10
 go_wp2_with (first | ((with_reducible refine gate_dst (N := 2) rfl ?_); refine box_event ?hg (N := 2) ?hd (cs := #[.int .i64 a0_0, .int .i64 a0_1, .int .i64 a0_2, .int .i64 a0_3, .int .i64 a0_4, .int .i64 a0_5]) (t := 23) ?hr ?_; (case hd => rfl); (case hg => rfl); (case hr => first | (go_simp; done) | (go_simp; rfl)); intro gb113 hg w5 hbox hb; have BK113 := Aside0.mk (hbox); have GW113 := Aside0.mk ((by rw [hg]; exact (below_size (bw_ HB)) : w.heap.size ≤ gb113)); have GE113 := Aside0.mk ((by rw [hg]; exact (below_size (bw_ HB)) : w.heap.size ≤ gb113)); replace HB := Aside0.mk (below_step (bw_ HB) hb); clear hb hbox hg) | ((with_reducible refine gate_dst (N := 3) rfl ?_); refine box_event ?hg (N := 3) ?hd (cs := #[.int .i64 a1_0, .int .i64 a1_1]) (t := 25) ?hr ?_; (case hd => rfl); (case hg => rfl); (case hr => first | (go_simp; done) | (go_simp; rfl)); intro gb114 hg w6 hbox hb; have BK114 := Aside0.mk (hbox); have GW114 := Aside0.mk ((by rw [hg]; exact (below_size (bw_ HB)) : w.heap.size ≤ gb114)); have GE114 := Aside0.mk ((by rw [hg]; exact (below_size (bw_ HB)) : w.heap.size ≤ gb114)); have NB113_114 := Aside0.mk ((by rw [hg]; exact Nat.ne_of_lt (blk_lt (tk_ BK113)) : gb113 ≠ gb114)); have NB114_113 := Aside0.mk ((by rw [hg]; exact Nat.ne_of_gt (blk_lt (tk_ BK113)) : gb114 ≠ gb113)); replace BK113 := Aside0.mk (blk_below (tk_ BK113) hb); replace HB := Aside0.mk (below_step (bw_ HB) hb); clear hb hbox hg; have hnb7 := NB113_114.out; have hnc7 := NB114_113.out; have hcz8_0 := bc_0 BK113; have hcz8_1 := bc_1 BK113; have hcz8_2 := bc_2 BK113; have hcz8_3 := bc_3 BK113; have hcz8_4 := bc_4 BK113; have hcz8_5 := bc_5 BK113; have hfz8_0 := blk_frozen BK113.out 0; have hfz8_1 := blk_frozen BK113.out 1; have hfz8_2 := blk_frozen BK113.out 2; have hfz8_3 := blk_frozen BK113.out 3; have hfz8_4 := blk_frozen BK113.out 4; have hfz8_5 := blk_frozen BK113.out 5; have hcz9_0 := bc_0 BK114; have hcz9_1 := bc_1 BK114; have hfz9_0 := blk_frozen BK114.out 0; have hfz9_1 := blk_frozen BK114.out 1) | ((with_reducible refine gate_callee (f := 9) rfl ?_); refine goesL_ (some 7) rfl rfl Try.func9 (by kernel_rfl) rfl #[.agg #[.int .i64 a0_0, .int .i64 a0_1, .int .i64 a0_2, .int .i64 a0_3, .int .i64 a0_4, .int .i64 a0_5], .agg #[.int .i64 a1_0, .int .i64 a1_1]] rfl (by (try simp only [l_4, l_5, l_6]); first | done | rfl | (simp only [l_7, l_8]; rfl)) ?_; (with_reducible refine (slice_Right.calls a0_0 a0_1 a0_2 a0_3 a0_4 a0_5 a1_0 a1_1 true _ A3.out).mono ?_); rintro e w10 ⟨rfl, hb⟩; (try clear A3); refine ⟨_, rfl, ?_⟩; replace BK113 := Aside0.mk (blk_below (tk_ BK113) hb); replace BK114 := Aside0.mk (blk_below (tk_ BK114) hb); replace HB := Aside0.mk (below_step (bw_ HB) hb); (try clear hb); (try clear hb2); (try clear hk); (try clear hi); have hcz11_0 := bc_0 BK114; have hcz11_1 := bc_1 BK114; have hfz11_0 := blk_frozen BK114.out 0; have hfz11_1 := blk_frozen BK114.out 1))
 go_ret
 exact ⟨by first | rfl | (simp [errW_none, errW_some] <;> rfl) | (simp [*, errW_none, errW_some] <;> rfl), by repeat (first | (with_reducible first | exact HB.out | apply b_a | apply b_n | apply b_d | refine b_s ?_ GE113.out | refine b_s ?_ GE114.out) | exact HB.out)⟩
/-! ### slice_span: function 24 -/
def slice_span.f (a0 : Bool) (a1 : Int) (a2 : Int) (a3 : Int) : Option (Int × Int × Int) := if a0 = true then (if a1 < 0 then (some (0, 0, 2)) else (if a1 ≥ a3 then (some (0, 0, 2)) else (if a3 = 0 then (none) else (some (wrap64 (Int.tdiv (wrap64 (a1 * a2)) a3), wrap64 (Int.tdiv (wrap64 ((wrap64 (a1 + 1)) * a2)) a3), 0))))) else (some (0, 0, 100))
def slice_span.T5 : Bool × List (List Nat × List Nat) := (true, [([], []), ([], []), ([0, 1], [0, 1]), ([], []), ([2, 3], [2, 3]), ([], []), ([5], [5]), ([], []), ([6, 7], [6, 7]), ([], []), ([8, 9], [8, 9]), ([4, 10], [4, 10]), ([11, 0, 1, 2, 3, 4, 5, 6, 7, 8, 9, 10, 11], [11]), ([12, 0, 1, 2, 3, 4, 5, 6, 7, 8, 9, 10, 11, 12], [])])
def slice_span.B5 : List Nat := [0, 0, 3, 0, 15, 0, 32, 0, 224, 0, 992, 2047, 4095, 8191]
theorem slice_span.tab5 : rtab .any (opsOf Try.f24 5) = slice_span.T5 := by kernel_rfl
theorem slice_span.bits5 : waitsOk slice_span.T5.2 slice_span.B5 = true := by kernel_rfl
set_option maxHeartbeats 60000000 in
set_option maxRecDepth 100000 in
theorem slice_span.calls (a0 : Bool) (a1 : Int) (a2 : Int) (a3 : Int) (r1 : Int) (r2 : Int) (r3 : Int) (w : World) (h : slice_span.f a0 a1 a2 a3 = some (r1, r2, r3)) :
  Calls Try.prog 24 #[.bool a0, .int .i64 a1, .int .i64 a2, .int .i64 a3] w fun e w' => e = .returned (.tuple #[.agg #[.int .i64 r1, .int .i64 r2], .int .i64 r3]) ∧ Below w.heap.size w w' := by
 have hu29 := Try.underlying29
 have HB := Aside0.mk (Below.refl w.heap.size w)
 have H : (if a0 = true then (if a1 < 0 then (some (0, 0, 2)) else (if a1 ≥ a3 then (some (0, 0, 2)) else (if a3 = 0 then (none) else (some (wrap64 (Int.tdiv (wrap64 (a1 * a2)) a3), wrap64 (Int.tdiv (wrap64 ((wrap64 (a1 + 1)) * a2)) a3), 0))))) else (some (0, 0, 100))) = some (r1, r2, r3) := h
 clear h
 by_cases c5 : a0 = true
 rotate_left
 ·
  replace c5 := Bool.eq_false_iff.mpr c5
  subst c5
  have H1 : (some (0, 0, 100)) = some (r1, r2, r3) := by rw [if_neg (show ¬ (false = true) by decide)] at H; exact H
  clear H
  have H := H1
  clear H1
  simp only [Option.some.injEq, Prod.mk.injEq] at H
  obtain ⟨rfl, rfl, rfl⟩ := H
  go_enter Try.func24, Try.ntmps24
  go_wp2_with (first | ((with_reducible refine gate_dst (N := 8) rfl ?_); refine box_event ?hg (N := 8) ?hd (cs := #[.int .i64 0, .int .i64 0]) (t := 29) ?hr ?_; (case hd => rfl); (case hg => rfl); (case hr => first | (go_simp; done) | (go_simp; rfl)); intro gb116 hg w17 hbox hb; have BK116 := Aside0.mk (hbox); have GW116 := Aside0.mk ((by rw [hg]; exact (below_size (bw_ HB)) : w.heap.size ≤ gb116)); have GE116 := Aside0.mk ((by rw [hg]; exact (below_size (bw_ HB)) : w.heap.size ≤ gb116)); replace HB := Aside0.mk (below_step (bw_ HB) hb); clear hb hbox hg; have hcz18_0 := bc_0 BK116; have hcz18_1 := bc_1 BK116; have hfz18_0 := blk_frozen BK116.out 0; have hfz18_1 := blk_frozen BK116.out 1))
  refine bodyPost_ret (results_ct rfl _ _ gb116 29 #[.int .i64 0, .int .i64 0] (0, 0) _ rfl (by (with_reducible repeat (first | refine k_n ?_ _ | refine k_d ?_ | refine k_a ?_ _)); refine blk_put (cs := #[.int .i64 0, .int .i64 0]) ?_ 1 _ rfl; (with_reducible repeat (first | refine k_n ?_ _ | refine k_d ?_ | refine k_a ?_ _)); refine blk_put (cs := #[.int .i64 0, .int .i64 0]) ?_ 0 _ rfl; (with_reducible repeat (first | refine k_n ?_ _ | refine k_d ?_ | refine k_a ?_ _)); exact BK116.out) Try.underlying29 rfl (by kernel_rfl)) rfl ?_
  exact ⟨by first | rfl | (simp [errW_none, errW_some] <;> rfl) | (simp [*, errW_none, errW_some] <;> rfl), by repeat (first | (with_reducible first | exact HB.out | apply b_a | apply b_n | apply b_d | refine b_s ?_ GE116.out) | exact HB.out)⟩

 subst c5
 have H1 : (if a1 < 0 then (some (0, 0, 2)) else (if a1 ≥ a3 then (some (0, 0, 2)) else (if a3 = 0 then (none) else (some (wrap64 (Int.tdiv (wrap64 (a1 * a2)) a3), wrap64 (Int.tdiv (wrap64 ((wrap64 (a1 + 1)) * a2)) a3), 0))))) = some (r1, r2, r3) := by rw [if_pos rfl] at H; exact H
 clear H
 have H := H1
 clear H1
 by_cases c6 : a1 < 0
 ·
  rw [if_pos c6] at H
  have c6b0 : decide (a1 < 0) = true := decide_eq_true c6
  clear c6
  simp only [Option.some.injEq, Prod.mk.injEq] at H
  obtain ⟨rfl, rfl, rfl⟩ := H
  go_enter Try.func24, Try.ntmps24
  go_wp2_with (first | ((with_reducible refine gate_dst (N := 8) rfl ?_); refine box_event ?hg (N := 8) ?hd (cs := #[.int .i64 0, .int .i64 0]) (t := 29) ?hr ?_; (case hd => rfl); (case hg => rfl); (case hr => first | (go_simp; done) | (go_simp; rfl)); intro gb116 hg w7 hbox hb; have BK116 := Aside0.mk (hbox); have GW116 := Aside0.mk ((by rw [hg]; exact (below_size (bw_ HB)) : w.heap.size ≤ gb116)); have GE116 := Aside0.mk ((by rw [hg]; exact (below_size (bw_ HB)) : w.heap.size ≤ gb116)); replace HB := Aside0.mk (below_step (bw_ HB) hb); clear hb hbox hg; have hcz8_0 := bc_0 BK116; have hcz8_1 := bc_1 BK116; have hfz8_0 := blk_frozen BK116.out 0; have hfz8_1 := blk_frozen BK116.out 1))
  refine bodyPost_ret (results_ct rfl _ _ gb116 29 #[.int .i64 0, .int .i64 0] (0, 0) _ rfl (by (with_reducible repeat (first | refine k_n ?_ _ | refine k_d ?_ | refine k_a ?_ _)); refine blk_put (cs := #[.int .i64 0, .int .i64 0]) ?_ 1 _ rfl; (with_reducible repeat (first | refine k_n ?_ _ | refine k_d ?_ | refine k_a ?_ _)); refine blk_put (cs := #[.int .i64 0, .int .i64 0]) ?_ 0 _ rfl; (with_reducible repeat (first | refine k_n ?_ _ | refine k_d ?_ | refine k_a ?_ _)); exact BK116.out) Try.underlying29 rfl (by kernel_rfl)) rfl ?_
  exact ⟨by first | rfl | (simp [errW_none, errW_some] <;> rfl) | (simp [*, errW_none, errW_some] <;> rfl), by repeat (first | (with_reducible first | exact HB.out | apply b_a | apply b_n | apply b_d | refine b_s ?_ GE116.out) | exact HB.out)⟩
 rw [if_neg c6] at H
 have c6b0 : decide (a1 < 0) = false := decide_eq_false c6
 clear c6
 by_cases c9 : a1 ≥ a3
 ·
  rw [if_pos c9] at H
  have c9b0 : decide (a3 ≤ a1) = true := decide_eq_true c9
  clear c9
  simp only [Option.some.injEq, Prod.mk.injEq] at H
  obtain ⟨rfl, rfl, rfl⟩ := H
  go_enter Try.func24, Try.ntmps24
  go_wp2_with (first | ((with_reducible refine gate_dst (N := 8) rfl ?_); refine box_event ?hg (N := 8) ?hd (cs := #[.int .i64 0, .int .i64 0]) (t := 29) ?hr ?_; (case hd => rfl); (case hg => rfl); (case hr => first | (go_simp; done) | (go_simp; rfl)); intro gb116 hg w10 hbox hb; have BK116 := Aside0.mk (hbox); have GW116 := Aside0.mk ((by rw [hg]; exact (below_size (bw_ HB)) : w.heap.size ≤ gb116)); have GE116 := Aside0.mk ((by rw [hg]; exact (below_size (bw_ HB)) : w.heap.size ≤ gb116)); replace HB := Aside0.mk (below_step (bw_ HB) hb); clear hb hbox hg; have hcz11_0 := bc_0 BK116; have hcz11_1 := bc_1 BK116; have hfz11_0 := blk_frozen BK116.out 0; have hfz11_1 := blk_frozen BK116.out 1))
  refine bodyPost_ret (results_ct rfl _ _ gb116 29 #[.int .i64 0, .int .i64 0] (0, 0) _ rfl (by (with_reducible repeat (first | refine k_n ?_ _ | refine k_d ?_ | refine k_a ?_ _)); refine blk_put (cs := #[.int .i64 0, .int .i64 0]) ?_ 1 _ rfl; (with_reducible repeat (first | refine k_n ?_ _ | refine k_d ?_ | refine k_a ?_ _)); refine blk_put (cs := #[.int .i64 0, .int .i64 0]) ?_ 0 _ rfl; (with_reducible repeat (first | refine k_n ?_ _ | refine k_d ?_ | refine k_a ?_ _)); exact BK116.out) Try.underlying29 rfl (by kernel_rfl)) rfl ?_
  exact ⟨by first | rfl | (simp [errW_none, errW_some] <;> rfl) | (simp [*, errW_none, errW_some] <;> rfl), by repeat (first | (with_reducible first | exact HB.out | apply b_a | apply b_n | apply b_d | refine b_s ?_ GE116.out) | exact HB.out)⟩
 rw [if_neg c9] at H
 have c9b0 : decide (a3 ≤ a1) = false := decide_eq_false c9
 clear c9
 by_cases c12 : a3 = 0
 ·
  rw [if_pos c12] at H
  exact absurd H (by simp)
 rw [if_neg c12] at H
 have c12b0 : (a3 == 0) = false := beq_eq_false_iff_ne.mpr c12
 have c12b1 : (a3 != 0) = true := bne_iff_ne.mpr c12
 simp only [Option.some.injEq, Prod.mk.injEq] at H
 obtain ⟨rfl, rfl, rfl⟩ := H
 go_enter Try.func24, Try.ntmps24
 try go_wp2_with (first | ((with_reducible refine gate_dst (N := 8) rfl ?_); refine box_event ?hg (N := 8) ?hd (cs := #[.int .i64 0, .int .i64 0]) (t := 29) ?hr ?_; (case hd => rfl); (case hg => rfl); (case hr => first | (go_simp; done) | (go_simp; rfl)); intro gb116 hg w13 hbox hb; have BK116 := Aside0.mk (hbox); have GW116 := Aside0.mk ((by rw [hg]; exact (below_size (bw_ HB)) : w.heap.size ≤ gb116)); have GE116 := Aside0.mk ((by rw [hg]; exact (below_size (bw_ HB)) : w.heap.size ≤ gb116)); replace HB := Aside0.mk (below_step (bw_ HB) hb); clear hb hbox hg))
 replace BK116 := Aside0.mk (k_d BK116.out)
 replace HB := Aside0.mk (b_d HB.out)
 refine start_ (n := 14) (S := fun w' => True) (ds := []) #[false, false, false, false, false, false, false, false, false, false, false, false, false, false] (by kernel_rfl) rfl rfl trivial (fun hHeld => ?_); refine with_tabW slice_span.tab5 slice_span.bits5 (fun HT_ HW_ => ?_)
 generalize w13.drew = w14 at BK116 HB hHeld ⊢
 refine pu_ (i := 0) (N := some 23) (bs_ 14 1) rfl rfl HT_ ?_
 refine pu_ (i := 1) (N := some 24) (bs_ 14 3) rfl rfl HT_ ?_
 refine pu_ (i := 2) (N := some 25) (bs_ 14 7) rfl rfl HT_ ?_
 refine pu_ (i := 3) (N := some 26) (bs_ 14 15) rfl rfl HT_ ?_
 refine pu_ (i := 4) (N := some 27) (bs_ 14 31) rfl rfl HT_ ?_
 refine pu_ (i := 5) (N := some 28) (bs_ 14 63) rfl rfl HT_ ?_
 refine pu_ (i := 6) (N := some 29) (bs_ 14 127) rfl rfl HT_ ?_
 refine pu_ (i := 7) (N := some 30) (bs_ 14 255) rfl rfl HT_ ?_
 refine pu_ (i := 8) (N := some 31) (bs_ 14 511) rfl rfl HT_ ?_
 refine pu_ (i := 9) (N := some 32) (bs_ 14 1023) rfl rfl HT_ ?_
 refine pu_ (i := 10) (N := some 33) (bs_ 14 2047) rfl rfl HT_ ?_
 refine pu_ (i := 11) (N := some 34) (bs_ 14 4095) rfl rfl HT_ ?_
 refine one_ (i := 12) (N := none) (bs_ 14 8191) rfl rfl (one_of HT_.out (by kernel_rfl)) (by decide) (fun K hK => ?_)
 have hs15 := bc_0 BK116
 have hfs15 := blk_frozen BK116.out 0
 have hs16 := bc_1 BK116
 have hfs16 := blk_frozen BK116.out 1
 refine skip_ (w1 := ?_) (by rfl) rfl ?_ ?_
 rotate_left
 ·
  go_simp
  rfl
 refine hK.out _ _ trivial (fun hHeld => ?_)
 clear hK K
 refine pu_ (i := 13) (N := some 9) (bs_ 14 16383) rfl rfl HT_ ?_
 refine done_ (done_of HT_.out (by kernel_rfl)) ?_
 try go_wp2
 refine bodyPost_ret (results_ct rfl _ _ gb116 29 #[.int .i64 (wrap64 (Int.tdiv (wrap64 (a1 * a2)) a3)), .int .i64 (wrap64 (Int.tdiv (wrap64 ((wrap64 (a1 + 1)) * a2)) a3))] (0, 0) _ rfl (by (with_reducible repeat (first | refine k_n ?_ _ | refine k_d ?_ | refine k_a ?_ _)); refine blk_put (cs := #[.int .i64 (wrap64 (Int.tdiv (wrap64 (a1 * a2)) a3)), .int .i64 0]) ?_ 1 _ rfl; (with_reducible repeat (first | refine k_n ?_ _ | refine k_d ?_ | refine k_a ?_ _)); refine blk_put (cs := #[.int .i64 0, .int .i64 0]) ?_ 0 _ rfl; (with_reducible repeat (first | refine k_n ?_ _ | refine k_d ?_ | refine k_a ?_ _)); exact BK116.out) Try.underlying29 rfl (by kernel_rfl)) rfl ?_
 exact ⟨by first | rfl | (simp [errW_none, errW_some] <;> rfl) | (simp [*, errW_none, errW_some] <;> rfl), by repeat (first | (with_reducible first | exact HB.out | apply b_a | apply b_n | apply b_d | refine b_s ?_ GE116.out) | exact HB.out)⟩
/-! ### slice_Layers: function 11 -/
def slice_Layers.f (a0_0 : Int) (a0_1 : Int) (a0_2 : Int) (a0_3 : Int) (a0_4 : Int) (a0_5 : Int) (a1_0 : Int) (a1_1 : Int) (a2 : Int) : Option (Int × Int × Int) := (slice_Right.f a0_0 a0_1 a0_2 a0_3 a0_4 a0_5 a1_0 a1_1).bind fun t120 => ((slice_span.f t120 a2 a0_0 a1_0).bind fun bt121 => (some (bt121.1, bt121.2.1, bt121.2.2)))
def slice_Layers.T1 : Bool × List (List Nat × List Nat) := (true, [([], []), ([], []), ([0, 1], [0, 1]), ([], []), ([], []), ([4], [4]), ([], []), ([6], [6]), ([2, 3, 5, 7, 2], [2, 3, 5, 7]), ([8], [8]), ([8], [8]), ([9, 8, 0, 1, 2, 3, 4, 5, 6, 7, 8, 9, 10], [9]), ([10, 11, 0, 1, 2, 3, 4, 5, 6, 7, 8, 9, 10, 11], [10])])
def slice_Layers.B1 : List Nat := [0, 0, 3, 0, 0, 16, 0, 64, 255, 511, 511, 2047, 4095]
theorem slice_Layers.tab1 : rtab .any (opsOf Try.f11 1) = slice_Layers.T1 := by kernel_rfl
theorem slice_Layers.bits1 : waitsOk slice_Layers.T1.2 slice_Layers.B1 = true := by kernel_rfl
set_option maxHeartbeats 60000000 in
set_option maxRecDepth 100000 in
theorem slice_Layers.calls (a0_0 : Int) (a0_1 : Int) (a0_2 : Int) (a0_3 : Int) (a0_4 : Int) (a0_5 : Int) (a1_0 : Int) (a1_1 : Int) (a2 : Int) (r1 : Int) (r2 : Int) (r3 : Int) (w : World) (h : slice_Layers.f a0_0 a0_1 a0_2 a0_3 a0_4 a0_5 a1_0 a1_1 a2 = some (r1, r2, r3)) :
  Calls Try.prog 11 #[.agg #[.int .i64 a0_0, .int .i64 a0_1, .int .i64 a0_2, .int .i64 a0_3, .int .i64 a0_4, .int .i64 a0_5], .agg #[.int .i64 a1_0, .int .i64 a1_1], .int .i64 a2] w fun e w' => e = .returned (.tuple #[.agg #[.int .i64 r1, .int .i64 r2], .int .i64 r3]) ∧ Below w.heap.size w w' := by
 have hu23 := Try.underlying23
 have hu25 := Try.underlying25
 have hu29 := Try.underlying29
 have HB := Aside0.mk (Below.refl w.heap.size w)
 have H : ((slice_Right.f a0_0 a0_1 a0_2 a0_3 a0_4 a0_5 a1_0 a1_1).bind fun t120 => ((slice_span.f t120 a2 a0_0 a1_0).bind fun bt121 => (some (bt121.1, bt121.2.1, bt121.2.2)))) = some (r1, r2, r3) := h
 clear h
 replace H := Option.bind_eq_some_iff.mp H
 obtain ⟨t120, A40, H⟩ := H
 replace H : ((slice_span.f t120 a2 a0_0 a1_0).bind fun bt121 => (some (bt121.1, bt121.2.1, bt121.2.2))) = some (r1, r2, r3) := H
 have A4 := Aside0.mk A40
 clear A40
 replace H := Option.bind_eq_some_iff.mp H
 obtain ⟨⟨t121, t122, t123⟩, A50, H⟩ := H
 replace H : (some (t121, t122, t123)) = some (r1, r2, r3) := H
 have A5 := Aside0.mk A50
 clear A50
 simp only [Option.some.injEq, Prod.mk.injEq] at H
 obtain ⟨rfl, rfl, rfl⟩ := H
 go_enter Try.func11, Try.ntmps11
 try go_wp2_with (first | ((with_reducible refine gate_dst (N := 3) rfl ?_); refine box_event ?hg (N := 3) ?hd (cs := #[.int .i64 a0_0, .int .i64 a0_1, .int .i64 a0_2, .int .i64 a0_3, .int .i64 a0_4, .int .i64 a0_5]) (t := 23) ?hr ?_; (case hd => rfl); (case hg => rfl); (case hr => first | (go_simp; done) | (go_simp; rfl)); intro gb117 hg w6 hbox hb; have BK117 := Aside0.mk (hbox); have GW117 := Aside0.mk ((by rw [hg]; exact (below_size (bw_ HB)) : w.heap.size ≤ gb117)); have GE117 := Aside0.mk ((by rw [hg]; exact (below_size (bw_ HB)) : w.heap.size ≤ gb117)); replace HB := Aside0.mk (below_step (bw_ HB) hb); clear hb hbox hg) | ((with_reducible refine gate_dst (N := 4) rfl ?_); refine box_event ?hg (N := 4) ?hd (cs := #[.int .i64 a1_0, .int .i64 a1_1]) (t := 25) ?hr ?_; (case hd => rfl); (case hg => rfl); (case hr => first | (go_simp; done) | (go_simp; rfl)); intro gb118 hg w7 hbox hb; have BK118 := Aside0.mk (hbox); have GW118 := Aside0.mk ((by rw [hg]; exact (below_size (bw_ HB)) : w.heap.size ≤ gb118)); have GE118 := Aside0.mk ((by rw [hg]; exact (below_size (bw_ HB)) : w.heap.size ≤ gb118)); have NB117_118 := Aside0.mk ((by rw [hg]; exact Nat.ne_of_lt (blk_lt (tk_ BK117)) : gb117 ≠ gb118)); have NB118_117 := Aside0.mk ((by rw [hg]; exact Nat.ne_of_gt (blk_lt (tk_ BK117)) : gb118 ≠ gb117)); replace BK117 := Aside0.mk (blk_below (tk_ BK117) hb); replace HB := Aside0.mk (below_step (bw_ HB) hb); clear hb hbox hg) | ((with_reducible refine gate_dst (N := 6) rfl ?_); refine box_event ?hg (N := 6) ?hd (cs := #[.int .i64 0, .int .i64 0]) (t := 29) ?hr ?_; (case hd => rfl); (case hg => rfl); (case hr => first | (go_simp; done) | (go_simp; rfl)); intro gb119 hg w8 hbox hb; have BK119 := Aside0.mk (hbox); have GW119 := Aside0.mk ((by rw [hg]; exact (below_size (bw_ HB)) : w.heap.size ≤ gb119)); have GE119 := Aside0.mk ((by rw [hg]; exact (below_size (bw_ HB)) : w.heap.size ≤ gb119)); have NB117_119 := Aside0.mk ((by rw [hg]; exact Nat.ne_of_lt (blk_lt (tk_ BK117)) : gb117 ≠ gb119)); have NB119_117 := Aside0.mk ((by rw [hg]; exact Nat.ne_of_gt (blk_lt (tk_ BK117)) : gb119 ≠ gb117)); have NB118_119 := Aside0.mk ((by rw [hg]; exact Nat.ne_of_lt (blk_lt (tk_ BK118)) : gb118 ≠ gb119)); have NB119_118 := Aside0.mk ((by rw [hg]; exact Nat.ne_of_gt (blk_lt (tk_ BK118)) : gb119 ≠ gb118)); replace BK117 := Aside0.mk (blk_below (tk_ BK117) hb); replace BK118 := Aside0.mk (blk_below (tk_ BK118) hb); replace HB := Aside0.mk (below_step (bw_ HB) hb); clear hb hbox hg))
 replace BK117 := Aside0.mk (k_d BK117.out)
 replace BK118 := Aside0.mk (k_d BK118.out)
 replace BK119 := Aside0.mk (k_d BK119.out)
 replace HB := Aside0.mk (b_d HB.out)
 refine start_ (n := 13) (S := fun w' => w'.cell? ⟨gb117, 0, none⟩ = some (.int .i64 a0_0) ∧ w'.cell? ⟨gb117, 1, none⟩ = some (.int .i64 a0_1) ∧ w'.cell? ⟨gb117, 2, none⟩ = some (.int .i64 a0_2) ∧ w'.cell? ⟨gb117, 3, none⟩ = some (.int .i64 a0_3) ∧ w'.cell? ⟨gb117, 4, none⟩ = some (.int .i64 a0_4) ∧ w'.cell? ⟨gb117, 5, none⟩ = some (.int .i64 a0_5) ∧ w'.cell? ⟨gb118, 0, none⟩ = some (.int .i64 a1_0) ∧ w'.cell? ⟨gb118, 1, none⟩ = some (.int .i64 a1_1)) (ds := []) #[false, false, false, false, false, false, false, false, false, false, false, false, false] (by kernel_rfl) rfl rfl ⟨(blk_cell BK117.out 0).trans rfl, (blk_cell BK117.out 1).trans rfl, (blk_cell BK117.out 2).trans rfl, (blk_cell BK117.out 3).trans rfl, (blk_cell BK117.out 4).trans rfl, (blk_cell BK117.out 5).trans rfl, (blk_cell BK118.out 0).trans rfl, (blk_cell BK118.out 1).trans rfl⟩ (fun hHeld => ?_); refine with_tabW slice_Layers.tab1 slice_Layers.bits1 (fun HT_ HW_ => ?_)
 generalize w8.drew = w9 at BK117 BK118 BK119 HB hHeld ⊢
 refine pu_ (i := 3) (N := some 11) (bs_ 13 8) rfl rfl HT_ ?_
 refine pu_ (i := 4) (N := some 12) (bs_ 13 24) rfl rfl HT_ ?_
 refine pu_ (i := 6) (N := some 14) (bs_ 13 88) rfl rfl HT_ ?_
 refine take_ (i := 0) (N := some 8) (v := ?_) (a' := ?_) (bs_ 13 89) rfl rfl (take_ofW HT_.out HW_.out (by kernel_rfl)) (fun _ _ _ h => h) (Or.inl ⟨by rfl, ?_⟩) hHeld ?_ ?_
 rotate_left
 ·
  rintro w' ⟨s0, s1, s2, s3, s4, s5, s6, s7⟩
  go_simp
  with_reducible rfl
 rotate_left
 ·
  simp only [Act.put, l_1, l_2, l_3, i64_w, i32_w]
  rfl
 refine take_ (i := 1) (N := some 9) (v := ?_) (a' := ?_) (bs_ 13 91) rfl rfl (take_ofW HT_.out HW_.out (by kernel_rfl)) (fun _ _ _ h => h) (Or.inl ⟨by rfl, ?_⟩) hHeld ?_ ?_
 rotate_left
 ·
  rintro w' ⟨s0, s1, s2, s3, s4, s5, s6, s7⟩
  go_simp
  with_reducible rfl
 rotate_left
 ·
  simp only [Act.put, l_1, l_2, l_3, i64_w, i32_w]
  rfl
 refine take_ (i := 5) (N := some 13) (v := ?_) (a' := ?_) (bs_ 13 123) rfl rfl (take_ofW HT_.out HW_.out (by kernel_rfl)) (fun _ _ _ h => h) (Or.inl ⟨by rfl, ?_⟩) hHeld ?_ ?_
 rotate_left
 ·
  rintro w' ⟨s0, s1, s2, s3, s4, s5, s6, s7⟩
  go_simp
  with_reducible rfl
 rotate_left
 ·
  simp only [Act.put, l_1, l_2, l_3, i64_w, i32_w]
  rfl
 refine take_ (i := 7) (N := some 15) (v := ?_) (a' := ?_) (bs_ 13 251) rfl rfl (take_ofW HT_.out HW_.out (by kernel_rfl)) (fun _ _ _ h => h) (Or.inl ⟨by rfl, ?_⟩) hHeld ?_ ?_
 rotate_left
 ·
  rintro w' ⟨s0, s1, s2, s3, s4, s5, s6, s7⟩
  go_simp
  with_reducible rfl
 rotate_left
 ·
  simp only [Act.put, l_1, l_2, l_3, i64_w, i32_w]
  rfl
 refine one_ (i := 2) (N := some 10) (bs_ 13 255) rfl rfl (one_of HT_.out (by kernel_rfl)) (by decide) (fun K hK => ?_)
 refine goes_ Try.func9 (by kernel_rfl) rfl #[.agg #[.int .i64 a0_0, .int .i64 a0_1, .int .i64 a0_2, .int .i64 a0_3, .int .i64 a0_4, .int .i64 a0_5], .agg #[.int .i64 a1_0, .int .i64 a1_1]] (by rfl) rfl rfl (by (try simp only [l_4, l_5, l_6]); first | done | rfl | (simp only [l_7, l_8]; rfl)) ?_
 with_reducible refine (slice_Right.calls a0_0 a0_1 a0_2 a0_3 a0_4 a0_5 a1_0 a1_1 t120 _ A4.out).mono ?_
 rintro e w10 ⟨rfl, hb⟩
 refine ⟨_, rfl, ?_⟩
 replace BK117 := Aside0.mk (blk_below (tk_ BK117) hb)
 replace BK118 := Aside0.mk (blk_below (tk_ BK118) hb)
 replace BK119 := Aside0.mk (blk_below (tk_ BK119) hb)
 replace HB := Aside0.mk (below_step (bw_ HB) hb)
 (try clear hb)
 (try clear hb2)
 (try clear hk)
 (try clear hi)
 refine hK.out _ _ ⟨(blk_cell BK117.out 0).trans rfl, (blk_cell BK117.out 1).trans rfl, (blk_cell BK117.out 2).trans rfl, (blk_cell BK117.out 3).trans rfl, (blk_cell BK117.out 4).trans rfl, (blk_cell BK117.out 5).trans rfl, (blk_cell BK118.out 0).trans rfl, (blk_cell BK118.out 1).trans rfl⟩ (fun hHeld => ?_)
 clear hK K
 refine no_ (N := some 10) ?_
 refine one_ (i := 8) (N := some 16) (bs_ 13 511) rfl rfl (one_of HT_.out (by kernel_rfl)) (by decide) (fun K hK => ?_)
 refine goes_ Try.func24 (by kernel_rfl) rfl #[.bool t120, .int .i64 a2, .int .i64 a0_0, .int .i64 a1_0] (by rfl) rfl rfl (by (try simp only [l_4, l_5, l_6]); first | done | rfl | (simp only [l_7, l_8]; rfl)) ?_
 with_reducible refine (slice_span.calls t120 a2 a0_0 a1_0 t121 t122 t123 _ A5.out).mono ?_
 rintro e w11 ⟨rfl, hb⟩
 refine ⟨_, rfl, ?_⟩
 replace BK117 := Aside0.mk (blk_below (tk_ BK117) hb)
 replace BK118 := Aside0.mk (blk_below (tk_ BK118) hb)
 replace BK119 := Aside0.mk (blk_below (tk_ BK119) hb)
 replace HB := Aside0.mk (below_step (bw_ HB) hb)
 (try clear hb)
 (try clear hb2)
 (try clear hk)
 (try clear hi)
 refine hK.out _ _ ⟨(blk_cell BK117.out 0).trans rfl, (blk_cell BK117.out 1).trans rfl, (blk_cell BK117.out 2).trans rfl, (blk_cell BK117.out 3).trans rfl, (blk_cell BK117.out 4).trans rfl, (blk_cell BK117.out 5).trans rfl, (blk_cell BK118.out 0).trans rfl, (blk_cell BK118.out 1).trans rfl⟩ (fun hHeld => ?_)
 clear hK K
 refine no_ (N := some 16) ?_
 refine pu_ (i := 9) (N := some 17) (bs_ 13 1023) rfl rfl HT_ ?_
 refine pu_ (i := 10) (N := some 18) (bs_ 13 2047) rfl rfl HT_ ?_
 refine one_ (i := 11) (N := none) (bs_ 13 4095) rfl rfl (one_of HT_.out (by kernel_rfl)) (by decide) (fun K hK => ?_)
 have hs12 := bc_0 BK119
 have hfs12 := blk_frozen BK119.out 0
 have hns12_0 := NB117_119.out
 have hns12_1 := NB118_119.out
 have hms12_0 := NB119_117.out
 have hms12_1 := NB119_118.out
 have hs13 := bc_1 BK119
 have hfs13 := blk_frozen BK119.out 1
 have hns13_0 := NB117_119.out
 have hns13_1 := NB118_119.out
 have hms13_0 := NB119_117.out
 have hms13_1 := NB119_118.out
 refine skip_ (w1 := ?_) (by rfl) rfl ?_ ?_
 rotate_left
 ·
  go_simp
  rfl
 refine hK.out _ _ ⟨((cell_far (p := ⟨gb119, _, none⟩) NB117_119.out _).trans (((cell_far (p := ⟨gb119, _, none⟩) NB117_119.out _).trans (hHeld.1)))), ((cell_far (p := ⟨gb119, _, none⟩) NB117_119.out _).trans (((cell_far (p := ⟨gb119, _, none⟩) NB117_119.out _).trans (hHeld.2.1)))), ((cell_far (p := ⟨gb119, _, none⟩) NB117_119.out _).trans (((cell_far (p := ⟨gb119, _, none⟩) NB117_119.out _).trans (hHeld.2.2.1)))), ((cell_far (p := ⟨gb119, _, none⟩) NB117_119.out _).trans (((cell_far (p := ⟨gb119, _, none⟩) NB117_119.out _).trans (hHeld.2.2.2.1)))), ((cell_far (p := ⟨gb119, _, none⟩) NB117_119.out _).trans (((cell_far (p := ⟨gb119, _, none⟩) NB117_119.out _).trans (hHeld.2.2.2.2.1)))), ((cell_far (p := ⟨gb119, _, none⟩) NB117_119.out _).trans (((cell_far (p := ⟨gb119, _, none⟩) NB117_119.out _).trans (hHeld.2.2.2.2.2.1)))), ((cell_far (p := ⟨gb119, _, none⟩) NB118_119.out _).trans (((cell_far (p := ⟨gb119, _, none⟩) NB118_119.out _).trans (hHeld.2.2.2.2.2.2.1)))), ((cell_far (p := ⟨gb119, _, none⟩) NB118_119.out _).trans (((cell_far (p := ⟨gb119, _, none⟩) NB118_119.out _).trans (hHeld.2.2.2.2.2.2.2))))⟩ (fun hHeld => ?_)
 clear hK K
 refine pu_ (i := 12) (N := some 7) (bs_ 13 8191) rfl rfl HT_ ?_
 refine done_ (done_of HT_.out (by kernel_rfl)) ?_
 try go_wp2
 refine bodyPost_ret (results_ct rfl _ _ gb119 29 #[.int .i64 t121, .int .i64 t122] (0, 0) _ rfl (by (with_reducible repeat (first | refine k_n ?_ _ | refine k_d ?_ | refine k_a ?_ _)); refine blk_put (cs := #[.int .i64 t121, .int .i64 0]) ?_ 1 _ rfl; (with_reducible repeat (first | refine k_n ?_ _ | refine k_d ?_ | refine k_a ?_ _)); refine blk_put (cs := #[.int .i64 0, .int .i64 0]) ?_ 0 _ rfl; (with_reducible repeat (first | refine k_n ?_ _ | refine k_d ?_ | refine k_a ?_ _)); exact BK119.out) Try.underlying29 rfl (by kernel_rfl)) rfl ?_
 exact ⟨by first | rfl | (simp [errW_none, errW_some] <;> rfl) | (simp [*, errW_none, errW_some] <;> rfl), by repeat (first | (with_reducible first | exact HB.out | apply b_a | apply b_n | apply b_d | refine b_s ?_ GE117.out | refine b_s ?_ GE118.out | refine b_s ?_ GE119.out) | exact HB.out)⟩

end Go.Proofs.Ytijkcjlkfjeedaa.QSliceOwns
