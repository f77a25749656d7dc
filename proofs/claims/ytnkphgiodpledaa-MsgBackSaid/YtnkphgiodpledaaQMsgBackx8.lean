-- Written by a program of this session (a turned copy of the print) out of the translation. Lean checks it.
import Derived.Test.YtnkphgiodpledaaQMsgBackx0
import Derived.Test.YtnkphgiodpledaaQMsgBackx1
import Derived.Test.YtnkphgiodpledaaQMsgBackx7
namespace Go.Proofs.Ytnkphgiodpledaa.QMsgBack
open Go.RowKit Go.Proofs.YtnkphgiodpledaaW.PrintWords Go.Proofs.YtnkphgiodpledaaW.PrintLast Go.Proofs.YtnkphgiodpledaaW.PrintMore
attribute [local go_sem] max2_int min2_int max_two min_two max_three min_three max_four min_four   -- for this text's walks alone
open Go.Proofs.YtnkphgiodpledaaW.PrintWords renaming below_alloc → b_a, pw_below_drewN → b_n, below_drew1 → b_d, below_set → b_s, blk_drewN → k_n, blk_drew → k_d, blk_alloc → k_a
open List renaming setIfInBounds_toArray → l_1, set_cons_zero → l_2, set_cons_succ → l_3, map_toArray → l_4, map_cons → l_5, map_nil → l_6, length_drop → l_7, length_take → l_8
set_option linter.unusedVariables false
set_option linter.unusedSimpArgs false

/-! ### frame_Parse: function 28 -/
def frame_Parse.f (k : Nat) (l0 : List Int) : Option (Int × List Int × Int) := (frame_size.f k l0).bind fun bt185 => (if bt185.2 = 0 then (if (l0.length : Int) < bt185.1 then (some (0, ([] : List Int), 70)) else (if (l0.length : Int) > bt185.1 then (some (0, ([] : List Int), 72)) else (if 0 ≤ (wrap64 (bt185.1 - 4)) then (if (wrap64 (bt185.1 - 4)) ≤ (l0.length : Int) then ((frame_word.f (l0.drop ((wrap64 (bt185.1 - 4)) : Int).toNat)).bind fun t192 => ((weight_Sum.f (([(l0.take ((wrap64 (bt185.1 - 4)) : Int).toNat)] : List (List Int)))).bind fun t201 => (if t192 = t201 then (if 3 < (l0.length : Int) then (if 8 ≤ (wrap64 (bt185.1 - 4)) then ((bytes_Clone.f ((l0.take ((wrap64 (bt185.1 - 4)) : Int).toNat).drop 8)).bind fun t208 => (some (rd l0 3, t208, 0))) else (none)) else (none)) else (some (0, ([] : List Int), 73))))) else (none)) else (none)))) else (some (0, ([] : List Int), bt185.2)))
theorem frame_Parse.mono : ∀ a0 k, LeO (frame_Parse.f k a0) (frame_Parse.f (k + 1) a0) := by
 intro a0 k
 unfold frame_Parse.f
 repeat' first
   | (with_reducible exact frame_size.mono _ _)
   | (with_reducible exact LeO.refl _)
   | (with_reducible exact LeO.none _)
   | (with_reducible refine LeO.ite ?_ ?_)
   | (with_reducible refine LeO.bind ?_ (fun _ => ?_))
   | exact frame_size.mono _ _
   | exact LeO.none _
   | refine LeO.ite ?_ ?_
   | refine LeO.bind ?_ (fun _ => ?_)
def frame_Parse.T8 : Bool × List (List Nat × List Nat) := (true, [([], []), ([], []), ([1], [1]), ([0, 2], [0, 2]), ([3], [3]), ([], []), ([], []), ([6], [6]), ([5, 7], [5, 7]), ([8], [8]), ([9, 4], [9]), ([4, 10], [4, 10]), ([11, 10], [11])])
def frame_Parse.B8 : List Nat := [0, 0, 2, 7, 15, 0, 0, 64, 224, 480, 1023, 2047, 4095]
theorem frame_Parse.tab8 : rtab .any (opsOf Try.f28 8) = frame_Parse.T8 := by kernel_rfl
theorem frame_Parse.bits8 : waitsOk frame_Parse.T8.2 frame_Parse.B8 = true := by kernel_rfl
def frame_Parse.T10 : Bool × List (List Nat × List Nat) := (true, [([], []), ([0], [0]), ([1], [1]), ([], []), ([], []), ([4], [4]), ([3, 5], [3, 5]), ([6], [6]), ([2, 7, 0, 1, 2], [2]), ([7, 8, 0, 1, 2, 3, 4, 5, 6, 7, 8], [7]), ([9, 0, 1, 2, 3, 4, 5, 6, 7, 8, 9], [])])
def frame_Parse.B10 : List Nat := [0, 1, 3, 0, 0, 16, 56, 120, 255, 511, 1023]
theorem frame_Parse.tab10 : rtab .any (opsOf Try.f28 10) = frame_Parse.T10 := by kernel_rfl
theorem frame_Parse.bits10 : waitsOk frame_Parse.T10.2 frame_Parse.B10 = true := by kernel_rfl
set_option maxHeartbeats 60000000 in
set_option maxRecDepth 100000 in
theorem frame_Parse.callsV (k : Nat) (P0_ : Nat → Prop) (A0 : Option Addr) (c0 : Nat) (l0 : List Int) (r1 : Int) (r2 : List Int) (r3 : Int) (w : World) (hs0 : Kd.V (Kd.int .u8) 5 w w.heap.size (fun k_ => P0_ k_) (.slice A0 l0.length c0) l0) (h : frame_Parse.f k l0 = some (r1, r2, r3)) :
  Calls Try.prog 28 #[.slice A0 l0.length c0] w fun e w' => ∃ v1_ : Value, e = .returned (.tuple #[.int .u8 r1, v1_, .int .i64 r3]) ∧ Kd.R (Kd.int .u8) 5 w' w.heap.size (fun k_ => (w.heap.size ≤ k_)) v1_ r2 ∧ Below w.heap.size w w' := by
 have HO0 := Aside0.mk (show Kd.V (Kd.int .u8) 5 w w.heap.size (fun k_ => (P0_ k_ ∨ w.heap.size ≤ k_)) (.slice A0 l0.length c0) l0 from Kd.V_mono hs0 (fun k_ hk => .inl hk))
 have HB := Aside0.mk (Below.refl w.heap.size w)
 have H : ((frame_size.f k l0).bind fun bt185 => (if bt185.2 = 0 then (if (l0.length : Int) < bt185.1 then (some (0, ([] : List Int), 70)) else (if (l0.length : Int) > bt185.1 then (some (0, ([] : List Int), 72)) else (if 0 ≤ (wrap64 (bt185.1 - 4)) then (if (wrap64 (bt185.1 - 4)) ≤ (l0.length : Int) then ((frame_word.f (l0.drop ((wrap64 (bt185.1 - 4)) : Int).toNat)).bind fun t192 => ((weight_Sum.f (([(l0.take ((wrap64 (bt185.1 - 4)) : Int).toNat)] : List (List Int)))).bind fun t201 => (if t192 = t201 then (if 3 < (l0.length : Int) then (if 8 ≤ (wrap64 (bt185.1 - 4)) then ((bytes_Clone.f ((l0.take ((wrap64 (bt185.1 - 4)) : Int).toNat).drop 8)).bind fun t208 => (some (rd l0 3, t208, 0))) else (none)) else (none)) else (some (0, ([] : List Int), 73))))) else (none)) else (none)))) else (some (0, ([] : List Int), bt185.2)))) = some (r1, r2, r3) := h
 clear h
 replace H := Option.bind_eq_some_iff.mp H
 obtain ⟨⟨t185, t186⟩, A20, H⟩ := H
 replace H : (if t186 = 0 then (if (l0.length : Int) < t185 then (some (0, ([] : List Int), 70)) else (if (l0.length : Int) > t185 then (some (0, ([] : List Int), 72)) else (if 0 ≤ (wrap64 (t185 - 4)) then (if (wrap64 (t185 - 4)) ≤ (l0.length : Int) then ((frame_word.f (l0.drop ((wrap64 (t185 - 4)) : Int).toNat)).bind fun t192 => ((weight_Sum.f (([(l0.take ((wrap64 (t185 - 4)) : Int).toNat)] : List (List Int)))).bind fun t201 => (if t192 = t201 then (if 3 < (l0.length : Int) then (if 8 ≤ (wrap64 (t185 - 4)) then ((bytes_Clone.f ((l0.take ((wrap64 (t185 - 4)) : Int).toNat).drop 8)).bind fun t208 => (some (rd l0 3, t208, 0))) else (none)) else (none)) else (some (0, ([] : List Int), 73))))) else (none)) else (none)))) else (some (0, ([] : List Int), t186))) = some (r1, r2, r3) := H
 have A2 := Aside0.mk A20
 clear A20
 by_cases c3 : t186 = 0
 rotate_left
 ·
  rw [if_neg c3] at H
  have c3b0 : (t186 == 0) = false := beq_eq_false_iff_ne.mpr c3
  have c3b1 : (t186 != 0) = true := bne_iff_ne.mpr c3
  simp only [Option.some.injEq, Prod.mk.injEq] at H
  obtain ⟨rfl, rfl, rfl⟩ := H
  go_enter Try.func28, Try.ntmps28
  go_wp2_with (first | ((with_reducible refine gate_callee (f := 37) rfl ?_); refine goesL_ (some 9) rfl rfl Try.func37 (by kernel_rfl) rfl #[.slice A0 l0.length c0] rfl (by (try simp only [l_4, l_5, l_6]); first | done | rfl | (simp only [l_7, l_8]; rfl)) ?_; (with_reducible refine (frame_size.calls k _ _ l0 t185 t186 _ ?side1 ?side2 A2.out).mono ?_); (case side1 => repeat (first | exact (Kd.V_reads' HO0.out).2.2 | (with_reducible refine Kd.C_alloc ?_ _) | (with_reducible refine Kd.C_drewN ?_ _) | (with_reducible refine Kd.C_drew ?_))); (case side2 => exact (Kd.V_reads' HO0.out).2.1); rintro e w' ⟨rfl, ⟨nd, rfl⟩⟩; refine ⟨_, rfl, ?_⟩))
  go_ret3
  exact ⟨_, by first | rfl | (simp [errW_none, errW_some] <;> rfl) | (simp [*, errW_none, errW_some] <;> rfl), by first | exact Kd.R_nil _ _ _ _ _ | exact Kd.N_nil _ _ _ _ _ | exact Kd.V_nil _ _ _ _ _ | exact Kd.Q_nil _ _ _ _ _ | exact Kd.S_nil _ _ _ _ _, by repeat (first | (with_reducible first | exact HB.out | apply b_a | apply b_n | apply b_d) | exact HB.out)⟩

 rw [if_pos c3] at H
 have c3b0 : (t186 == 0) = true := beq_iff_eq.mpr c3
 have c3b1 : (t186 != 0) = false := bne_eq_false_iff_eq.mpr c3
 clear c3
 by_cases c4 : (l0.length : Int) < t185
 ·
  rw [if_pos c4] at H
  have c4b0 : decide ((l0.length : Int) < t185) = true := decide_eq_true c4
  clear c4
  simp only [Option.some.injEq, Prod.mk.injEq] at H
  obtain ⟨rfl, rfl, rfl⟩ := H
  go_enter Try.func28, Try.ntmps28
  go_wp2_with (first | ((with_reducible refine gate_callee (f := 37) rfl ?_); refine goesL_ (some 9) rfl rfl Try.func37 (by kernel_rfl) rfl #[.slice A0 l0.length c0] rfl (by (try simp only [l_4, l_5, l_6]); first | done | rfl | (simp only [l_7, l_8]; rfl)) ?_; (with_reducible refine (frame_size.calls k _ _ l0 t185 t186 _ ?side1 ?side2 A2.out).mono ?_); (case side1 => repeat (first | exact (Kd.V_reads' HO0.out).2.2 | (with_reducible refine Kd.C_alloc ?_ _) | (with_reducible refine Kd.C_drewN ?_ _) | (with_reducible refine Kd.C_drew ?_))); (case side2 => exact (Kd.V_reads' HO0.out).2.1); rintro e w' ⟨rfl, ⟨nd, rfl⟩⟩; refine ⟨_, rfl, ?_⟩))
  go_ret3
  exact ⟨_, by first | rfl | (simp [errW_none, errW_some] <;> rfl) | (simp [*, errW_none, errW_some] <;> rfl), by first | exact Kd.R_nil _ _ _ _ _ | exact Kd.N_nil _ _ _ _ _ | exact Kd.V_nil _ _ _ _ _ | exact Kd.Q_nil _ _ _ _ _ | exact Kd.S_nil _ _ _ _ _, by repeat (first | (with_reducible first | exact HB.out | apply b_a | apply b_n | apply b_d) | exact HB.out)⟩
 rw [if_neg c4] at H
 have c4b0 : decide ((l0.length : Int) < t185) = false := decide_eq_false c4
 clear c4
 by_cases c5 : (l0.length : Int) > t185
 ·
  rw [if_pos c5] at H
  have c5b0 : decide (t185 < (l0.length : Int)) = true := decide_eq_true c5
  clear c5
  simp only [Option.some.injEq, Prod.mk.injEq] at H
  obtain ⟨rfl, rfl, rfl⟩ := H
  go_enter Try.func28, Try.ntmps28
  go_wp2_with (first | ((with_reducible refine gate_callee (f := 37) rfl ?_); refine goesL_ (some 9) rfl rfl Try.func37 (by kernel_rfl) rfl #[.slice A0 l0.length c0] rfl (by (try simp only [l_4, l_5, l_6]); first | done | rfl | (simp only [l_7, l_8]; rfl)) ?_; (with_reducible refine (frame_size.calls k _ _ l0 t185 t186 _ ?side1 ?side2 A2.out).mono ?_); (case side1 => repeat (first | exact (Kd.V_reads' HO0.out).2.2 | (with_reducible refine Kd.C_alloc ?_ _) | (with_reducible refine Kd.C_drewN ?_ _) | (with_reducible refine Kd.C_drew ?_))); (case side2 => exact (Kd.V_reads' HO0.out).2.1); rintro e w' ⟨rfl, ⟨nd, rfl⟩⟩; refine ⟨_, rfl, ?_⟩))
  go_ret3
  exact ⟨_, by first | rfl | (simp [errW_none, errW_some] <;> rfl) | (simp [*, errW_none, errW_some] <;> rfl), by first | exact Kd.R_nil _ _ _ _ _ | exact Kd.N_nil _ _ _ _ _ | exact Kd.V_nil _ _ _ _ _ | exact Kd.Q_nil _ _ _ _ _ | exact Kd.S_nil _ _ _ _ _, by repeat (first | (with_reducible first | exact HB.out | apply b_a | apply b_n | apply b_d) | exact HB.out)⟩
 rw [if_neg c5] at H
 have c5b0 : decide (t185 < (l0.length : Int)) = false := decide_eq_false c5
 clear c5
 obtain ⟨ji6, hji6⟩ : ∃ j_ : Int, (wrap64 (t185 - 4)) = j_ := ⟨_, rfl⟩
 replace H : (if 0 ≤ (ji6) then (if (ji6) ≤ (l0.length : Int) then ((frame_word.f (l0.drop ((ji6) : Int).toNat)).bind fun t192 => ((weight_Sum.f (([(l0.take ((ji6) : Int).toNat)] : List (List Int)))).bind fun t201 => (if t192 = t201 then (if 3 < (l0.length : Int) then (if 8 ≤ (ji6) then ((bytes_Clone.f ((l0.take ((ji6) : Int).toNat).drop 8)).bind fun t208 => (some (rd l0 3, t208, 0))) else (none)) else (none)) else (some (0, ([] : List Int), 73))))) else (none)) else (none)) = some (r1, r2, r3) := by first | (rw [hji6] at H; exact H) | (simp only [hji6] at H ⊢; exact H)
 (try rw [hji6] at A2)
 have hji6w : (IntKind.i64.wrap (t185 - 4)) = ji6 := (i64_w _).trans hji6
 by_cases c7 : 0 ≤ (ji6)
 rotate_left
 ·
  rw [if_neg c7] at H
  exact absurd H (by simp)
 rw [if_pos c7] at H
 have c7b0 := eq_true c7
 have c7b1 : decide (0 ≤ (ji6)) = true := decide_eq_true c7
 clear c7
 by_cases c8 : (ji6) ≤ (l0.length : Int)
 rotate_left
 ·
  rw [if_neg c8] at H
  exact absurd H (by simp)
 rw [if_pos c8] at H
 have c8b0 := eq_true c8
 have c8b1 : decide ((ji6) ≤ (l0.length : Int)) = true := decide_eq_true c8
 clear c8
 obtain ⟨y187, hy187⟩ : ∃ y_ : List Int, y_ = (l0.drop ((ji6) : Int).toNat) := ⟨_, rfl⟩
 replace H : ((frame_word.f y187).bind fun t192 => ((weight_Sum.f (([(l0.take ((ji6) : Int).toNat)] : List (List Int)))).bind fun t201 => (if t192 = t201 then (if 3 < (l0.length : Int) then (if 8 ≤ (ji6) then ((bytes_Clone.f ((l0.take ((ji6) : Int).toNat).drop 8)).bind fun t208 => (some (rd l0 3, t208, 0))) else (none)) else (none)) else (some (0, ([] : List Int), 73))))) = some (r1, r2, r3) := by first | (rw [hy187]; with_reducible exact H) | (have H2_ := (Option.bind_some _ _).symm.trans H; rw [hy187]; with_reducible exact H2_) | (have H2_ := (Option.bind_some _ _).symm.trans H; with_reducible exact H2_) | with_reducible exact H | (rw [hy187]; exact H) | exact H
 have Ny187 := Aside0.mk hy187
 clear hy187
 replace H := Option.bind_eq_some_iff.mp H
 obtain ⟨t192, A90, H⟩ := H
 replace H : ((weight_Sum.f (([(l0.take ((ji6) : Int).toNat)] : List (List Int)))).bind fun t201 => (if t192 = t201 then (if 3 < (l0.length : Int) then (if 8 ≤ (ji6) then ((bytes_Clone.f ((l0.take ((ji6) : Int).toNat).drop 8)).bind fun t208 => (some (rd l0 3, t208, 0))) else (none)) else (none)) else (some (0, ([] : List Int), 73)))) = some (r1, r2, r3) := H
 have A9 := Aside0.mk A90
 clear A90
 have c10b0 := eq_true (of_decide_eq_true (by first | (with_reducible assumption) | assumption) : 0 ≤ (ji6))
 have c11b0 := eq_true (of_decide_eq_true (by first | (with_reducible assumption) | assumption) : (ji6) ≤ (l0.length : Int))
 obtain ⟨y193, hy193⟩ : ∃ y_ : List Int, y_ = (l0.take ((ji6) : Int).toNat) := ⟨_, rfl⟩
 replace H : ((weight_Sum.f (([y193] : List (List Int)))).bind fun t201 => (if t192 = t201 then (if 3 < (l0.length : Int) then (if 8 ≤ (ji6) then ((bytes_Clone.f ((l0.take ((ji6) : Int).toNat).drop 8)).bind fun t208 => (some (rd l0 3, t208, 0))) else (none)) else (none)) else (some (0, ([] : List Int), 73)))) = some (r1, r2, r3) := by first | (rw [hy193]; with_reducible exact H) | (have H2_ := (Option.bind_some _ _).symm.trans H; rw [hy193]; with_reducible exact H2_) | (have H2_ := (Option.bind_some _ _).symm.trans H; with_reducible exact H2_) | with_reducible exact H | (rw [hy193]; exact H) | exact H
 have Ny193 := Aside0.mk hy193
 clear hy193
 obtain ⟨y198, hy198⟩ : ∃ y_ : List (List Int), y_ = (([y193] : List (List Int))) := ⟨_, rfl⟩
 replace H : ((weight_Sum.f y198).bind fun t201 => (if t192 = t201 then (if 3 < (l0.length : Int) then (if 8 ≤ (ji6) then ((bytes_Clone.f ((l0.take ((ji6) : Int).toNat).drop 8)).bind fun t208 => (some (rd l0 3, t208, 0))) else (none)) else (none)) else (some (0, ([] : List Int), 73)))) = some (r1, r2, r3) := by first | (rw [hy198]; with_reducible exact H) | (have H2_ := (Option.bind_some _ _).symm.trans H; rw [hy198]; with_reducible exact H2_) | (have H2_ := (Option.bind_some _ _).symm.trans H; with_reducible exact H2_) | with_reducible exact H | (rw [hy198]; exact H) | exact H
 have Ny198 := Aside0.mk hy198
 clear hy198
 replace H := Option.bind_eq_some_iff.mp H
 obtain ⟨t201, A120, H⟩ := H
 replace H : (if t192 = t201 then (if 3 < (l0.length : Int) then (if 8 ≤ (ji6) then ((bytes_Clone.f ((l0.take ((ji6) : Int).toNat).drop 8)).bind fun t208 => (some (rd l0 3, t208, 0))) else (none)) else (none)) else (some (0, ([] : List Int), 73))) = some (r1, r2, r3) := H
 have A12 := Aside0.mk A120
 clear A120
 by_cases c13 : t192 = t201
 rotate_left
 ·
  rw [if_neg c13] at H
  have c13b0 : (t192 == t201) = false := beq_eq_false_iff_ne.mpr c13
  have c13b1 : (t192 != t201) = true := bne_iff_ne.mpr c13
  simp only [Option.some.injEq, Prod.mk.injEq] at H
  obtain ⟨rfl, rfl, rfl⟩ := H
  go_enter Try.func28, Try.ntmps28
  try go_wp2_with (first | ((with_reducible refine gate_callee (f := 37) rfl ?_); refine goesL_ (some 9) rfl rfl Try.func37 (by kernel_rfl) rfl #[.slice A0 l0.length c0] rfl (by (try simp only [l_4, l_5, l_6]); first | done | rfl | (simp only [l_7, l_8]; rfl)) ?_; (with_reducible refine (frame_size.calls k _ _ l0 t185 t186 _ ?side1 ?side2 A2.out).mono ?_); (case side1 => repeat (first | exact (Kd.V_reads' HO0.out).2.2 | (with_reducible refine Kd.C_alloc ?_ _) | (with_reducible refine Kd.C_drewN ?_ _) | (with_reducible refine Kd.C_drew ?_))); (case side2 => exact (Kd.V_reads' HO0.out).2.1); rintro e w' ⟨rfl, ⟨nd, rfl⟩⟩; refine ⟨_, rfl, ?_⟩))
  replace HO0 := Aside0.mk (Kd.V_drew (Kd.V_drewN HO0.out nd))
  replace HB := Aside0.mk (b_d (b_n HB.out nd))
  have q30 : ((ji6) : Int) ≤ ((l0.length : Int) : Int) := of_decide_eq_true (by first | (with_reducible assumption) | assumption)
  obtain ⟨i030, hi030, _, hsz30, _⟩ := info_parts info5
  have hroom30 : l0.length ≤ c0 := (Kd.V_reads' HO0.out).2.1
  have hC30 : Kd.F (Kd.int .u8) _ _ A0 l0.length l0 := (Kd.V_at (base := w.heap.size) HO0.out).2.2
  have q030 : (0 : Int) ≤ ((ji6) : Int) := of_decide_eq_true (by first | (with_reducible assumption) | assumption)
  have hcut30 := cut_from (P := Try.prog) 29 5 .i64 Try.underlying29 hi030 1 hsz30 A0 l0.length c0 (ji6) q030 q30
  have hr30 := Kd.F_cut (m := ((ji6) : Int).toNat) (c := c0) hC30 (by omega) hroom30
  obtain ⟨A30, hA30⟩ : ∃ A1, A1 = (if c0 = ((ji6) : Int).toNat then A0 else (A0 : Option Addr).map (·.add (((ji6) : Int).toNat * 1))) := ⟨_, rfl⟩
  obtain ⟨c30, hc30⟩ : ∃ c1, c1 = c0 - ((ji6) : Int).toNat := ⟨_, rfl⟩
  have hy30 : y187.length = l0.length - ((ji6) : Int).toNat := (by rw [Ny187.out, l_7] <;> omega)
  rw [show (l0).drop ((ji6) : Int).toNat = y187 from Ny187.out.symm] at hr30
  replace hr30 : Kd.F (Kd.int .u8) _ _ A30 y187.length y187 := (by rw [hA30]; exact hr30)
  rw [← hy30, ← hA30, ← hc30] at hcut30
  have HO191 := Aside0.mk (show Kd.V (Kd.int .u8) 5 _ w.heap.size _ (.slice A30 y187.length c30) y187 from Kd.V_mk (by rw [hy30, hc30]; exact Nat.sub_le_sub_right hroom30 _) hr30)
  have HC191 := Aside0.mk (show y187.length ≤ c30 from by rw [hy30, hc30]; exact Nat.sub_le_sub_right hroom30 _)
  clear hr30 hC30 hroom30 hi030 hsz30 hc30
  have KY30 := Aside0.mk hy30
  have KA30 := Aside0.mk hA30
  clear hy30 hA30
  replace q30 := eq_true q30
  have q31 : ((ji6) : Int) ≤ ((l0.length : Int) : Int) := of_decide_eq_true (by first | (with_reducible assumption) | assumption)
  obtain ⟨i031, hi031, _, hsz31, _⟩ := info_parts info5
  have hroom31 : l0.length ≤ c0 := (Kd.V_reads' HO0.out).2.1
  have hC31 : Kd.F (Kd.int .u8) _ _ A0 l0.length l0 := (Kd.V_at (base := w.heap.size) HO0.out).2.2
  have hcut31 := cut_to (P := Try.prog) 29 5 .i64 Try.underlying29 hi031 A0 l0.length c0 (ji6) (of_decide_eq_true (by first | (with_reducible assumption) | assumption)) q31 hroom31
  have hr31 := Kd.F_take (m := ((ji6) : Int).toNat) hC31 (by omega)
  have hy31 : y193.length = ((ji6) : Int).toNat := (by rw [Ny193.out, l_8]; omega)
  rw [← Ny193.out] at hr31
  rw [← hy31] at hcut31
  have HO197 := Aside0.mk (show Kd.V (Kd.int .u8) 5 _ w.heap.size _ (.slice A0 y193.length c0) y193 from Kd.V_mk (by omega) hr31)
  have HC197 := Aside0.mk (show y193.length ≤ c0 from by omega)
  clear hr31 hC31 hroom31 hi031 hsz31
  have KY31 := Aside0.mk hy31
  clear hy31
  replace q31 := eq_true q31
  refine start_ (n := 13) (S := fun w' => True) (ds := []) #[false, false, false, false, false, false, false, false, false, false, false, false, false] (by kernel_rfl) rfl rfl trivial (fun hHeld => ?_); refine with_tabW frame_Parse.tab8 frame_Parse.bits8 (fun HT_ HW_ => ?_)
  generalize (World.drewN w nd).drew = w29 at HO0 HB HO191 HO197 hHeld ⊢
  refine pu_ (i := 0) (N := some 27) (bs_ 13 1) rfl rfl HT_ ?_
  refine pu_ (i := 1) (N := some 28) (bs_ 13 3) rfl rfl HT_ ?_
  refine pu_ (i := 2) (N := some 29) (bs_ 13 7) rfl rfl HT_ ?_
  refine pu_ (i := 3) (N := some 30) (bs_ 13 15) rfl rfl HT_ ?_
  refine pu_ (i := 5) (N := some 32) (bs_ 13 47) rfl rfl HT_ ?_
  refine pu_ (i := 6) (N := some 33) (bs_ 13 111) rfl rfl HT_ ?_
  refine pu_ (i := 7) (N := some 34) (bs_ 13 239) rfl rfl HT_ ?_
  refine pu_ (i := 8) (N := some 35) (bs_ 13 495) rfl rfl HT_ ?_
  refine join_ (σ := Value) 3 (bs_ 13 1023) (fun s_ => [(31, .int .u32 t192), (36, s_)]) (fun s_ w' => (Kd.V (Kd.int .u8) 5 w' w.heap.size (fun k_ => (P0_ k_ ∨ w.heap.size ≤ k_) ∧ some k_ ≠ (s_ : Value).ownBlock) (.slice A0 l0.length c0) l0) ∧ (Kd.V (Kd.int .u8) 5 w' w.heap.size (fun k_ => (P0_ k_ ∨ w.heap.size ≤ k_) ∧ some k_ ≠ (s_ : Value).ownBlock) (.slice A30 y187.length c30) y187) ∧ (Kd.V (Kd.int .u8) 5 w' w.heap.size (fun k_ => (P0_ k_ ∨ w.heap.size ≤ k_) ∧ some k_ ≠ (s_ : Value).ownBlock) (.slice A0 y193.length c0) y193) ∧ (Kd.N (Kd.slice 5 (Kd.int .u8)) 29 w' w.heap.size (fun k_ => (P0_ k_ ∨ w.heap.size ≤ k_)) s_ y198) ∧ (Below w.heap.size w w')) ?_ ?_
  rotate_left
  ·
   intro hCont
   refine two_ (i := 4) (j := 9) (Ni := some 31) (Nj := some 36) (bs_ 13 511) (bs_ 13 1007) rfl rfl rfl rfl (two_of HT_.out (by kernel_rfl)) (by decide) (by decide) (fun K hK => ?_) (fun K hK => ?_)
   ·
    skip
    refine goes_ Try.func38 (by kernel_rfl) rfl #[.slice A30 y187.length c30] (by rfl) rfl rfl (by (try simp only [l_4, l_5, l_6]); first | done | rfl | (simp only [l_7, l_8]; rfl)) ?_
    with_reducible refine (frame_word.calls _ _ y187 t192 _ ?side1 ?side2 A9.out).mono ?_
    (case side1 => repeat (first | exact (Kd.V_reads' HO191.out).2.2 | (with_reducible refine Kd.C_alloc ?_ _) | (with_reducible refine Kd.C_drewN ?_ _) | (with_reducible refine Kd.C_drew ?_)))
    (case side2 => exact (Kd.V_reads' HO191.out).2.1)
    rintro e w' ⟨rfl, ⟨nd, rfl⟩⟩
    refine ⟨_, rfl, ?_⟩
    refine hK.out _ _ trivial (fun hHeld => ?_)
    clear hK K
    refine no_ (N := some 31) ?_
    refine one_ (i := 9) (N := some 36) (bs_ 13 1023) rfl rfl (one_of HT_.out (by kernel_rfl)) (by decide) (fun K hK => ?_)
    refine Kd.N_lit_step (Kd.slice 5 (Kd.int .u8)) _ 29 ?hg (N' := 36) ?hd (xs := ([y193] : List (List Int))) (inner := [.slice A0 y193.length c0]) (ok := (fun k_ => (P0_ k_ ∨ w.heap.size ≤ k_))) (okp := (fun k_ => (P0_ k_ ∨ w.heap.size ≤ k_))) ?hr ?hp (fun _ hk => hk) ((show ∀ k_, (_ : Nat) ≤ k_ → (fun k_ => (P0_ k_ ∨ w.heap.size ≤ k_)) k_ from fun k_ hk => (.inr (Nat.le_trans (below_size (bw_ HB)) hk))) _ (Nat.le_refl _)) (Below.refl _ _) (Nat.le_refl _) (by simp) ?_; (case hd => rfl); (case hg => rfl); (case hr => first | (go_simp; done) | (go_simp; rfl)); (case hp => exact (Reps.one (show Kd.FK (Kd.slice 5 (Kd.int .u8)) _ _ y193 [.slice A0 y193.length c0] from (Kd.FK_slice_mk (Kd.V_reads' (Kd.V_mono (ok' := (fun k_ => (P0_ k_ ∨ w.heap.size ≤ k_))) (HO197.out) (fun k_ hk => hk))).2.1 (Kd.V_F (Kd.V_mono (ok' := (fun k_ => (P0_ k_ ∨ w.heap.size ≤ k_))) (tV_ HO197) (fun k_ hk => hk))))) (Reps.none _ _)))
    intro v199 w32 ho33 hb hg_ hnew_
    clear hg_ hnew_
    (first | rw [← Ny198.out] at ho33 | (simp only [Int.reduceToNat] at ho33; rw [← Ny198.out] at ho33))
    have HO200 := Aside0.mk (Kd.N_lower ho33 (below_size (bw_ HB)))
    replace HO0 := Aside0.mk (Kd.V_elder' (tV_ HO0) (by first | exact Kd.N_base ho33 | exact Kd.N_base (Kd.S_N ho33)) hb)
    replace HO191 := Aside0.mk (Kd.V_elder' (tV_ HO191) (by first | exact Kd.N_base ho33 | exact Kd.N_base (Kd.S_N ho33)) hb)
    replace HO197 := Aside0.mk (Kd.V_elder' (tV_ HO197) (by first | exact Kd.N_base ho33 | exact Kd.N_base (Kd.S_N ho33)) hb)
    replace HB := Aside0.mk (below_step (bw_ HB) hb)
    clear hb ho33
    refine hK.out _ _ trivial (fun hHeld => ?_)
    clear hK K
    refine no_ (N := some 36) ?_
    exact norm_ (by simp only [putAll, Act.put, l_1, l_2, l_3]) (hCont (v199) _ ⟨(tV_ HO0), (tV_ HO191), (tV_ HO197), (tN_ HO200), (bw_ HB)⟩)
   ·
    skip
    refine Kd.N_lit_step (Kd.slice 5 (Kd.int .u8)) _ 29 ?hg (N' := 36) ?hd (xs := ([y193] : List (List Int))) (inner := [.slice A0 y193.length c0]) (ok := (fun k_ => (P0_ k_ ∨ w.heap.size ≤ k_))) (okp := (fun k_ => (P0_ k_ ∨ w.heap.size ≤ k_))) ?hr ?hp (fun _ hk => hk) ((show ∀ k_, (_ : Nat) ≤ k_ → (fun k_ => (P0_ k_ ∨ w.heap.size ≤ k_)) k_ from fun k_ hk => (.inr (Nat.le_trans (below_size (bw_ HB)) hk))) _ (Nat.le_refl _)) (Below.refl _ _) (Nat.le_refl _) (by simp) ?_; (case hd => rfl); (case hg => rfl); (case hr => first | (go_simp; done) | (go_simp; rfl)); (case hp => exact (Reps.one (show Kd.FK (Kd.slice 5 (Kd.int .u8)) _ _ y193 [.slice A0 y193.length c0] from (Kd.FK_slice_mk (Kd.V_reads' (Kd.V_mono (ok' := (fun k_ => (P0_ k_ ∨ w.heap.size ≤ k_))) (HO197.out) (fun k_ hk => hk))).2.1 (Kd.V_F (Kd.V_mono (ok' := (fun k_ => (P0_ k_ ∨ w.heap.size ≤ k_))) (tV_ HO197) (fun k_ hk => hk))))) (Reps.none _ _)))
    intro v199 w32 ho33 hb hg_ hnew_
    clear hg_ hnew_
    (first | rw [← Ny198.out] at ho33 | (simp only [Int.reduceToNat] at ho33; rw [← Ny198.out] at ho33))
    have HO200 := Aside0.mk (Kd.N_lower ho33 (below_size (bw_ HB)))
    replace HO0 := Aside0.mk (Kd.V_elder' (tV_ HO0) (by first | exact Kd.N_base ho33 | exact Kd.N_base (Kd.S_N ho33)) hb)
    replace HO191 := Aside0.mk (Kd.V_elder' (tV_ HO191) (by first | exact Kd.N_base ho33 | exact Kd.N_base (Kd.S_N ho33)) hb)
    replace HO197 := Aside0.mk (Kd.V_elder' (tV_ HO197) (by first | exact Kd.N_base ho33 | exact Kd.N_base (Kd.S_N ho33)) hb)
    replace HB := Aside0.mk (below_step (bw_ HB) hb)
    clear hb ho33
    refine hK.out _ _ trivial (fun hHeld => ?_)
    clear hK K
    refine no_ (N := some 36) ?_
    refine one_ (i := 4) (N := some 31) (bs_ 13 1023) rfl rfl (one_of HT_.out (by kernel_rfl)) (by decide) (fun K hK => ?_)
    refine goes_ Try.func38 (by kernel_rfl) rfl #[.slice A30 y187.length c30] (by rfl) rfl rfl (by (try simp only [l_4, l_5, l_6]); first | done | rfl | (simp only [l_7, l_8]; rfl)) ?_
    with_reducible refine (frame_word.calls _ _ y187 t192 _ ?side1 ?side2 A9.out).mono ?_
    (case side1 => repeat (first | exact (Kd.V_reads' HO191.out).2.2 | (with_reducible refine Kd.C_alloc ?_ _) | (with_reducible refine Kd.C_drewN ?_ _) | (with_reducible refine Kd.C_drew ?_)))
    (case side2 => exact (Kd.V_reads' HO191.out).2.1)
    rintro e w' ⟨rfl, ⟨nd, rfl⟩⟩
    refine ⟨_, rfl, ?_⟩
    refine hK.out _ _ trivial (fun hHeld => ?_)
    clear hK K
    refine no_ (N := some 31) ?_
    exact norm_ (by simp only [putAll, Act.put, l_1, l_2, l_3]) (hCont (v199) _ ⟨(tV_ HO0), (tV_ HO191), (tV_ HO197), (tN_ HO200), (bw_ HB)⟩)
  rintro v199 w34 ⟨h0_, h1_, h2_, h3_, h4_⟩
  have n0_ : Aside0 (Kd.V (Kd.int .u8) 5 w34 w.heap.size (fun k_ => (P0_ k_ ∨ w.heap.size ≤ k_) ∧ some k_ ≠ (v199 : Value).ownBlock) (.slice A0 l0.length c0) l0) := ⟨h0_⟩
  have n1_ : Aside0 (Kd.V (Kd.int .u8) 5 w34 w.heap.size (fun k_ => (P0_ k_ ∨ w.heap.size ≤ k_) ∧ some k_ ≠ (v199 : Value).ownBlock) (.slice A30 y187.length c30) y187) := ⟨h1_⟩
  have n2_ : Aside0 (Kd.V (Kd.int .u8) 5 w34 w.heap.size (fun k_ => (P0_ k_ ∨ w.heap.size ≤ k_) ∧ some k_ ≠ (v199 : Value).ownBlock) (.slice A0 y193.length c0) y193) := ⟨h2_⟩
  have n3_ : Aside0 (Kd.N (Kd.slice 5 (Kd.int .u8)) 29 w34 w.heap.size (fun k_ => (P0_ k_ ∨ w.heap.size ≤ k_)) v199 y198) := ⟨h3_⟩
  have n4_ : Aside0 (Below w.heap.size w w34) := ⟨h4_⟩
  clear HO0
  clear HB
  clear h0_ h1_ h2_ h3_ h4_
  have HO0 := n0_
  have HO191 := n1_
  have HO197 := n2_
  have HO200 := n3_
  have HB := n4_
  clear n0_ n1_ n2_ n3_ n4_
  have hHeld := trivial
  obtain ⟨Ao35, co35, eo35⟩ := Kd.N_slice HO200.out
  (first | subst eo35 | (injection eo35 with f1_ f2_ f3_; have f4_ := f1_.symm; have f5_ := f3_.symm; clear f1_ f2_ f3_; subst f4_; subst f5_))
  refine norm_ (a' := ?_) ?_ ?_
  rotate_left
  ·
   simp only [putAll, Act.put, l_1, l_2, l_3]
   rfl
  refine one_ (i := 10) (N := some 37) (bs_ 13 2047) rfl rfl (one_of HT_.out (by kernel_rfl)) (by decide) (fun K hK => ?_)
  refine goes_ Try.func35 (by kernel_rfl) rfl #[.slice Ao35 y198.length co35] (by rfl) rfl rfl (by (try simp only [l_4, l_5, l_6]); first | done | rfl | (simp only [l_7, l_8]; rfl)) ?_
  with_reducible refine (weight_Sum.calls _ _ y198 t201 _ ?side1 ?side2 A12.out).mono ?_
  (case side1 => repeat (first | exact (Kd.N_reads' HO200.out).2.2 | (with_reducible refine Kd.C_alloc ?_ _) | (with_reducible refine Kd.C_drewN ?_ _) | (with_reducible refine Kd.C_drew ?_)))
  (case side2 => exact (Kd.N_reads' HO200.out).2.1)
  rintro e w36 ⟨rfl, hb⟩
  refine ⟨_, rfl, ?_⟩
  replace HO0 := Aside0.mk (Kd.V_below (tV_ HO0) hb)
  replace HO191 := Aside0.mk (Kd.V_below (tV_ HO191) hb)
  replace HO197 := Aside0.mk (Kd.V_below (tV_ HO197) hb)
  replace HO200 := Aside0.mk (Kd.N_below (tN_ HO200) hb)
  replace HB := Aside0.mk (below_step (bw_ HB) hb)
  (try clear hb)
  (try clear hb2)
  (try clear hk)
  (try clear hi)
  refine hK.out _ _ trivial (fun hHeld => ?_)
  clear hK K
  refine no_ (N := some 37) ?_
  refine pu_ (i := 11) (N := some 38) (bs_ 13 4095) rfl rfl HT_ ?_
  refine pu_ (i := 12) (N := some 26) (bs_ 13 8191) rfl rfl HT_ ?_
  refine done_ (done_of HT_.out (by kernel_rfl)) ?_
  try go_wp2
  go_ret3
  exact ⟨_, by first | rfl | (simp [errW_none, errW_some] <;> rfl) | (simp only [← hji6]; first | rfl | (simp [errW_none, errW_some] <;> rfl)) | (simp [*, errW_none, errW_some] <;> rfl), by first | exact Kd.R_nil _ _ _ _ _ | exact Kd.N_nil _ _ _ _ _ | exact Kd.V_nil _ _ _ _ _ | exact Kd.Q_nil _ _ _ _ _ | exact Kd.S_nil _ _ _ _ _, by repeat (first | (with_reducible first | exact HB.out | apply b_a | apply b_n | apply b_d) | exact HB.out)⟩
 rw [if_pos c13] at H
 have c13b0 : (t192 == t201) = true := beq_iff_eq.mpr c13
 have c13b1 : (t192 != t201) = false := bne_eq_false_iff_eq.mpr c13
 clear c13
 by_cases c14 : 3 < (l0.length : Int)
 rotate_left
 ·
  rw [if_neg c14] at H
  exact absurd H (by simp)
 rw [if_pos c14] at H
 have c14b0 : decide (3 < (l0.length : Int)) = true := decide_eq_true c14
 have c14b1 : decide (3 < l0.length) = true := decide_eq_true (by omega)
 clear c14
 by_cases c15 : 8 ≤ (ji6)
 rotate_left
 ·
  rw [if_neg c15] at H
  exact absurd H (by simp)
 rw [if_pos c15] at H
 have c15b0 := eq_true c15
 have c15b1 : decide (8 ≤ (ji6)) = true := decide_eq_true c15
 clear c15
 have c16b0 := eq_true (of_decide_eq_true (by first | (with_reducible assumption) | assumption) : (ji6) ≤ (l0.length : Int))
 obtain ⟨y203, hy203⟩ : ∃ y_ : List Int, y_ = ((l0.take ((ji6) : Int).toNat).drop 8) := ⟨_, rfl⟩
 replace H : ((bytes_Clone.f y203).bind fun t208 => (some (rd l0 3, t208, 0))) = some (r1, r2, r3) := by first | (rw [hy203]; with_reducible exact H) | (have H2_ := (Option.bind_some _ _).symm.trans H; rw [hy203]; with_reducible exact H2_) | (have H2_ := (Option.bind_some _ _).symm.trans H; with_reducible exact H2_) | with_reducible exact H | (rw [hy203]; exact H) | exact H
 have Ny203 := Aside0.mk hy203
 clear hy203
 replace H := Option.bind_eq_some_iff.mp H
 obtain ⟨t208, A170, H⟩ := H
 replace H : (some (rd l0 3, t208, 0)) = some (r1, r2, r3) := H
 have A17 := Aside0.mk A170
 clear A170
 simp only [Option.some.injEq, Prod.mk.injEq] at H
 obtain ⟨rfl, rfl, rfl⟩ := H
 go_enter Try.func28, Try.ntmps28
 try go_wp2_with (first | ((with_reducible refine gate_callee (f := 37) rfl ?_); refine goesL_ (some 9) rfl rfl Try.func37 (by kernel_rfl) rfl #[.slice A0 l0.length c0] rfl (by (try simp only [l_4, l_5, l_6]); first | done | rfl | (simp only [l_7, l_8]; rfl)) ?_; (with_reducible refine (frame_size.calls k _ _ l0 t185 t186 _ ?side1 ?side2 A2.out).mono ?_); (case side1 => repeat (first | exact (Kd.V_reads' HO0.out).2.2 | (with_reducible refine Kd.C_alloc ?_ _) | (with_reducible refine Kd.C_drewN ?_ _) | (with_reducible refine Kd.C_drew ?_))); (case side2 => exact (Kd.V_reads' HO0.out).2.1); rintro e w' ⟨rfl, ⟨nd, rfl⟩⟩; refine ⟨_, rfl, ?_⟩))
 replace HO0 := Aside0.mk (Kd.V_drew (Kd.V_drewN HO0.out nd))
 replace HB := Aside0.mk (b_d (b_n HB.out nd))
 have q19 : ((ji6) : Int) ≤ ((l0.length : Int) : Int) := of_decide_eq_true (by first | (with_reducible assumption) | assumption)
 obtain ⟨i019, hi019, _, hsz19, _⟩ := info_parts info5
 have hroom19 : l0.length ≤ c0 := (Kd.V_reads' HO0.out).2.1
 have hC19 : Kd.F (Kd.int .u8) _ _ A0 l0.length l0 := (Kd.V_at (base := w.heap.size) HO0.out).2.2
 have q019 : (0 : Int) ≤ ((ji6) : Int) := of_decide_eq_true (by first | (with_reducible assumption) | assumption)
 have hcut19 := cut_from (P := Try.prog) 29 5 .i64 Try.underlying29 hi019 1 hsz19 A0 l0.length c0 (ji6) q019 q19
 have hr19 := Kd.F_cut (m := ((ji6) : Int).toNat) (c := c0) hC19 (by omega) hroom19
 obtain ⟨A19, hA19⟩ : ∃ A1, A1 = (if c0 = ((ji6) : Int).toNat then A0 else (A0 : Option Addr).map (·.add (((ji6) : Int).toNat * 1))) := ⟨_, rfl⟩
 obtain ⟨c19, hc19⟩ : ∃ c1, c1 = c0 - ((ji6) : Int).toNat := ⟨_, rfl⟩
 have hy19 : y187.length = l0.length - ((ji6) : Int).toNat := (by rw [Ny187.out, l_7] <;> omega)
 rw [show (l0).drop ((ji6) : Int).toNat = y187 from Ny187.out.symm] at hr19
 replace hr19 : Kd.F (Kd.int .u8) _ _ A19 y187.length y187 := (by rw [hA19]; exact hr19)
 rw [← hy19, ← hA19, ← hc19] at hcut19
 have HO191 := Aside0.mk (show Kd.V (Kd.int .u8) 5 _ w.heap.size _ (.slice A19 y187.length c19) y187 from Kd.V_mk (by rw [hy19, hc19]; exact Nat.sub_le_sub_right hroom19 _) hr19)
 have HC191 := Aside0.mk (show y187.length ≤ c19 from by rw [hy19, hc19]; exact Nat.sub_le_sub_right hroom19 _)
 clear hr19 hC19 hroom19 hi019 hsz19 hc19
 have KY19 := Aside0.mk hy19
 have KA19 := Aside0.mk hA19
 clear hy19 hA19
 replace q19 := eq_true q19
 have q20 : ((ji6) : Int) ≤ ((l0.length : Int) : Int) := of_decide_eq_true (by first | (with_reducible assumption) | assumption)
 obtain ⟨i020, hi020, _, hsz20, _⟩ := info_parts info5
 have hroom20 : l0.length ≤ c0 := (Kd.V_reads' HO0.out).2.1
 have hC20 : Kd.F (Kd.int .u8) _ _ A0 l0.length l0 := (Kd.V_at (base := w.heap.size) HO0.out).2.2
 have hcut20 := cut_to (P := Try.prog) 29 5 .i64 Try.underlying29 hi020 A0 l0.length c0 (ji6) (of_decide_eq_true (by first | (with_reducible assumption) | assumption)) q20 hroom20
 have hr20 := Kd.F_take (m := ((ji6) : Int).toNat) hC20 (by omega)
 have hy20 : y193.length = ((ji6) : Int).toNat := (by rw [Ny193.out, l_8]; omega)
 rw [← Ny193.out] at hr20
 rw [← hy20] at hcut20
 have HO197 := Aside0.mk (show Kd.V (Kd.int .u8) 5 _ w.heap.size _ (.slice A0 y193.length c0) y193 from Kd.V_mk (by omega) hr20)
 have HC197 := Aside0.mk (show y193.length ≤ c0 from by omega)
 clear hr20 hC20 hroom20 hi020 hsz20
 have KY20 := Aside0.mk hy20
 clear hy20
 replace q20 := eq_true q20
 refine start_ (n := 13) (S := fun w' => True) (ds := []) #[false, false, false, false, false, false, false, false, false, false, false, false, false] (by kernel_rfl) rfl rfl trivial (fun hHeld => ?_); refine with_tabW frame_Parse.tab8 frame_Parse.bits8 (fun HT_ HW_ => ?_)
 generalize (World.drewN w nd).drew = w18 at HO0 HB HO191 HO197 hHeld ⊢
 refine pu_ (i := 0) (N := some 27) (bs_ 13 1) rfl rfl HT_ ?_
 refine pu_ (i := 1) (N := some 28) (bs_ 13 3) rfl rfl HT_ ?_
 refine pu_ (i := 2) (N := some 29) (bs_ 13 7) rfl rfl HT_ ?_
 refine pu_ (i := 3) (N := some 30) (bs_ 13 15) rfl rfl HT_ ?_
 refine pu_ (i := 5) (N := some 32) (bs_ 13 47) rfl rfl HT_ ?_
 refine pu_ (i := 6) (N := some 33) (bs_ 13 111) rfl rfl HT_ ?_
 refine pu_ (i := 7) (N := some 34) (bs_ 13 239) rfl rfl HT_ ?_
 refine pu_ (i := 8) (N := some 35) (bs_ 13 495) rfl rfl HT_ ?_
 refine join_ (σ := Value) 3 (bs_ 13 1023) (fun s_ => [(31, .int .u32 t192), (36, s_)]) (fun s_ w' => (Kd.V (Kd.int .u8) 5 w' w.heap.size (fun k_ => (P0_ k_ ∨ w.heap.size ≤ k_) ∧ some k_ ≠ (s_ : Value).ownBlock) (.slice A0 l0.length c0) l0) ∧ (Kd.V (Kd.int .u8) 5 w' w.heap.size (fun k_ => (P0_ k_ ∨ w.heap.size ≤ k_) ∧ some k_ ≠ (s_ : Value).ownBlock) (.slice A19 y187.length c19) y187) ∧ (Kd.V (Kd.int .u8) 5 w' w.heap.size (fun k_ => (P0_ k_ ∨ w.heap.size ≤ k_) ∧ some k_ ≠ (s_ : Value).ownBlock) (.slice A0 y193.length c0) y193) ∧ (Kd.N (Kd.slice 5 (Kd.int .u8)) 29 w' w.heap.size (fun k_ => (P0_ k_ ∨ w.heap.size ≤ k_)) s_ y198) ∧ (Below w.heap.size w w')) ?_ ?_
 rotate_left
 ·
  intro hCont
  refine two_ (i := 4) (j := 9) (Ni := some 31) (Nj := some 36) (bs_ 13 511) (bs_ 13 1007) rfl rfl rfl rfl (two_of HT_.out (by kernel_rfl)) (by decide) (by decide) (fun K hK => ?_) (fun K hK => ?_)
  ·
   skip
   refine goes_ Try.func38 (by kernel_rfl) rfl #[.slice A19 y187.length c19] (by rfl) rfl rfl (by (try simp only [l_4, l_5, l_6]); first | done | rfl | (simp only [l_7, l_8]; rfl)) ?_
   with_reducible refine (frame_word.calls _ _ y187 t192 _ ?side1 ?side2 A9.out).mono ?_
   (case side1 => repeat (first | exact (Kd.V_reads' HO191.out).2.2 | (with_reducible refine Kd.C_alloc ?_ _) | (with_reducible refine Kd.C_drewN ?_ _) | (with_reducible refine Kd.C_drew ?_)))
   (case side2 => exact (Kd.V_reads' HO191.out).2.1)
   rintro e w' ⟨rfl, ⟨nd, rfl⟩⟩
   refine ⟨_, rfl, ?_⟩
   refine hK.out _ _ trivial (fun hHeld => ?_)
   clear hK K
   refine no_ (N := some 31) ?_
   refine one_ (i := 9) (N := some 36) (bs_ 13 1023) rfl rfl (one_of HT_.out (by kernel_rfl)) (by decide) (fun K hK => ?_)
   refine Kd.N_lit_step (Kd.slice 5 (Kd.int .u8)) _ 29 ?hg (N' := 36) ?hd (xs := ([y193] : List (List Int))) (inner := [.slice A0 y193.length c0]) (ok := (fun k_ => (P0_ k_ ∨ w.heap.size ≤ k_))) (okp := (fun k_ => (P0_ k_ ∨ w.heap.size ≤ k_))) ?hr ?hp (fun _ hk => hk) ((show ∀ k_, (_ : Nat) ≤ k_ → (fun k_ => (P0_ k_ ∨ w.heap.size ≤ k_)) k_ from fun k_ hk => (.inr (Nat.le_trans (below_size (bw_ HB)) hk))) _ (Nat.le_refl _)) (Below.refl _ _) (Nat.le_refl _) (by simp) ?_; (case hd => rfl); (case hg => rfl); (case hr => first | (go_simp; done) | (go_simp; rfl)); (case hp => exact (Reps.one (show Kd.FK (Kd.slice 5 (Kd.int .u8)) _ _ y193 [.slice A0 y193.length c0] from (Kd.FK_slice_mk (Kd.V_reads' (Kd.V_mono (ok' := (fun k_ => (P0_ k_ ∨ w.heap.size ≤ k_))) (HO197.out) (fun k_ hk => hk))).2.1 (Kd.V_F (Kd.V_mono (ok' := (fun k_ => (P0_ k_ ∨ w.heap.size ≤ k_))) (tV_ HO197) (fun k_ hk => hk))))) (Reps.none _ _)))
   intro v199 w21 ho22 hb hg_ hnew_
   clear hg_ hnew_
   (first | rw [← Ny198.out] at ho22 | (simp only [Int.reduceToNat] at ho22; rw [← Ny198.out] at ho22))
   have HO200 := Aside0.mk (Kd.N_lower ho22 (below_size (bw_ HB)))
   replace HO0 := Aside0.mk (Kd.V_elder' (tV_ HO0) (by first | exact Kd.N_base ho22 | exact Kd.N_base (Kd.S_N ho22)) hb)
   replace HO191 := Aside0.mk (Kd.V_elder' (tV_ HO191) (by first | exact Kd.N_base ho22 | exact Kd.N_base (Kd.S_N ho22)) hb)
   replace HO197 := Aside0.mk (Kd.V_elder' (tV_ HO197) (by first | exact Kd.N_base ho22 | exact Kd.N_base (Kd.S_N ho22)) hb)
   replace HB := Aside0.mk (below_step (bw_ HB) hb)
   clear hb ho22
   refine hK.out _ _ trivial (fun hHeld => ?_)
   clear hK K
   refine no_ (N := some 36) ?_
   exact norm_ (by simp only [putAll, Act.put, l_1, l_2, l_3]) (hCont (v199) _ ⟨(tV_ HO0), (tV_ HO191), (tV_ HO197), (tN_ HO200), (bw_ HB)⟩)
  ·
   skip
   refine Kd.N_lit_step (Kd.slice 5 (Kd.int .u8)) _ 29 ?hg (N' := 36) ?hd (xs := ([y193] : List (List Int))) (inner := [.slice A0 y193.length c0]) (ok := (fun k_ => (P0_ k_ ∨ w.heap.size ≤ k_))) (okp := (fun k_ => (P0_ k_ ∨ w.heap.size ≤ k_))) ?hr ?hp (fun _ hk => hk) ((show ∀ k_, (_ : Nat) ≤ k_ → (fun k_ => (P0_ k_ ∨ w.heap.size ≤ k_)) k_ from fun k_ hk => (.inr (Nat.le_trans (below_size (bw_ HB)) hk))) _ (Nat.le_refl _)) (Below.refl _ _) (Nat.le_refl _) (by simp) ?_; (case hd => rfl); (case hg => rfl); (case hr => first | (go_simp; done) | (go_simp; rfl)); (case hp => exact (Reps.one (show Kd.FK (Kd.slice 5 (Kd.int .u8)) _ _ y193 [.slice A0 y193.length c0] from (Kd.FK_slice_mk (Kd.V_reads' (Kd.V_mono (ok' := (fun k_ => (P0_ k_ ∨ w.heap.size ≤ k_))) (HO197.out) (fun k_ hk => hk))).2.1 (Kd.V_F (Kd.V_mono (ok' := (fun k_ => (P0_ k_ ∨ w.heap.size ≤ k_))) (tV_ HO197) (fun k_ hk => hk))))) (Reps.none _ _)))
   intro v199 w21 ho22 hb hg_ hnew_
   clear hg_ hnew_
   (first | rw [← Ny198.out] at ho22 | (simp only [Int.reduceToNat] at ho22; rw [← Ny198.out] at ho22))
   have HO200 := Aside0.mk (Kd.N_lower ho22 (below_size (bw_ HB)))
   replace HO0 := Aside0.mk (Kd.V_elder' (tV_ HO0) (by first | exact Kd.N_base ho22 | exact Kd.N_base (Kd.S_N ho22)) hb)
   replace HO191 := Aside0.mk (Kd.V_elder' (tV_ HO191) (by first | exact Kd.N_base ho22 | exact Kd.N_base (Kd.S_N ho22)) hb)
   replace HO197 := Aside0.mk (Kd.V_elder' (tV_ HO197) (by first | exact Kd.N_base ho22 | exact Kd.N_base (Kd.S_N ho22)) hb)
   replace HB := Aside0.mk (below_step (bw_ HB) hb)
   clear hb ho22
   refine hK.out _ _ trivial (fun hHeld => ?_)
   clear hK K
   refine no_ (N := some 36) ?_
   refine one_ (i := 4) (N := some 31) (bs_ 13 1023) rfl rfl (one_of HT_.out (by kernel_rfl)) (by decide) (fun K hK => ?_)
   refine goes_ Try.func38 (by kernel_rfl) rfl #[.slice A19 y187.length c19] (by rfl) rfl rfl (by (try simp only [l_4, l_5, l_6]); first | done | rfl | (simp only [l_7, l_8]; rfl)) ?_
   with_reducible refine (frame_word.calls _ _ y187 t192 _ ?side1 ?side2 A9.out).mono ?_
   (case side1 => repeat (first | exact (Kd.V_reads' HO191.out).2.2 | (with_reducible refine Kd.C_alloc ?_ _) | (with_reducible refine Kd.C_drewN ?_ _) | (with_reducible refine Kd.C_drew ?_)))
   (case side2 => exact (Kd.V_reads' HO191.out).2.1)
   rintro e w' ⟨rfl, ⟨nd, rfl⟩⟩
   refine ⟨_, rfl, ?_⟩
   refine hK.out _ _ trivial (fun hHeld => ?_)
   clear hK K
   refine no_ (N := some 31) ?_
   exact norm_ (by simp only [putAll, Act.put, l_1, l_2, l_3]) (hCont (v199) _ ⟨(tV_ HO0), (tV_ HO191), (tV_ HO197), (tN_ HO200), (bw_ HB)⟩)
 rintro v199 w23 ⟨h0_, h1_, h2_, h3_, h4_⟩
 have n0_ : Aside0 (Kd.V (Kd.int .u8) 5 w23 w.heap.size (fun k_ => (P0_ k_ ∨ w.heap.size ≤ k_) ∧ some k_ ≠ (v199 : Value).ownBlock) (.slice A0 l0.length c0) l0) := ⟨h0_⟩
 have n1_ : Aside0 (Kd.V (Kd.int .u8) 5 w23 w.heap.size (fun k_ => (P0_ k_ ∨ w.heap.size ≤ k_) ∧ some k_ ≠ (v199 : Value).ownBlock) (.slice A19 y187.length c19) y187) := ⟨h1_⟩
 have n2_ : Aside0 (Kd.V (Kd.int .u8) 5 w23 w.heap.size (fun k_ => (P0_ k_ ∨ w.heap.size ≤ k_) ∧ some k_ ≠ (v199 : Value).ownBlock) (.slice A0 y193.length c0) y193) := ⟨h2_⟩
 have n3_ : Aside0 (Kd.N (Kd.slice 5 (Kd.int .u8)) 29 w23 w.heap.size (fun k_ => (P0_ k_ ∨ w.heap.size ≤ k_)) v199 y198) := ⟨h3_⟩
 have n4_ : Aside0 (Below w.heap.size w w23) := ⟨h4_⟩
 clear HO0
 clear HB
 clear h0_ h1_ h2_ h3_ h4_
 have HO0 := n0_
 have HO191 := n1_
 have HO197 := n2_
 have HO200 := n3_
 have HB := n4_
 clear n0_ n1_ n2_ n3_ n4_
 have hHeld := trivial
 obtain ⟨Ao24, co24, eo24⟩ := Kd.N_slice HO200.out
 (first | subst eo24 | (injection eo24 with f1_ f2_ f3_; have f4_ := f1_.symm; have f5_ := f3_.symm; clear f1_ f2_ f3_; subst f4_; subst f5_))
 refine norm_ (a' := ?_) ?_ ?_
 rotate_left
 ·
  simp only [putAll, Act.put, l_1, l_2, l_3]
  rfl
 refine one_ (i := 10) (N := some 37) (bs_ 13 2047) rfl rfl (one_of HT_.out (by kernel_rfl)) (by decide) (fun K hK => ?_)
 refine goes_ Try.func35 (by kernel_rfl) rfl #[.slice Ao24 y198.length co24] (by rfl) rfl rfl (by (try simp only [l_4, l_5, l_6]); first | done | rfl | (simp only [l_7, l_8]; rfl)) ?_
 with_reducible refine (weight_Sum.calls _ _ y198 t201 _ ?side1 ?side2 A12.out).mono ?_
 (case side1 => repeat (first | exact (Kd.N_reads' HO200.out).2.2 | (with_reducible refine Kd.C_alloc ?_ _) | (with_reducible refine Kd.C_drewN ?_ _) | (with_reducible refine Kd.C_drew ?_)))
 (case side2 => exact (Kd.N_reads' HO200.out).2.1)
 rintro e w25 ⟨rfl, hb⟩
 refine ⟨_, rfl, ?_⟩
 replace HO0 := Aside0.mk (Kd.V_below (tV_ HO0) hb)
 replace HO191 := Aside0.mk (Kd.V_below (tV_ HO191) hb)
 replace HO197 := Aside0.mk (Kd.V_below (tV_ HO197) hb)
 replace HO200 := Aside0.mk (Kd.N_below (tN_ HO200) hb)
 replace HB := Aside0.mk (below_step (bw_ HB) hb)
 (try clear hb)
 (try clear hb2)
 (try clear hk)
 (try clear hi)
 refine hK.out _ _ trivial (fun hHeld => ?_)
 clear hK K
 refine no_ (N := some 37) ?_
 refine pu_ (i := 11) (N := some 38) (bs_ 13 4095) rfl rfl HT_ ?_
 refine pu_ (i := 12) (N := some 26) (bs_ 13 8191) rfl rfl HT_ ?_
 refine done_ (done_of HT_.out (by kernel_rfl)) ?_
 try go_wp2
 replace HO0 := Aside0.mk (Kd.V_drew HO0.out)
 replace HO191 := Aside0.mk (Kd.V_drew HO191.out)
 replace HO197 := Aside0.mk (Kd.V_drew HO197.out)
 replace HO200 := Aside0.mk (Kd.N_drew HO200.out)
 replace HB := Aside0.mk (b_d HB.out)
 have p202 : 0 ≤ (3 : Int) := (by omega)
 have q202 : 3 < (l0.length : Int) := of_decide_eq_true (by first | (with_reducible assumption) | assumption)
 obtain ⟨ad202, e202, hx202_0⟩ := Kd.at_int (Kd.V_reads' HO0.out).2.2 3 p202 q202
 cases e202
 (try simp only [show (3 : Int).toNat = 3 from rfl, Nat.reduceMul, Nat.reduceEqDiff, Go.Addr.add, ↓reduceIte] at hx202_0)
 have qi202 : (3 < l0.length) = True := eq_true (by omega)
 (try rw [show ((3 : Int)).toNat = 3 from rfl] at hx202_0)
 replace p202 := eq_true p202
 replace q202 := eq_true q202
 have q27 : ((ji6) : Int) ≤ ((l0.length : Int) : Int) := of_decide_eq_true (by first | (with_reducible assumption) | assumption)
 obtain ⟨i027, hi027, _, hsz27, _⟩ := info_parts info5
 have hroom27 : l0.length ≤ c0 := (Kd.V_reads' HO0.out).2.1
 have hC27 : Kd.F (Kd.int .u8) _ _ (some ad202) l0.length l0 := (Kd.V_at (base := w.heap.size) HO0.out).2.2
 have ql27 : (8 : Int) ≤ ((ji6) : Int) := of_decide_eq_true (by first | (with_reducible assumption) | assumption)
 have hcut27 := cut_mid (P := Try.prog) 29 5 .i64 .i64 Try.underlying29 hi027 1 hsz27 (some ad202) l0.length c0 8 (ji6) (by omega) ql27 q27 hroom27
 have hr27 := Kd.F_mid (lo := (8 : Int).toNat) (hi := ((ji6) : Int).toNat) (c := c0) hC27 (by omega) (by omega) hroom27
 obtain ⟨A27, hA27⟩ : ∃ A1, A1 = (if c0 = (8 : Int).toNat then (some ad202) else ((some ad202) : Option Addr).map (·.add ((8 : Int).toNat * 1))) := ⟨_, rfl⟩
 obtain ⟨c27, hc27⟩ : ∃ c1, c1 = c0 - (8 : Int).toNat := ⟨_, rfl⟩
 have hy27 : y203.length = ((ji6) : Int).toNat - (8 : Int).toNat := (by rw [Ny203.out, l_7, l_8] <;> omega)
 rw [show ((l0).take ((ji6) : Int).toNat).drop (8 : Int).toNat = y203 from Ny203.out.symm] at hr27
 replace hr27 : Kd.F (Kd.int .u8) _ _ A27 y203.length y203 := (by rw [hA27]; exact hr27)
 rw [← hy27, ← hA27, ← hc27] at hcut27
 have HO207 := Aside0.mk (show Kd.V (Kd.int .u8) 5 _ w.heap.size _ (.slice A27 y203.length c27) y203 from Kd.V_mk (by rw [hy27, hc27]; exact Nat.sub_le_sub_right (Nat.le_trans (by omega) hroom27) _) hr27)
 have HC207 := Aside0.mk (show y203.length ≤ c27 from by rw [hy27, hc27]; exact Nat.sub_le_sub_right (Nat.le_trans (by omega) hroom27) _)
 clear hr27 hC27 hroom27 hi027 hsz27 hc27
 have KY27 := Aside0.mk hy27
 have KA27 := Aside0.mk hA27
 clear hy27 hA27
 replace q27 := eq_true q27
 refine start_ (n := 11) (S := fun w' => w'.cell? ⟨ad202.block, ad202.off + 3, none⟩ = some (.int .u8 (rd l0 3))) (ds := []) #[false, false, false, false, false, false, false, false, false, false, false] (by kernel_rfl) rfl rfl (hx202_0) (fun hHeld => ?_); refine with_tabW frame_Parse.tab10 frame_Parse.bits10 (fun HT_ HW_ => ?_)
 generalize w25.drew = w26 at HO0 HO191 HO197 HO200 HB HO207 hx202_0 hHeld ⊢
 refine pu_ (i := 0) (N := some 39) (bs_ 11 1) rfl rfl HT_ ?_
 refine pu_ (i := 1) (N := some 40) (bs_ 11 3) rfl rfl HT_ ?_
 refine pu_ (i := 3) (N := some 42) (bs_ 11 11) rfl rfl HT_ ?_
 refine pu_ (i := 4) (N := some 43) (bs_ 11 27) rfl rfl HT_ ?_
 refine pu_ (i := 5) (N := some 44) (bs_ 11 59) rfl rfl HT_ ?_
 refine pu_ (i := 6) (N := some 45) (bs_ 11 123) rfl rfl HT_ ?_
 refine take_ (i := 2) (N := some 41) (v := ?_) (a' := ?_) (bs_ 11 127) rfl rfl (take_ofW HT_.out HW_.out (by kernel_rfl)) (fun _ _ _ h => h) (Or.inl ⟨by rfl, ?_⟩) hHeld ?_ ?_
 rotate_left
 ·
  intro w' s0
  go_simp
  with_reducible rfl
 rotate_left
 ·
  simp only [Act.put, l_1, l_2, l_3, i64_w, i32_w]
  rfl
 refine one_ (i := 7) (N := some 46) (bs_ 11 255) rfl rfl (one_of HT_.out (by kernel_rfl)) (by decide) (fun K hK => ?_)
 refine goes_ Try.func39 (by kernel_rfl) rfl #[.slice A27 y203.length c27] (by rfl) rfl rfl (by (try simp only [l_4, l_5, l_6]); first | done | rfl | (simp only [l_7, l_8]; rfl)) ?_
 with_reducible refine (bytes_Clone.calls _ _ y203 t208 _ ?side1 ?side2 A17.out).mono ?_
 (case side1 => repeat (first | exact (Kd.V_reads' HO207.out).2.2 | (with_reducible refine Kd.C_alloc ?_ _) | (with_reducible refine Kd.C_drewN ?_ _) | (with_reducible refine Kd.C_drew ?_)))
 (case side2 => exact (Kd.V_reads' HO207.out).2.1)
 rintro e w28 ⟨v209, rfl, ho0, hb⟩
 have HS0_ := (hb.cell (World.block_lt_of_cell? _ _ (hHeld))).trans (hHeld)
 refine ⟨_, rfl, ?_⟩
 have HO210 := Aside0.mk (Kd.R_lower (Kd.R_newM (M := fun k_ => (w.heap.size ≤ k_)) ho0 (below_size (bw_ HB)) (fun k_ h_ => h_)) (below_size (bw_ HB)))
 replace HO0 := Aside0.mk (Kd.V_elder' (tV_ HO0) (Kd.R_base ho0) hb)
 replace HO191 := Aside0.mk (Kd.V_elder' (tV_ HO191) (Kd.R_base ho0) hb)
 replace HO197 := Aside0.mk (Kd.V_elder' (tV_ HO197) (Kd.R_base ho0) hb)
 replace HO200 := Aside0.mk (Kd.N_elder' (tN_ HO200) (Kd.R_base ho0) hb)
 replace HO207 := Aside0.mk (Kd.V_elder' (tV_ HO207) (Kd.R_base ho0) hb)
 replace HB := Aside0.mk (below_step (bw_ HB) hb)
 (try clear hb)
 (try clear hb2)
 (try clear hk)
 (try clear hi)
 (try clear ho0)
 refine hK.out _ _ (HS0_) (fun hHeld => ?_)
 clear hK K
 refine no_ (N := some 46) ?_
 refine pu_ (i := 8) (N := some 2) (bs_ 11 511) rfl rfl HT_ ?_
 refine pu_ (i := 9) (N := some 3) (bs_ 11 1023) rfl rfl HT_ ?_
 refine pu_ (i := 10) (N := some 4) (bs_ 11 2047) rfl rfl HT_ ?_
 refine done_ (done_of HT_.out (by kernel_rfl)) ?_
 try go_wp2
 go_ret3
 exact ⟨_, by first | rfl | (simp [errW_none, errW_some] <;> rfl) | (simp only [← hji6]; first | rfl | (simp [errW_none, errW_some] <;> rfl)) | (simp [*, errW_none, errW_some] <;> rfl), by (with_reducible repeat (first | apply Kd.R_alloc | apply Kd.R_drewN | apply Kd.R_drew)); exact Kd.R_mono HO210.out (fun _ hk => hk.1), by repeat (first | (with_reducible first | exact HB.out | apply b_a | apply b_n | apply b_d) | exact HB.out)⟩
theorem frame_Parse.calls (k : Nat) (A0 : Option Addr) (c0 : Nat) (l0 : List Int) (r1 : Int) (r2 : List Int) (r3 : Int) (w : World) (hr0 : Kd.C (Kd.int .u8) w A0 l0.length l0) (hc0 : l0.length ≤ c0) (h : frame_Parse.f k l0 = some (r1, r2, r3)) :
  Calls Try.prog 28 #[.slice A0 l0.length c0] w fun e w' => ∃ v1_ : Value, e = .returned (.tuple #[.int .u8 r1, v1_, .int .i64 r3]) ∧ Kd.R (Kd.int .u8) 5 w' w.heap.size (fun _ => True) v1_ r2 ∧ Below w.heap.size w w' := by
  refine (frame_Parse.callsV k (fun _ => True) A0 c0 l0 r1 r2 r3 w (Kd.V_mk hc0 (C_F hr0)) h).mono ?_
  rintro e w' ⟨v, he, ho, hb⟩
  exact ⟨v, he, Kd.R_mono ho (fun _ _ => trivial), hb⟩
-- NOT PRINTED: function 29 (msg_Parse_1)

-- NOT PRINTED: function 42 (msg_reader_take)

-- NOT PRINTED: function 40 (msg_reader_number)

-- NOT PRINTED: function 30 (msg_reader_read)

end Go.Proofs.Ytnkphgiodpledaa.QMsgBack
