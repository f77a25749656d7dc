-- Written by a program of this session (a turned copy of the print) out of the translation. Lean checks it.
import Derived.Test.YtplndicghohpbaaQRopeTurnsx0
import Derived.Test.YtplndicghohpbaaQRopeTurnsx2
import Derived.Test.YtplndicghohpbaaQRopeTurnsx3
namespace Go.Proofs.Ytplndicghohpbaa.QRopeTurns
open Go.RowKit Go.Proofs.YtplndicghohpbaaW.PrintWords Go.Proofs.YtplndicghohpbaaW.PrintLast Go.Proofs.YtplndicghohpbaaW.PrintMore
attribute [local go_sem] max2_int min2_int max_two min_two max_three min_three max_four min_four   -- for this text's walks alone
open Go.Proofs.YtplndicghohpbaaW.PrintWords renaming below_alloc → b_a, pw_below_drewN → b_n, below_drew1 → b_d, below_set → b_s, blk_drewN → k_n, blk_drew → k_d, blk_alloc → k_a
open List renaming setIfInBounds_toArray → l_1, set_cons_zero → l_2, set_cons_succ → l_3, map_toArray → l_4, map_cons → l_5, map_nil → l_6, length_drop → l_7, length_take → l_8
set_option linter.unusedVariables false
set_option linter.unusedSimpArgs false

/-! ### pelotonref06_Turn: function 17 -/
def pelotonref06_Turn.l0 : Nat → Int → List Int → List Int → Int → Option (List Int)
 | 0, _, _, _, _ => none
 | k + 1, x0, x1, x5, x6 => if (wrap64 (x6 + 1)) < (x1.length : Int) then ((pelotonref06_Angle.f k x0 (wrap64 (Int.tdiv x6 2))).bind fun t155 => ((pelotonref06_Cos.f k t155).bind fun t156 => ((pelotonref06_Sin.f k t155).bind fun t157 => (if 0 ≤ x6 then (if x6 < (x1.length : Int) then (if 0 ≤ (wrap64 (x6 + 1)) then ((pelotonref01_Shift.f k (wrap64 ((wrap64 ((wrap64 (rd x1 x6)) * (wrap64 (t156)))) - (wrap64 ((wrap64 (rd x1 (wrap64 (x6 + 1)))) * (wrap64 (t157)))))) 14).bind fun t160 => ((pelotonref01_Near.f t160 (-128) 127).bind fun t161 => (if x5.length < 140737488355328 then ((some (x5 ++ [IntKind.i8.wrap (t161)] : List Int)).bind fun y162 => ((pelotonref01_Shift.f k (wrap64 ((wrap64 ((wrap64 (rd x1 x6)) * (wrap64 (t157)))) + (wrap64 ((wrap64 (rd x1 (wrap64 (x6 + 1)))) * (wrap64 (t156)))))) 14).bind fun t165 => ((pelotonref01_Near.f t165 (-128) 127).bind fun t166 => (if y162.length < 140737488355328 then (pelotonref06_Turn.l0 k x0 x1 (y162 ++ [IntKind.i8.wrap (t166)]) (wrap64 (x6 + 2))) else (none))))) else (none)))) else (none)) else (none)) else (none))))) else (some x5)
def pelotonref06_Turn.f (k : Nat) (a0 : Int) (l1 : List Int) : Option (List Int) := pelotonref06_Turn.l0 k a0 l1 ([] : List Int) 0
theorem pelotonref06_Turn.mono_l : ∀ k, (∀ y0 y1 y2 y3, LeO (pelotonref06_Turn.l0 k y0 y1 y2 y3) (pelotonref06_Turn.l0 (k + 1) y0 y1 y2 y3))
 | 0 => fun _ _ _ _ r h => by simp [pelotonref06_Turn.l0] at h
 | k + 1 => by
  have ih0 := pelotonref06_Turn.mono_l k
  ·
   intro y0 y1 y2 y3
   unfold pelotonref06_Turn.l0
   repeat' first
   | (with_reducible exact ih0 _ _ _ _)
   | (with_reducible exact pelotonref01_Shift.mono _ _ _)
   | (with_reducible exact pelotonref06_Angle.mono _ _ _)
   | (with_reducible exact pelotonref06_Cos.mono _ _)
   | (with_reducible exact pelotonref06_Sin.mono _ _)
   | (with_reducible exact LeO.refl _)
   | (with_reducible exact LeO.none _)
   | (with_reducible refine LeO.ite ?_ ?_)
   | (with_reducible refine LeO.bind ?_ (fun _ => ?_))
   | exact ih0 _ _ _ _
   | exact pelotonref01_Shift.mono _ _ _
   | exact pelotonref06_Angle.mono _ _ _
   | exact pelotonref06_Cos.mono _ _
   | exact pelotonref06_Sin.mono _ _
   | exact LeO.none _
   | refine LeO.ite ?_ ?_
   | refine LeO.bind ?_ (fun _ => ?_)
theorem pelotonref06_Turn.mono : ∀ a0 a1 k, LeO (pelotonref06_Turn.f k a0 a1) (pelotonref06_Turn.f (k + 1) a0 a1) := by
 intro a0 a1 k
 have ih0 := pelotonref06_Turn.mono_l k
 unfold pelotonref06_Turn.f
 repeat' first
   | (with_reducible exact ih0 _ _ _ _)
   | (with_reducible exact pelotonref01_Shift.mono _ _ _)
   | (with_reducible exact pelotonref06_Angle.mono _ _ _)
   | (with_reducible exact pelotonref06_Cos.mono _ _)
   | (with_reducible exact pelotonref06_Sin.mono _ _)
   | (with_reducible exact LeO.refl _)
   | (with_reducible exact LeO.none _)
   | (with_reducible refine LeO.ite ?_ ?_)
   | (with_reducible refine LeO.bind ?_ (fun _ => ?_))
   | exact ih0 _ _ _ _
   | exact pelotonref01_Shift.mono _ _ _
   | exact pelotonref06_Angle.mono _ _ _
   | exact pelotonref06_Cos.mono _ _
   | exact pelotonref06_Sin.mono _ _
   | exact LeO.none _
   | refine LeO.ite ?_ ?_
   | refine LeO.bind ?_ (fun _ => ?_)
set_option maxHeartbeats 60000000 in
set_option maxRecDepth 100000 in
theorem pelotonref06_Turn.calls (k : Nat) (a0 : Int) (A1 : Option Addr) (c1 : Nat) (l1 : List Int) (r : List Int) (w : World) (hr1 : Kd.C (Kd.int .i8) w A1 l1.length l1) (hc1 : l1.length ≤ c1) (h : pelotonref06_Turn.f k a0 l1 = some r) :
  Calls Try.prog 17 #[.int .i64 a0, .slice A1 l1.length c1] w fun e w' => ∃ v0_ : Value, e = .returned (v0_) ∧ Kd.R (Kd.int .i8) 35 w' w.heap.size (fun _ => True) v0_ r ∧ Below w.heap.size w w' := by
 have HR1 := Aside0.mk hr1
 have HC1 := Aside0.mk hc1
 clear hr1 hc1
 have HB := Aside0.mk (Below.refl w.heap.size w)
 have H : (pelotonref06_Turn.l0 k a0 l1 ([] : List Int) 0) = some r := h
 clear h
 have H' := Aside0.mk H
 clear H
 go_enter Try.func17, Try.ntmps17
 go_wp2
 go_loopg [5, 6] k (fun kq v5 v6 w' => ∃ (x5_1 : List Int) (x6_1 : Int), v6 = .int .i64 x6_1 ∧ Aside0 (pelotonref06_Turn.l0 kq a0 l1 x5_1 x6_1 = some r) ∧ Aside0 (kq ≤ k) ∧ Aside0 (Kd.R (Kd.int .i8) 35 w' w.heap.size (fun _ => True) v5 x5_1) ∧ Aside0 (Below w.heap.size w w'))
 case atStart => exact ⟨(([] : List Int)), (0), (by first | rfl | (simp; done) | (simp [*]; done)), H', ⟨Nat.le_refl _⟩, ⟨by first | exact Kd.R_nil _ _ _ _ _ | exact Kd.N_nil _ _ _ _ _ | exact Kd.V_nil _ _ _ _ _ | exact Kd.Q_nil _ _ _ _ _ | exact Kd.S_nil _ _ _ _ _⟩, ⟨by repeat (first | (with_reducible first | exact HB.out | apply b_a | apply b_n | apply b_d) | exact HB.out)⟩⟩
 case round =>
  clear H'
  try clear c1
  try clear p2
  obtain ⟨x5_1, x6_1, rfl, HA, HK1, HO_5, HB⟩ := hrel
  cases gk with
  | zero => exact absurd HA.out (by simp [pelotonref06_Turn.l0])
  | succ k1 =>
   have H := HA.out
   clear HA
   simp only [pelotonref06_Turn.l0] at H
   by_cases c3 : (wrap64 (x6_1 + 1)) < (l1.length : Int)
   rotate_left
   ·
    rw [if_neg c3] at H
    have c3b0 : decide ((wrap64 (x6_1 + 1)) < (l1.length : Int)) = false := decide_eq_false c3
    clear c3
    obtain rfl := Option.some.inj H
    go_wp2
    go_ret
    exact ⟨_, by first | rfl | (simp [errW_none, errW_some] <;> rfl) | (simp [*, errW_none, errW_some] <;> rfl), by (with_reducible repeat (first | apply Kd.R_alloc | apply Kd.R_drewN | apply Kd.R_drew)); exact HO_5.out, by repeat (first | (with_reducible first | exact HB.out | apply b_a | apply b_n | apply b_d) | exact HB.out)⟩

   rw [if_pos c3] at H
   have c3b0 : decide ((wrap64 (x6_1 + 1)) < (l1.length : Int)) = true := decide_eq_true c3
   clear c3
   replace H := Option.bind_eq_some_iff.mp H
   obtain ⟨t155, A40, H⟩ := H
   replace H : ((pelotonref06_Cos.f k1 t155).bind fun t156 => ((pelotonref06_Sin.f k1 t155).bind fun t157 => (if 0 ≤ x6_1 then (if x6_1 < (l1.length : Int) then (if 0 ≤ (wrap64 (x6_1 + 1)) then ((pelotonref01_Shift.f k1 (wrap64 ((wrap64 ((wrap64 (rd l1 x6_1)) * (wrap64 (t156)))) - (wrap64 ((wrap64 (rd l1 (wrap64 (x6_1 + 1)))) * (wrap64 (t157)))))) 14).bind fun t160 => ((pelotonref01_Near.f t160 (-128) 127).bind fun t161 => (if x5_1.length < 140737488355328 then ((some (x5_1 ++ [IntKind.i8.wrap (t161)] : List Int)).bind fun y162 => ((pelotonref01_Shift.f k1 (wrap64 ((wrap64 ((wrap64 (rd l1 x6_1)) * (wrap64 (t157)))) + (wrap64 ((wrap64 (rd l1 (wrap64 (x6_1 + 1)))) * (wrap64 (t156)))))) 14).bind fun t165 => ((pelotonref01_Near.f t165 (-128) 127).bind fun t166 => (if y162.length < 140737488355328 then (pelotonref06_Turn.l0 k1 a0 l1 (y162 ++ [IntKind.i8.wrap (t166)]) (wrap64 (x6_1 + 2))) else (none))))) else (none)))) else (none)) else (none)) else (none)))) = some r := H
   have A4 := Aside0.mk A40
   clear A40
   replace H := Option.bind_eq_some_iff.mp H
   obtain ⟨t156, A50, H⟩ := H
   replace H : ((pelotonref06_Sin.f k1 t155).bind fun t157 => (if 0 ≤ x6_1 then (if x6_1 < (l1.length : Int) then (if 0 ≤ (wrap64 (x6_1 + 1)) then ((pelotonref01_Shift.f k1 (wrap64 ((wrap64 ((wrap64 (rd l1 x6_1)) * (wrap64 (t156)))) - (wrap64 ((wrap64 (rd l1 (wrap64 (x6_1 + 1)))) * (wrap64 (t157)))))) 14).bind fun t160 => ((pelotonref01_Near.f t160 (-128) 127).bind fun t161 => (if x5_1.length < 140737488355328 then ((some (x5_1 ++ [IntKind.i8.wrap (t161)] : List Int)).bind fun y162 => ((pelotonref01_Shift.f k1 (wrap64 ((wrap64 ((wrap64 (rd l1 x6_1)) * (wrap64 (t157)))) + (wrap64 ((wrap64 (rd l1 (wrap64 (x6_1 + 1)))) * (wrap64 (t156)))))) 14).bind fun t165 => ((pelotonref01_Near.f t165 (-128) 127).bind fun t166 => (if y162.length < 140737488355328 then (pelotonref06_Turn.l0 k1 a0 l1 (y162 ++ [IntKind.i8.wrap (t166)]) (wrap64 (x6_1 + 2))) else (none))))) else (none)))) else (none)) else (none)) else (none))) = some r := H
   have A5 := Aside0.mk A50
   clear A50
   replace H := Option.bind_eq_some_iff.mp H
   obtain ⟨t157, A60, H⟩ := H
   replace H : (if 0 ≤ x6_1 then (if x6_1 < (l1.length : Int) then (if 0 ≤ (wrap64 (x6_1 + 1)) then ((pelotonref01_Shift.f k1 (wrap64 ((wrap64 ((wrap64 (rd l1 x6_1)) * (wrap64 (t156)))) - (wrap64 ((wrap64 (rd l1 (wrap64 (x6_1 + 1)))) * (wrap64 (t157)))))) 14).bind fun t160 => ((pelotonref01_Near.f t160 (-128) 127).bind fun t161 => (if x5_1.length < 140737488355328 then ((some (x5_1 ++ [IntKind.i8.wrap (t161)] : List Int)).bind fun y162 => ((pelotonref01_Shift.f k1 (wrap64 ((wrap64 ((wrap64 (rd l1 x6_1)) * (wrap64 (t157)))) + (wrap64 ((wrap64 (rd l1 (wrap64 (x6_1 + 1)))) * (wrap64 (t156)))))) 14).bind fun t165 => ((pelotonref01_Near.f t165 (-128) 127).bind fun t166 => (if y162.length < 140737488355328 then (pelotonref06_Turn.l0 k1 a0 l1 (y162 ++ [IntKind.i8.wrap (t166)]) (wrap64 (x6_1 + 2))) else (none))))) else (none)))) else (none)) else (none)) else (none)) = some r := H
   have A6 := Aside0.mk A60
   clear A60
   by_cases c7 : 0 ≤ x6_1
   rotate_left
   ·
    rw [if_neg c7] at H
    exact absurd H (by simp)
   rw [if_pos c7] at H
   have c7b0 : decide (0 ≤ x6_1) = true := decide_eq_true c7
   clear c7
   by_cases c8 : x6_1 < (l1.length : Int)
   rotate_left
   ·
    rw [if_neg c8] at H
    exact absurd H (by simp)
   rw [if_pos c8] at H
   have c8b0 : decide (x6_1 < (l1.length : Int)) = true := decide_eq_true c8
   clear c8
   obtain ⟨ji9, hji9⟩ : ∃ j_ : Int, (wrap64 (x6_1 + 1)) = j_ := ⟨_, rfl⟩
   replace H : (if 0 ≤ (ji9) then ((pelotonref01_Shift.f k1 (wrap64 ((wrap64 ((wrap64 (rd l1 x6_1)) * (wrap64 (t156)))) - (wrap64 ((wrap64 (rd l1 (ji9))) * (wrap64 (t157)))))) 14).bind fun t160 => ((pelotonref01_Near.f t160 (-128) 127).bind fun t161 => (if x5_1.length < 140737488355328 then ((some (x5_1 ++ [IntKind.i8.wrap (t161)] : List Int)).bind fun y162 => ((pelotonref01_Shift.f k1 (wrap64 ((wrap64 ((wrap64 (rd l1 x6_1)) * (wrap64 (t157)))) + (wrap64 ((wrap64 (rd l1 (ji9))) * (wrap64 (t156)))))) 14).bind fun t165 => ((pelotonref01_Near.f t165 (-128) 127).bind fun t166 => (if y162.length < 140737488355328 then (pelotonref06_Turn.l0 k1 a0 l1 (y162 ++ [IntKind.i8.wrap (t166)]) (wrap64 (x6_1 + 2))) else (none))))) else (none)))) else (none)) = some r := by first | (rw [hji9] at H; exact H) | (simp only [hji9] at H ⊢; exact H)
   (try rw [hji9] at c3b0)
   (try rw [hji9] at A4)
   (try rw [hji9] at A5)
   (try rw [hji9] at A6)
   have hji9w : (IntKind.i64.wrap (x6_1 + 1)) = ji9 := (i64_w _).trans hji9
   by_cases c10 : 0 ≤ (ji9)
   rotate_left
   ·
    rw [if_neg c10] at H
    exact absurd H (by simp)
   rw [if_pos c10] at H
   have c10b0 : decide (0 ≤ (ji9)) = true := decide_eq_true c10
   clear c10
   replace H := Option.bind_eq_some_iff.mp H
   obtain ⟨t160, A110, H⟩ := H
   replace H : ((pelotonref01_Near.f t160 (-128) 127).bind fun t161 => (if x5_1.length < 140737488355328 then ((some (x5_1 ++ [IntKind.i8.wrap (t161)] : List Int)).bind fun y162 => ((pelotonref01_Shift.f k1 (wrap64 ((wrap64 ((wrap64 (rd l1 x6_1)) * (wrap64 (t157)))) + (wrap64 ((wrap64 (rd l1 (ji9))) * (wrap64 (t156)))))) 14).bind fun t165 => ((pelotonref01_Near.f t165 (-128) 127).bind fun t166 => (if y162.length < 140737488355328 then (pelotonref06_Turn.l0 k1 a0 l1 (y162 ++ [IntKind.i8.wrap (t166)]) (wrap64 (x6_1 + 2))) else (none))))) else (none))) = some r := H
   have A11 := Aside0.mk A110
   clear A110
   replace H := Option.bind_eq_some_iff.mp H
   obtain ⟨t161, A120, H⟩ := H
   replace H : (if x5_1.length < 140737488355328 then ((some (x5_1 ++ [IntKind.i8.wrap (t161)] : List Int)).bind fun y162 => ((pelotonref01_Shift.f k1 (wrap64 ((wrap64 ((wrap64 (rd l1 x6_1)) * (wrap64 (t157)))) + (wrap64 ((wrap64 (rd l1 (ji9))) * (wrap64 (t156)))))) 14).bind fun t165 => ((pelotonref01_Near.f t165 (-128) 127).bind fun t166 => (if y162.length < 140737488355328 then (pelotonref06_Turn.l0 k1 a0 l1 (y162 ++ [IntKind.i8.wrap (t166)]) (wrap64 (x6_1 + 2))) else (none))))) else (none)) = some r := H
   have A12 := Aside0.mk A120
   clear A120
   by_cases c13 : x5_1.length < 140737488355328
   rotate_left
   ·
    rw [if_neg c13] at H
    exact absurd H (by simp)
   rw [if_pos c13] at H
   have LMc13 := Aside0.mk c13
   clear c13
   obtain ⟨y162, hy162⟩ : ∃ y_ : List Int, y_ = (x5_1 ++ [IntKind.i8.wrap (t161)]) := ⟨_, rfl⟩
   replace H : ((pelotonref01_Shift.f k1 (wrap64 ((wrap64 ((wrap64 (rd l1 x6_1)) * (wrap64 (t157)))) + (wrap64 ((wrap64 (rd l1 (ji9))) * (wrap64 (t156)))))) 14).bind fun t165 => ((pelotonref01_Near.f t165 (-128) 127).bind fun t166 => (if y162.length < 140737488355328 then (pelotonref06_Turn.l0 k1 a0 l1 (y162 ++ [IntKind.i8.wrap (t166)]) (wrap64 (x6_1 + 2))) else (none)))) = some r := by first | (rw [hy162]; with_reducible exact H) | (have H2_ := (Option.bind_some _ _).symm.trans H; rw [hy162]; with_reducible exact H2_) | (have H2_ := (Option.bind_some _ _).symm.trans H; with_reducible exact H2_) | with_reducible exact H | (rw [hy162]; exact H) | exact H
   have Ny162 := Aside0.mk hy162
   clear hy162
   replace H := Option.bind_eq_some_iff.mp H
   obtain ⟨t165, A140, H⟩ := H
   replace H : ((pelotonref01_Near.f t165 (-128) 127).bind fun t166 => (if y162.length < 140737488355328 then (pelotonref06_Turn.l0 k1 a0 l1 (y162 ++ [IntKind.i8.wrap (t166)]) (wrap64 (x6_1 + 2))) else (none))) = some r := H
   have A14 := Aside0.mk A140
   clear A140
   replace H := Option.bind_eq_some_iff.mp H
   obtain ⟨t166, A150, H⟩ := H
   replace H : (if y162.length < 140737488355328 then (pelotonref06_Turn.l0 k1 a0 l1 (y162 ++ [IntKind.i8.wrap (t166)]) (wrap64 (x6_1 + 2))) else (none)) = some r := H
   have A15 := Aside0.mk A150
   clear A150
   by_cases c16 : y162.length < 140737488355328
   rotate_left
   ·
    rw [if_neg c16] at H
    exact absurd H (by simp)
   rw [if_pos c16] at H
   have LMc16 := Aside0.mk c16
   clear c16
   obtain ⟨y167, hy167⟩ : ∃ y_ : List Int, y_ = (y162 ++ [IntKind.i8.wrap (t166)]) := ⟨_, rfl⟩
   replace H : (pelotonref06_Turn.l0 k1 a0 l1 y167 (wrap64 (x6_1 + 2))) = some r := by first | (rw [hy167]; with_reducible exact H) | (have H2_ := (Option.bind_some _ _).symm.trans H; rw [hy167]; with_reducible exact H2_) | (have H2_ := (Option.bind_some _ _).symm.trans H; with_reducible exact H2_) | with_reducible exact H | (rw [hy167]; exact H) | exact H
   have Ny167 := Aside0.mk hy167
   clear hy167
   have H' := Aside0.mk H
   clear H
   go_wp2_with (first | ((with_reducible refine gate_callee (f := 14) rfl ?_); refine goesL_ (some 22) rfl rfl Try.func14 (by kernel_rfl) rfl #[.int .i64 a0, .int .i64 (wrap64 (Int.tdiv x6_1 2))] rfl (by (try simp only [l_4, l_5, l_6]); first | done | rfl | (simp only [l_7, l_8]; rfl)) ?_; (with_reducible refine (pelotonref06_Angle.calls k1 a0 (wrap64 (Int.tdiv x6_1 2)) t155 _ A4.out).mono ?_); rintro e w' ⟨rfl, ⟨nd, rfl⟩⟩; refine ⟨_, rfl, ?_⟩) | ((with_reducible refine gate_callee (f := 12) rfl ?_); refine goesL_ (some 24) rfl rfl Try.func12 (by kernel_rfl) rfl #[.int .i64 t155] rfl (by (try simp only [l_4, l_5, l_6]); first | done | rfl | (simp only [l_7, l_8]; rfl)) ?_; (with_reducible refine (pelotonref06_Cos.calls k1 t155 t156 _ A5.out).mono ?_); rintro e w17 ⟨rfl, hb⟩; (try clear A5); refine ⟨_, rfl, ?_⟩; have n0_ := Aside0.mk (Kd.R_below (by (with_reducible repeat (first | apply Kd.R_alloc | apply Kd.R_drewN | apply Kd.R_drew)); exact HO_5.out) hb); have n1_ := Aside0.mk (below_step (by repeat (first | (with_reducible first | exact HB.out | apply b_a | apply b_n | apply b_d) | exact HB.out)) hb); clear HO_5; clear HB; have HO_5 := n0_; have HB := n1_; clear n0_ n1_; (try clear hb); (try clear hb2); (try clear hk); (try clear hi)) | ((with_reducible refine gate_callee (f := 10) rfl ?_); refine goesL_ (some 27) rfl rfl Try.func10 (by kernel_rfl) rfl #[.int .i64 t155] rfl (by (try simp only [l_4, l_5, l_6]); first | done | rfl | (simp only [l_7, l_8]; rfl)) ?_; (with_reducible refine (pelotonref06_Sin.calls k1 t155 t157 _ A6.out).mono ?_); rintro e w18 ⟨rfl, hb⟩; (try clear A6); refine ⟨_, rfl, ?_⟩; have n0_ := Aside0.mk (Kd.R_below (by (with_reducible repeat (first | apply Kd.R_alloc | apply Kd.R_drewN | apply Kd.R_drew)); exact HO_5.out) hb); have n1_ := Aside0.mk (below_step (by repeat (first | (with_reducible first | exact HB.out | apply b_a | apply b_n | apply b_d) | exact HB.out)) hb); clear HO_5; clear HB; have HO_5 := n0_; have HB := n1_; clear n0_ n1_; (try clear hb); (try clear hb2); (try clear hk); (try clear hi); have p158 : 0 ≤ (x6_1 : Int) := of_decide_eq_true (by first | (with_reducible assumption) | assumption); have q158 : x6_1 < (l1.length : Int) := of_decide_eq_true (by first | (with_reducible assumption) | assumption); obtain ⟨ad158, e158, hx158_0⟩ := Kd.at_int HR1.out x6_1 p158 q158; cases e158; replace hx158_0 := (HB.out.cell (World.block_lt_of_cell? w _ hx158_0)).trans hx158_0; replace p158 := eq_true p158; replace q158 := eq_true q158; have p159 : 0 ≤ ((ji9) : Int) := of_decide_eq_true (by first | (with_reducible assumption) | assumption); have q159 : (ji9) < (l1.length : Int) := of_decide_eq_true (by first | (with_reducible assumption) | assumption); obtain ⟨ad159, e159, hx159_0⟩ := Kd.at_int HR1.out (ji9) p159 q159; obtain rfl : ad158 = ad159 := (by injection e159); replace hx159_0 := (HB.out.cell (World.block_lt_of_cell? w _ hx159_0)).trans hx159_0; replace p159 := eq_true p159; replace q159 := eq_true q159) | ((with_reducible refine gate_callee (f := 23) rfl ?_); refine goesL_ (some 48) rfl rfl Try.func23 (by kernel_rfl) rfl #[.int .i64 (wrap64 ((wrap64 ((wrap64 (rd l1 x6_1)) * (wrap64 (t156)))) - (wrap64 ((wrap64 (rd l1 (ji9))) * (wrap64 (t157)))))), .int .i64 14] rfl (by (try simp only [l_4, l_5, l_6]); first | done | (simp only [hji9]; rfl) | rfl | (simp only [l_7, l_8]; rfl)) ?_; (with_reducible refine (pelotonref01_Shift.calls k1 (wrap64 ((wrap64 ((wrap64 (rd l1 x6_1)) * (wrap64 (t156)))) - (wrap64 ((wrap64 (rd l1 (ji9))) * (wrap64 (t157)))))) 14 t160 _ A11.out).mono ?_); rintro e w' ⟨rfl, ⟨nd, rfl⟩⟩; refine ⟨_, rfl, ?_⟩) | ((with_reducible refine gate_callee (f := 25) rfl ?_); refine goesL_ (some 49) rfl rfl Try.func25 (by kernel_rfl) rfl #[.int .i64 t160, .int .i64 (-128), .int .i64 127] rfl (by (try simp only [l_4, l_5, l_6]); first | done | rfl | (simp only [l_7, l_8]; rfl)) ?_; (with_reducible refine (pelotonref01_Near.calls t160 (-128) 127 t161 _ A12.out).mono ?_); rintro e w' ⟨rfl, ⟨nd, rfl⟩⟩; refine ⟨_, rfl, ?_⟩) | ((with_reducible refine gate_builtin (b := .append) (xs := #[.tmp 40, .tmp 51]) rfl ?_); at_builtin; refine Kd.R_append (Kd.int .i8) (w0 := w) w.heap.size rfl (.tmp 40) (.tmp 51) 26 35 (.int .i8 0) 1 rfl Try.underlying26 info35 rfl (by decide) (by omega) u5 x5_1 (IntKind.i8.wrap (t161)) [.int .i8 (IntKind.i8.wrap (t161))] (fun _ => True) (fun _ => False) rfl rfl ?aP (fun _ hk => hk.elim) ?aF ?aO ?aB ?aS ?aL ?_; (case aP => exact rfl); (case aB => exact (by repeat (first | (with_reducible first | exact HB.out | apply b_a | apply b_n | apply b_d) | exact HB.out))); (case aF => exact (fun _ _ => trivial)); (case aO => exact (by (with_reducible repeat (first | apply Kd.R_alloc | apply Kd.R_drewN | apply Kd.R_drew)); exact HO_5.out)); (case aS => exact (below_size (by repeat (first | (with_reducible first | exact HB.out | apply b_a | apply b_n | apply b_d) | exact HB.out)))); (case aL => have := LMc13.out; omega); intro v163 w19 ho hb hg hat; rw [← Ny162.out] at ho; have n0_ := Aside0.mk (hb); have n1_ := Aside0.mk (ho); clear HB; clear HO_5; have HB := n0_; have HO164 := n1_; clear n0_ n1_; clear ho hb hg hat) | ((with_reducible refine gate_callee (f := 23) rfl ?_); refine goesL_ (some 61) rfl rfl Try.func23 (by kernel_rfl) rfl #[.int .i64 (wrap64 ((wrap64 ((wrap64 (rd l1 x6_1)) * (wrap64 (t157)))) + (wrap64 ((wrap64 (rd l1 (ji9))) * (wrap64 (t156)))))), .int .i64 14] rfl (by (try simp only [l_4, l_5, l_6]); first | done | (simp only [hji9]; rfl) | rfl | (simp only [l_7, l_8]; rfl)) ?_; (with_reducible refine (pelotonref01_Shift.calls k1 (wrap64 ((wrap64 ((wrap64 (rd l1 x6_1)) * (wrap64 (t157)))) + (wrap64 ((wrap64 (rd l1 (ji9))) * (wrap64 (t156)))))) 14 t165 _ A14.out).mono ?_); rintro e w' ⟨rfl, ⟨nd, rfl⟩⟩; refine ⟨_, rfl, ?_⟩) | ((with_reducible refine gate_callee (f := 25) rfl ?_); refine goesL_ (some 62) rfl rfl Try.func25 (by kernel_rfl) rfl #[.int .i64 t165, .int .i64 (-128), .int .i64 127] rfl (by (try simp only [l_4, l_5, l_6]); first | done | rfl | (simp only [l_7, l_8]; rfl)) ?_; (with_reducible refine (pelotonref01_Near.calls t165 (-128) 127 t166 _ A15.out).mono ?_); rintro e w' ⟨rfl, ⟨nd, rfl⟩⟩; refine ⟨_, rfl, ?_⟩) | ((with_reducible refine gate_builtin (b := .append) (xs := #[.tmp 53, .tmp 64]) rfl ?_); at_builtin; refine Kd.R_append (Kd.int .i8) (w0 := w) w.heap.size rfl (.tmp 53) (.tmp 64) 26 35 (.int .i8 0) 1 rfl Try.underlying26 info35 rfl (by decide) (by omega) v163 y162 (IntKind.i8.wrap (t166)) [.int .i8 (IntKind.i8.wrap (t166))] (fun _ => True) (fun _ => False) rfl rfl ?aP (fun _ hk => hk.elim) ?aF ?aO ?aB ?aS ?aL ?_; (case aP => exact rfl); (case aB => exact (by repeat (first | (with_reducible first | exact HB.out | apply b_a | apply b_n | apply b_d) | exact HB.out))); (case aF => exact (fun _ _ => trivial)); (case aO => exact (by (with_reducible repeat (first | apply Kd.R_alloc | apply Kd.R_drewN | apply Kd.R_drew)); exact HO164.out)); (case aS => exact (below_size (by repeat (first | (with_reducible first | exact HB.out | apply b_a | apply b_n | apply b_d) | exact HB.out)))); (case aL => have := LMc16.out; omega); intro v168 w20 ho hb hg hat; rw [← Ny167.out] at ho; have n0_ := Aside0.mk (hb); have n1_ := Aside0.mk (ho); clear HB; clear HO164; have HB := n0_; have HO169 := n1_; clear n0_ n1_; clear ho hb hg hat))
   go_roundg k1
   case measure => have := HK1.out; omega
   case rel => exact ⟨(y167), (wrap64 (x6_1 + 2)), (by first | rfl | (simp; done) | (simp [*]; done)), H', ⟨by have := HK1.out; omega⟩, ⟨by (with_reducible repeat (first | apply Kd.R_alloc | apply Kd.R_drewN | apply Kd.R_drew)); exact HO169.out⟩, ⟨by repeat (first | (with_reducible first | exact HB.out | apply b_a | apply b_n | apply b_d) | exact HB.out)⟩⟩
/-! ### pelotonlaw06_RopeTurns: function 4 -/
mutual
def pelotonlaw06_RopeTurns.j0 : Nat → Int → List Int → Bool → Option (Bool)
 | 0, _, _, _ => none
 | k + 1, x0, x1, x14 => if x14 = true then ((pelotonlaw06_awake.f k).bind fun t171 => (some t171)) else ((some (([] : List Int) : List Int)).bind fun y172 => (if y172.length + x1.length < 140737488355328 then ((some (y172 ++ x1 : List Int)).bind fun y175 => ((rope_Turn.f k x0 y175).bind fun bt178 => ((pelotonref04_Bytes.f k y175 x1).bind fun t182 => (if t182 = true then (if ((x1.length : Int) % 2) = 0 then (if x0 < 0 then (pelotonlaw06_RopeTurns.j1 k x0 x1 bt178.1 bt178.2 true) else (pelotonlaw06_RopeTurns.j1 k x0 x1 bt178.1 bt178.2 (decide (x0 > 1048576)))) else (if bt178.2 = 30 then (some ((bt178.1.length : Int) == 0)) else (some false))) else (some false))))) else (none)))
def pelotonlaw06_RopeTurns.j1 : Nat → Int → List Int → List Int → Int → Bool → Option (Bool)
 | 0, _, _, _, _, _ => none
 | k + 1, x0, x1, x6, x7, x45 => if x45 = true then (if x7 = 2 then (some ((x6.length : Int) == 0)) else (some false)) else (if x7 = 0 then ((pelotonref06_Turn.f k x0 x1).bind fun t183 => ((pelotonref04_Bytes.f k x6 t183).bind fun t186 => (some t186))) else (some false))
end
def pelotonlaw06_RopeTurns.f (k : Nat) (a0 : Int) (l1 : List Int) : Option (Bool) := (pelotonlaw06_awake.f k).bind fun t170 => (if t170 = true then (pelotonlaw06_RopeTurns.j0 k a0 l1 (decide ((l1.length : Int) > 300))) else (pelotonlaw06_RopeTurns.j0 k a0 l1 true))
theorem pelotonlaw06_RopeTurns.mono_l : ∀ k, (∀ y0 y1 y2, LeO (pelotonlaw06_RopeTurns.j0 k y0 y1 y2) (pelotonlaw06_RopeTurns.j0 (k + 1) y0 y1 y2)) ∧ (∀ y0 y1 y2 y3 y4, LeO (pelotonlaw06_RopeTurns.j1 k y0 y1 y2 y3 y4) (pelotonlaw06_RopeTurns.j1 (k + 1) y0 y1 y2 y3 y4))
 | 0 => ⟨fun _ _ _ r h => by simp [pelotonlaw06_RopeTurns.j0] at h, fun _ _ _ _ _ r h => by simp [pelotonlaw06_RopeTurns.j1] at h⟩
 | k + 1 => by
  obtain ⟨ih0, ih1⟩ := pelotonlaw06_RopeTurns.mono_l k
  refine ⟨?_, ?_⟩
  ·
   intro y0 y1 y2
   unfold pelotonlaw06_RopeTurns.j0
   repeat' first
   | (with_reducible exact ih0 _ _ _)
   | (with_reducible exact ih1 _ _ _ _ _)
   | (with_reducible exact pelotonlaw06_awake.mono _)
   | (with_reducible exact pelotonref04_Bytes.mono _ _ _)
   | (with_reducible exact pelotonref06_Turn.mono _ _ _)
   | (with_reducible exact rope_Turn.mono _ _ _)
   | (with_reducible exact LeO.refl _)
   | (with_reducible exact LeO.none _)
   | (with_reducible refine LeO.ite ?_ ?_)
   | (with_reducible refine LeO.bind ?_ (fun _ => ?_))
   | exact ih0 _ _ _
   | exact ih1 _ _ _ _ _
   | exact pelotonlaw06_awake.mono _
   | exact pelotonref04_Bytes.mono _ _ _
   | exact pelotonref06_Turn.mono _ _ _
   | exact rope_Turn.mono _ _ _
   | exact LeO.none _
   | refine LeO.ite ?_ ?_
   | refine LeO.bind ?_ (fun _ => ?_)
  ·
   intro y0 y1 y2 y3 y4
   unfold pelotonlaw06_RopeTurns.j1
   repeat' first
   | (with_reducible exact ih0 _ _ _)
   | (with_reducible exact ih1 _ _ _ _ _)
   | (with_reducible exact pelotonlaw06_awake.mono _)
   | (with_reducible exact pelotonref04_Bytes.mono _ _ _)
   | (with_reducible exact pelotonref06_Turn.mono _ _ _)
   | (with_reducible exact rope_Turn.mono _ _ _)
   | (with_reducible exact LeO.refl _)
   | (with_reducible exact LeO.none _)
   | (with_reducible refine LeO.ite ?_ ?_)
   | (with_reducible refine LeO.bind ?_ (fun _ => ?_))
   | exact ih0 _ _ _
   | exact ih1 _ _ _ _ _
   | exact pelotonlaw06_awake.mono _
   | exact pelotonref04_Bytes.mono _ _ _
   | exact pelotonref06_Turn.mono _ _ _
   | exact rope_Turn.mono _ _ _
   | exact LeO.none _
   | refine LeO.ite ?_ ?_
   | refine LeO.bind ?_ (fun _ => ?_)
theorem pelotonlaw06_RopeTurns.mono : ∀ a0 a1 k, LeO (pelotonlaw06_RopeTurns.f k a0 a1) (pelotonlaw06_RopeTurns.f (k + 1) a0 a1) := by
 intro a0 a1 k
 obtain ⟨ih0, ih1⟩ := pelotonlaw06_RopeTurns.mono_l k
 unfold pelotonlaw06_RopeTurns.f
 repeat' first
   | (with_reducible exact ih0 _ _ _)
   | (with_reducible exact ih1 _ _ _ _ _)
   | (with_reducible exact pelotonlaw06_awake.mono _)
   | (with_reducible exact pelotonref04_Bytes.mono _ _ _)
   | (with_reducible exact pelotonref06_Turn.mono _ _ _)
   | (with_reducible exact rope_Turn.mono _ _ _)
   | (with_reducible exact LeO.refl _)
   | (with_reducible exact LeO.none _)
   | (with_reducible refine LeO.ite ?_ ?_)
   | (with_reducible refine LeO.bind ?_ (fun _ => ?_))
   | exact ih0 _ _ _
   | exact ih1 _ _ _ _ _
   | exact pelotonlaw06_awake.mono _
   | exact pelotonref04_Bytes.mono _ _ _
   | exact pelotonref06_Turn.mono _ _ _
   | exact rope_Turn.mono _ _ _
   | exact LeO.none _
   | refine LeO.ite ?_ ?_
   | refine LeO.bind ?_ (fun _ => ?_)
set_option maxHeartbeats 60000000 in
set_option maxRecDepth 100000 in
theorem pelotonlaw06_RopeTurns.calls (k : Nat) (a0 : Int) (A1 : Option Addr) (c1 : Nat) (l1 : List Int) (r : Bool) (w : World) (hr1 : Kd.C (Kd.int .i8) w A1 l1.length l1) (hc1 : l1.length ≤ c1) (h : pelotonlaw06_RopeTurns.f k a0 l1 = some r) :
  Calls Try.prog 4 #[.int .i64 a0, .slice A1 l1.length c1] w fun e w' => e = .returned (.bool r) ∧ Below w.heap.size w w' := by
 have HR1 := Aside0.mk hr1
 have HC1 := Aside0.mk hc1
 clear hr1 hc1
 have HB := Aside0.mk (Below.refl w.heap.size w)
 have H : ((pelotonlaw06_awake.f k).bind fun t170 => (if t170 = true then (pelotonlaw06_RopeTurns.j0 k a0 l1 (decide ((l1.length : Int) > 300))) else (pelotonlaw06_RopeTurns.j0 k a0 l1 true))) = some r := h
 clear h
 have HC3 := Aside0.mk H
 clear H
 go_enter Try.func4, Try.ntmps4
 go_upto_region 1 with (fail)
 go_cut [14] (fun v14 wc => ∃ (kq : Nat) (x14_2 : Bool), v14 = .bool x14_2 ∧ Aside0 (pelotonlaw06_RopeTurns.j0 kq a0 l1 x14_2 = some r) ∧ Aside0 (kq ≤ k) ∧ Aside0 (Below w.heap.size w wc))
 case first =>
  have H := HC3.out
  clear HC3
  replace H := Option.bind_eq_some_iff.mp H
  obtain ⟨t170, A40, H⟩ := H
  replace H : (if t170 = true then (pelotonlaw06_RopeTurns.j0 k a0 l1 (decide ((l1.length : Int) > 300))) else (pelotonlaw06_RopeTurns.j0 k a0 l1 true)) = some r := H
  have A4 := Aside0.mk A40
  clear A40
  by_cases c5 : t170 = true
  ·
   subst c5
   have H1 : (pelotonlaw06_RopeTurns.j0 k a0 l1 (decide ((l1.length : Int) > 300))) = some r := by rw [if_pos rfl] at H; exact H
   clear H
   have H := H1
   clear H1
   have H' := Aside0.mk H
   clear H
   go_wp2_with (first | ((with_reducible refine gate_callee (f := 8) rfl ?_); refine goesL_ (some 8) rfl rfl Try.func8 (by kernel_rfl) rfl #[] rfl (by (try simp only [l_4, l_5, l_6]); first | done | rfl | (simp only [l_7, l_8]; rfl)) ?_; (with_reducible refine (pelotonlaw06_awake.calls k  true _ A4.out).mono ?_); rintro e w6 ⟨rfl, hb⟩; (try clear A4); refine ⟨_, rfl, ?_⟩; have n0_ := Aside0.mk (below_step (by repeat (first | (with_reducible first | exact HB.out | apply b_a | apply b_n | apply b_d) | exact HB.out)) hb); clear HB; have HB := n0_; clear n0_; (try clear hb); (try clear hb2); (try clear hk); (try clear hi)))
   go_meet
   case rel => exact ⟨_, (decide ((l1.length : Int) > 300)), (by first | rfl | (simp; done) | (simp [*]; done)), H', ⟨by first | omega | exact Nat.le_refl _⟩, ⟨by repeat (first | (with_reducible first | exact HB.out | apply b_a | apply b_n | apply b_d) | exact HB.out)⟩⟩
  replace c5 := Bool.eq_false_iff.mpr c5
  subst c5
  have H1 : (pelotonlaw06_RopeTurns.j0 k a0 l1 true) = some r := by rw [if_neg (show ¬ (false = true) by decide)] at H; exact H
  clear H
  have H := H1
  clear H1
  have H' := Aside0.mk H
  clear H
  go_wp2_with (first | ((with_reducible refine gate_callee (f := 8) rfl ?_); refine goesL_ (some 8) rfl rfl Try.func8 (by kernel_rfl) rfl #[] rfl (by (try simp only [l_4, l_5, l_6]); first | done | rfl | (simp only [l_7, l_8]; rfl)) ?_; (with_reducible refine (pelotonlaw06_awake.calls k  false _ A4.out).mono ?_); rintro e w7 ⟨rfl, hb⟩; (try clear A4); refine ⟨_, rfl, ?_⟩; have n0_ := Aside0.mk (below_step (by repeat (first | (with_reducible first | exact HB.out | apply b_a | apply b_n | apply b_d) | exact HB.out)) hb); clear HB; have HB := n0_; clear n0_; (try clear hb); (try clear hb2); (try clear hk); (try clear hi)))
  go_meet
  case rel => exact ⟨_, (true), (by first | rfl | (simp; done) | (simp [*]; done)), H', ⟨by first | omega | exact Nat.le_refl _⟩, ⟨by repeat (first | (with_reducible first | exact HB.out | apply b_a | apply b_n | apply b_d) | exact HB.out)⟩⟩
 case rest => as_aux_lemma =>
  clear HC3
  try clear c1
  try clear p2
  try clear c4
  try clear c5
  obtain ⟨kq, x14_2, rfl, HA, HJ2, HB⟩ := hcut
  cases kq with
  | zero => exact absurd HA.out (by simp [pelotonlaw06_RopeTurns.j0])
  | succ kj2 =>
   have H := HA.out
   clear HA
   simp only [pelotonlaw06_RopeTurns.j0] at H
   by_cases c8 : x14_2 = true
   ·
    subst c8
    have H1 : ((pelotonlaw06_awake.f kj2).bind fun t171 => (some t171)) = some r := by rw [if_pos rfl] at H; exact H
    clear H
    have H := H1
    clear H1
    replace H := Option.bind_eq_some_iff.mp H
    obtain ⟨t171, A90, H⟩ := H
    replace H : (some t171) = some r := H
    have A9 := Aside0.mk A90
    clear A90
    obtain rfl := Option.some.inj H
    go_wp2_with (first | ((with_reducible refine gate_callee (f := 8) rfl ?_); refine goesL_ (some 15) rfl rfl Try.func8 (by kernel_rfl) rfl #[] rfl (by (try simp only [l_4, l_5, l_6]); first | done | rfl | (simp only [l_7, l_8]; rfl)) ?_; (with_reducible refine (pelotonlaw06_awake.calls kj2  t171 _ A9.out).mono ?_); rintro e w10 ⟨rfl, hb⟩; (try clear A9); refine ⟨_, rfl, ?_⟩; have n0_ := Aside0.mk (below_step (by repeat (first | (with_reducible first | exact HB.out | apply b_a | apply b_n | apply b_d) | exact HB.out)) hb); clear HB; have HB := n0_; clear n0_; (try clear hb); (try clear hb2); (try clear hk); (try clear hi)))
    go_ret
    exact ⟨by first | rfl | (simp [errW_none, errW_some] <;> rfl) | (simp [*, errW_none, errW_some] <;> rfl), by repeat (first | (with_reducible first | exact HB.out | apply b_a | apply b_n | apply b_d) | exact HB.out)⟩
   replace c8 := Bool.eq_false_iff.mpr c8
   subst c8
   have H1 : ((some (([] : List Int) : List Int)).bind fun y172 => (if y172.length + l1.length < 140737488355328 then ((some (y172 ++ l1 : List Int)).bind fun y175 => ((rope_Turn.f kj2 a0 y175).bind fun bt178 => ((pelotonref04_Bytes.f kj2 y175 l1).bind fun t182 => (if t182 = true then (if ((l1.length : Int) % 2) = 0 then (if a0 < 0 then (pelotonlaw06_RopeTurns.j1 kj2 a0 l1 bt178.1 bt178.2 true) else (pelotonlaw06_RopeTurns.j1 kj2 a0 l1 bt178.1 bt178.2 (decide (a0 > 1048576)))) else (if bt178.2 = 30 then (some ((bt178.1.length : Int) == 0)) else (some false))) else (some false))))) else (none))) = some r := by rw [if_neg (show ¬ (false = true) by decide)] at H; exact H
   clear H
   have H := H1
   clear H1
   obtain ⟨y172, hy172⟩ : ∃ y_ : List Int, y_ = (([] : List Int)) := ⟨_, rfl⟩
   replace H : (if y172.length + l1.length < 140737488355328 then ((some (y172 ++ l1 : List Int)).bind fun y175 => ((rope_Turn.f kj2 a0 y175).bind fun bt178 => ((pelotonref04_Bytes.f kj2 y175 l1).bind fun t182 => (if t182 = true then (if ((l1.length : Int) % 2) = 0 then (if a0 < 0 then (pelotonlaw06_RopeTurns.j1 kj2 a0 l1 bt178.1 bt178.2 true) else (pelotonlaw06_RopeTurns.j1 kj2 a0 l1 bt178.1 bt178.2 (decide (a0 > 1048576)))) else (if bt178.2 = 30 then (some ((bt178.1.length : Int) == 0)) else (some false))) else (some false))))) else (none)) = some r := by first | (rw [hy172]; with_reducible exact H) | (have H2_ := (Option.bind_some _ _).symm.trans H; rw [hy172]; with_reducible exact H2_) | (have H2_ := (Option.bind_some _ _).symm.trans H; with_reducible exact H2_) | with_reducible exact H | (rw [hy172]; exact H) | exact H
   have Ny172 := Aside0.mk hy172
   clear hy172
   by_cases c11 : y172.length + l1.length < 140737488355328
   rotate_left
   ·
    rw [if_neg c11] at H
    exact absurd H (by simp)

   rw [if_pos c11] at H
   have LMc11 := Aside0.mk c11
   clear c11
   obtain ⟨y175, hy175⟩ : ∃ y_ : List Int, y_ = (y172 ++ l1) := ⟨_, rfl⟩
   replace H : ((rope_Turn.f kj2 a0 y175).bind fun bt178 => ((pelotonref04_Bytes.f kj2 y175 l1).bind fun t182 => (if t182 = true then (if ((l1.length : Int) % 2) = 0 then (if a0 < 0 then (pelotonlaw06_RopeTurns.j1 kj2 a0 l1 bt178.1 bt178.2 true) else (pelotonlaw06_RopeTurns.j1 kj2 a0 l1 bt178.1 bt178.2 (decide (a0 > 1048576)))) else (if bt178.2 = 30 then (some ((bt178.1.length : Int) == 0)) else (some false))) else (some false)))) = some r := by first | (rw [hy175]; with_reducible exact H) | (have H2_ := (Option.bind_some _ _).symm.trans H; rw [hy175]; with_reducible exact H2_) | (have H2_ := (Option.bind_some _ _).symm.trans H; with_reducible exact H2_) | with_reducible exact H | (rw [hy175]; exact H) | exact H
   have Ny175 := Aside0.mk hy175
   clear hy175
   replace H := Option.bind_eq_some_iff.mp H
   obtain ⟨⟨t178, t179⟩, A120, H⟩ := H
   replace H : ((pelotonref04_Bytes.f kj2 y175 l1).bind fun t182 => (if t182 = true then (if ((l1.length : Int) % 2) = 0 then (if a0 < 0 then (pelotonlaw06_RopeTurns.j1 kj2 a0 l1 t178 t179 true) else (pelotonlaw06_RopeTurns.j1 kj2 a0 l1 t178 t179 (decide (a0 > 1048576)))) else (if t179 = 30 then (some ((t178.length : Int) == 0)) else (some false))) else (some false))) = some r := H
   have A12 := Aside0.mk A120
   clear A120
   replace H := Option.bind_eq_some_iff.mp H
   obtain ⟨t182, A130, H⟩ := H
   replace H : (if t182 = true then (if ((l1.length : Int) % 2) = 0 then (if a0 < 0 then (pelotonlaw06_RopeTurns.j1 kj2 a0 l1 t178 t179 true) else (pelotonlaw06_RopeTurns.j1 kj2 a0 l1 t178 t179 (decide (a0 > 1048576)))) else (if t179 = 30 then (some ((t178.length : Int) == 0)) else (some false))) else (some false)) = some r := H
   have A13 := Aside0.mk A130
   clear A130
   by_cases c14 : t182 = true
   rotate_left
   ·
    replace c14 := Bool.eq_false_iff.mpr c14
    subst c14
    have H1 : (some false) = some r := by rw [if_neg (show ¬ (false = true) by decide)] at H; exact H
    clear H
    have H := H1
    clear H1
    obtain rfl := Option.some.inj H
    go_wp2_with (first | ((with_reducible refine gate_dst (N := 16) rfl ?_); (try (refine gate_guard (by rfl) ?_; dsimp only)); refine Kd.R_lit (Kd.int .i8) _ 35 ?hg (N := 16) ?hd (xs := ([] : List Int)) (inner := []) (ok := fun _ => True) (okp := fun _ => True) ?hr ?hp (fun _ hk => hk) trivial (Below.refl _ _) (Nat.le_refl _) (by simp) ?_; (case hd => rfl); (case hg => rfl); (case hr => first | (go_simp; done) | (go_simp; rfl)); (case hp => exact (Reps.none _ _)); intro v173 w44 ho45 hb hg_ hnew_; clear hg_ hnew_; (first | rw [← Ny172.out] at ho45 | (simp only [Int.reduceToNat] at ho45; rw [← Ny172.out] at ho45)); have n0_ := Aside0.mk (Kd.R_lower ho45 (below_size (by repeat (first | (with_reducible first | exact HB.out | apply b_a | apply b_n | apply b_d) | exact HB.out)))); have n1_ := Aside0.mk (below_step (by repeat (first | (with_reducible first | exact HB.out | apply b_a | apply b_n | apply b_d) | exact HB.out)) hb); clear HB; have HO174 := n0_; have HB := n1_; clear n0_ n1_; clear hb ho45) | ((with_reducible refine gate_builtin (b := .append) (xs := #[.tmp 16, .tmp 17]) rfl ?_); (try (refine gate_guard (by rfl) ?_; dsimp only)); at_builtin; refine Kd.R_append_rows (Kd.int .i8) (w0 := w) w.heap.size rfl (.tmp 16) (.tmp 17) 26 35 (.int .i8 0) 1 rfl Try.underlying26 info35 rfl (by decide) (by omega) v173 y172 l1 _ _ _ (fun _ => True) (fun _ => False) rfl rfl ?aO ?aR (fun _ _ h => h) (fun _ h => h.elim) ?aF ?aB ?aS ?aL ?_; (case aR => repeat (first | exact (Kd.C_below HR1.out HB.out) | (with_reducible refine Kd.C_alloc ?_ _) | (with_reducible refine Kd.C_drewN ?_ _) | (with_reducible refine Kd.C_drew ?_))); (case aB => exact (by repeat (first | (with_reducible first | exact HB.out | apply b_a | apply b_n | apply b_d) | exact HB.out))); (case aF => exact (fun _ _ => trivial)); (case aO => exact (by (with_reducible repeat (first | apply Kd.R_alloc | apply Kd.R_drewN | apply Kd.R_drew)); exact HO174.out)); (case aS => exact (below_size (by repeat (first | (with_reducible first | exact HB.out | apply b_a | apply b_n | apply b_d) | exact HB.out)))); (case aL => have := LMc11.out; omega); intro v176 w46 ho hb hg hat; rw [← Ny175.out] at ho; have n0_ := Aside0.mk (hb); have n1_ := Aside0.mk (ho); clear HB; clear HO174; have HB := n0_; have HO177 := n1_; clear n0_ n1_; clear ho hb hg hat; obtain ⟨Ao47, co47, eo47⟩ := Kd.R_slice HO177.out; subst eo47) | ((with_reducible refine gate_callee (f := 15) rfl ?_); refine goesL_ (some 22) rfl rfl Try.func15 (by kernel_rfl) rfl #[.int .i64 a0, .slice Ao47 y175.length co47] rfl (by (try simp only [l_4, l_5, l_6]); first | done | rfl | (simp only [l_7, l_8]; rfl)) ?_; (with_reducible refine (rope_Turn.calls kj2 a0 _ _ y175 t178 t179 _ ?side1 ?side2 A12.out).mono ?_); (case side1 => repeat (first | exact (Kd.R_reads' HO177.out).2.2 | (with_reducible refine Kd.C_alloc ?_ _) | (with_reducible refine Kd.C_drewN ?_ _) | (with_reducible refine Kd.C_drew ?_))); (case side2 => exact (Kd.R_reads' HO177.out).2.1); rintro e w48 ⟨v180, rfl, ho0, hb⟩; (try clear A12); refine ⟨_, rfl, ?_⟩; have n0_ := Aside0.mk (Kd.R_elder' (by (with_reducible repeat (first | apply Kd.R_alloc | apply Kd.R_drewN | apply Kd.R_drew)); exact HO177.out) (Kd.R_base ho0) hb); have n1_ := Aside0.mk (Kd.R_lower (Kd.R_new' ho0 (Kd.R_lt (by (with_reducible repeat (first | apply Kd.R_alloc | apply Kd.R_drewN | apply Kd.R_drew)); exact HO177.out))) (below_size (by repeat (first | (with_reducible first | exact HB.out | apply b_a | apply b_n | apply b_d) | exact HB.out)))); have n2_ := Aside0.mk (below_step (by repeat (first | (with_reducible first | exact HB.out | apply b_a | apply b_n | apply b_d) | exact HB.out)) hb); clear HO177; clear HB; have HO177 := n0_; have HO181 := n1_; have HB := n2_; clear n0_ n1_ n2_; (try clear hb); (try clear hb2); (try clear hk); (try clear hi); (try clear ho0)) | ((with_reducible refine gate_callee (f := 16) rfl ?_); refine goesL_ (some 27) rfl rfl Try.func16 (by kernel_rfl) rfl #[.slice Ao47 y175.length co47, .slice A1 l1.length c1] rfl (by (try simp only [l_4, l_5, l_6]); first | done | rfl | (simp only [l_7, l_8]; rfl)) ?_; (with_reducible refine (pelotonref04_Bytes.calls kj2 _ _ y175 _ _ l1 false _ ?side1 ?side2 ?side3 ?side4 A13.out).mono ?_); (case side1 => repeat (first | exact (Kd.R_reads' HO177.out).2.2 | (with_reducible refine Kd.C_alloc ?_ _) | (with_reducible refine Kd.C_drewN ?_ _) | (with_reducible refine Kd.C_drew ?_))); (case side2 => exact (Kd.R_reads' HO177.out).2.1); (case side3 => repeat (first | exact (Kd.C_below HR1.out HB.out) | (with_reducible refine Kd.C_alloc ?_ _) | (with_reducible refine Kd.C_drewN ?_ _) | (with_reducible refine Kd.C_drew ?_))); (case side4 => exact HC1.out); rintro e w' ⟨rfl, ⟨nd, rfl⟩⟩; refine ⟨_, rfl, ?_⟩))
    go_ret
    exact ⟨by first | rfl | (simp [errW_none, errW_some] <;> rfl) | (simp [*, errW_none, errW_some] <;> rfl), by repeat (first | (with_reducible first | exact HB.out | apply b_a | apply b_n | apply b_d) | exact HB.out)⟩
   subst c14
   have H1 : (if ((l1.length : Int) % 2) = 0 then (if a0 < 0 then (pelotonlaw06_RopeTurns.j1 kj2 a0 l1 t178 t179 true) else (pelotonlaw06_RopeTurns.j1 kj2 a0 l1 t178 t179 (decide (a0 > 1048576)))) else (if t179 = 30 then (some ((t178.length : Int) == 0)) else (some false))) = some r := by rw [if_pos rfl] at H; exact H
   clear H
   have H := H1
   clear H1
   by_cases c15 : ((l1.length : Int) % 2) = 0
   rotate_left
   ·
    rw [if_neg c15] at H
    have c15b0 : (((l1.length : Int) % 2) == 0) = false := beq_eq_false_iff_ne.mpr c15
    have c15b1 : (((l1.length : Int) % 2) != 0) = true := bne_iff_ne.mpr c15
    by_cases c32 : t179 = 30
    rotate_left
    ·
     rw [if_neg c32] at H
     have c32b0 : (t179 == 30) = false := beq_eq_false_iff_ne.mpr c32
     have c32b1 : (t179 != 30) = true := bne_iff_ne.mpr c32
     obtain rfl := Option.some.inj H
     go_wp2_with (first | ((with_reducible refine gate_dst (N := 16) rfl ?_); (try (refine gate_guard (by rfl) ?_; dsimp only)); refine Kd.R_lit (Kd.int .i8) _ 35 ?hg (N := 16) ?hd (xs := ([] : List Int)) (inner := []) (ok := fun _ => True) (okp := fun _ => True) ?hr ?hp (fun _ hk => hk) trivial (Below.refl _ _) (Nat.le_refl _) (by simp) ?_; (case hd => rfl); (case hg => rfl); (case hr => first | (go_simp; done) | (go_simp; rfl)); (case hp => exact (Reps.none _ _)); intro v173 w39 ho40 hb hg_ hnew_; clear hg_ hnew_; (first | rw [← Ny172.out] at ho40 | (simp only [Int.reduceToNat] at ho40; rw [← Ny172.out] at ho40)); have n0_ := Aside0.mk (Kd.R_lower ho40 (below_size (by repeat (first | (with_reducible first | exact HB.out | apply b_a | apply b_n | apply b_d) | exact HB.out)))); have n1_ := Aside0.mk (below_step (by repeat (first | (with_reducible first | exact HB.out | apply b_a | apply b_n | apply b_d) | exact HB.out)) hb); clear HB; have HO174 := n0_; have HB := n1_; clear n0_ n1_; clear hb ho40) | ((with_reducible refine gate_builtin (b := .append) (xs := #[.tmp 16, .tmp 17]) rfl ?_); (try (refine gate_guard (by rfl) ?_; dsimp only)); at_builtin; refine Kd.R_append_rows (Kd.int .i8) (w0 := w) w.heap.size rfl (.tmp 16) (.tmp 17) 26 35 (.int .i8 0) 1 rfl Try.underlying26 info35 rfl (by decide) (by omega) v173 y172 l1 _ _ _ (fun _ => True) (fun _ => False) rfl rfl ?aO ?aR (fun _ _ h => h) (fun _ h => h.elim) ?aF ?aB ?aS ?aL ?_; (case aR => repeat (first | exact (Kd.C_below HR1.out HB.out) | (with_reducible refine Kd.C_alloc ?_ _) | (with_reducible refine Kd.C_drewN ?_ _) | (with_reducible refine Kd.C_drew ?_))); (case aB => exact (by repeat (first | (with_reducible first | exact HB.out | apply b_a | apply b_n | apply b_d) | exact HB.out))); (case aF => exact (fun _ _ => trivial)); (case aO => exact (by (with_reducible repeat (first | apply Kd.R_alloc | apply Kd.R_drewN | apply Kd.R_drew)); exact HO174.out)); (case aS => exact (below_size (by repeat (first | (with_reducible first | exact HB.out | apply b_a | apply b_n | apply b_d) | exact HB.out)))); (case aL => have := LMc11.out; omega); intro v176 w41 ho hb hg hat; rw [← Ny175.out] at ho; have n0_ := Aside0.mk (hb); have n1_ := Aside0.mk (ho); clear HB; clear HO174; have HB := n0_; have HO177 := n1_; clear n0_ n1_; clear ho hb hg hat; obtain ⟨Ao42, co42, eo42⟩ := Kd.R_slice HO177.out; subst eo42) | ((with_reducible refine gate_callee (f := 15) rfl ?_); refine goesL_ (some 22) rfl rfl Try.func15 (by kernel_rfl) rfl #[.int .i64 a0, .slice Ao42 y175.length co42] rfl (by (try simp only [l_4, l_5, l_6]); first | done | rfl | (simp only [l_7, l_8]; rfl)) ?_; (with_reducible refine (rope_Turn.calls kj2 a0 _ _ y175 t178 t179 _ ?side1 ?side2 A12.out).mono ?_); (case side1 => repeat (first | exact (Kd.R_reads' HO177.out).2.2 | (with_reducible refine Kd.C_alloc ?_ _) | (with_reducible refine Kd.C_drewN ?_ _) | (with_reducible refine Kd.C_drew ?_))); (case side2 => exact (Kd.R_reads' HO177.out).2.1); rintro e w43 ⟨v180, rfl, ho0, hb⟩; (try clear A12); refine ⟨_, rfl, ?_⟩; have n0_ := Aside0.mk (Kd.R_elder' (by (with_reducible repeat (first | apply Kd.R_alloc | apply Kd.R_drewN | apply Kd.R_drew)); exact HO177.out) (Kd.R_base ho0) hb); have n1_ := Aside0.mk (Kd.R_lower (Kd.R_new' ho0 (Kd.R_lt (by (with_reducible repeat (first | apply Kd.R_alloc | apply Kd.R_drewN | apply Kd.R_drew)); exact HO177.out))) (below_size (by repeat (first | (with_reducible first | exact HB.out | apply b_a | apply b_n | apply b_d) | exact HB.out)))); have n2_ := Aside0.mk (below_step (by repeat (first | (with_reducible first | exact HB.out | apply b_a | apply b_n | apply b_d) | exact HB.out)) hb); clear HO177; clear HB; have HO177 := n0_; have HO181 := n1_; have HB := n2_; clear n0_ n1_ n2_; (try clear hb); (try clear hb2); (try clear hk); (try clear hi); (try clear ho0)) | ((with_reducible refine gate_callee (f := 16) rfl ?_); refine goesL_ (some 27) rfl rfl Try.func16 (by kernel_rfl) rfl #[.slice Ao42 y175.length co42, .slice A1 l1.length c1] rfl (by (try simp only [l_4, l_5, l_6]); first | done | rfl | (simp only [l_7, l_8]; rfl)) ?_; (with_reducible refine (pelotonref04_Bytes.calls kj2 _ _ y175 _ _ l1 true _ ?side1 ?side2 ?side3 ?side4 A13.out).mono ?_); (case side1 => repeat (first | exact (Kd.R_reads' HO177.out).2.2 | (with_reducible refine Kd.C_alloc ?_ _) | (with_reducible refine Kd.C_drewN ?_ _) | (with_reducible refine Kd.C_drew ?_))); (case side2 => exact (Kd.R_reads' HO177.out).2.1); (case side3 => repeat (first | exact (Kd.C_below HR1.out HB.out) | (with_reducible refine Kd.C_alloc ?_ _) | (with_reducible refine Kd.C_drewN ?_ _) | (with_reducible refine Kd.C_drew ?_))); (case side4 => exact HC1.out); rintro e w' ⟨rfl, ⟨nd, rfl⟩⟩; refine ⟨_, rfl, ?_⟩))
     go_ret
     exact ⟨by first | rfl | (simp [errW_none, errW_some] <;> rfl) | (simp [*, errW_none, errW_some] <;> rfl), by repeat (first | (with_reducible first | exact HB.out | apply b_a | apply b_n | apply b_d) | exact HB.out)⟩
    rw [if_pos c32] at H
    have c32b0 : (t179 == 30) = true := beq_iff_eq.mpr c32
    have c32b1 : (t179 != 30) = false := bne_eq_false_iff_eq.mpr c32
    clear c32
    obtain rfl := Option.some.inj H
    go_wp2_with (first | ((with_reducible refine gate_dst (N := 16) rfl ?_); (try (refine gate_guard (by rfl) ?_; dsimp only)); refine Kd.R_lit (Kd.int .i8) _ 35 ?hg (N := 16) ?hd (xs := ([] : List Int)) (inner := []) (ok := fun _ => True) (okp := fun _ => True) ?hr ?hp (fun _ hk => hk) trivial (Below.refl _ _) (Nat.le_refl _) (by simp) ?_; (case hd => rfl); (case hg => rfl); (case hr => first | (go_simp; done) | (go_simp; rfl)); (case hp => exact (Reps.none _ _)); intro v173 w33 ho34 hb hg_ hnew_; clear hg_ hnew_; (first | rw [← Ny172.out] at ho34 | (simp only [Int.reduceToNat] at ho34; rw [← Ny172.out] at ho34)); have n0_ := Aside0.mk (Kd.R_lower ho34 (below_size (by repeat (first | (with_reducible first | exact HB.out | apply b_a | apply b_n | apply b_d) | exact HB.out)))); have n1_ := Aside0.mk (below_step (by repeat (first | (with_reducible first | exact HB.out | apply b_a | apply b_n | apply b_d) | exact HB.out)) hb); clear HB; have HO174 := n0_; have HB := n1_; clear n0_ n1_; clear hb ho34) | ((with_reducible refine gate_builtin (b := .append) (xs := #[.tmp 16, .tmp 17]) rfl ?_); (try (refine gate_guard (by rfl) ?_; dsimp only)); at_builtin; refine Kd.R_append_rows (Kd.int .i8) (w0 := w) w.heap.size rfl (.tmp 16) (.tmp 17) 26 35 (.int .i8 0) 1 rfl Try.underlying26 info35 rfl (by decide) (by omega) v173 y172 l1 _ _ _ (fun _ => True) (fun _ => False) rfl rfl ?aO ?aR (fun _ _ h => h) (fun _ h => h.elim) ?aF ?aB ?aS ?aL ?_; (case aR => repeat (first | exact (Kd.C_below HR1.out HB.out) | (with_reducible refine Kd.C_alloc ?_ _) | (with_reducible refine Kd.C_drewN ?_ _) | (with_reducible refine Kd.C_drew ?_))); (case aB => exact (by repeat (first | (with_reducible first | exact HB.out | apply b_a | apply b_n | apply b_d) | exact HB.out))); (case aF => exact (fun _ _ => trivial)); (case aO => exact (by (with_reducible repeat (first | apply Kd.R_alloc | apply Kd.R_drewN | apply Kd.R_drew)); exact HO174.out)); (case aS => exact (below_size (by repeat (first | (with_reducible first | exact HB.out | apply b_a | apply b_n | apply b_d) | exact HB.out)))); (case aL => have := LMc11.out; omega); intro v176 w35 ho hb hg hat; rw [← Ny175.out] at ho; have n0_ := Aside0.mk (hb); have n1_ := Aside0.mk (ho); clear HB; clear HO174; have HB := n0_; have HO177 := n1_; clear n0_ n1_; clear ho hb hg hat; obtain ⟨Ao36, co36, eo36⟩ := Kd.R_slice HO177.out; subst eo36) | ((with_reducible refine gate_callee (f := 15) rfl ?_); refine goesL_ (some 22) rfl rfl Try.func15 (by kernel_rfl) rfl #[.int .i64 a0, .slice Ao36 y175.length co36] rfl (by (try simp only [l_4, l_5, l_6]); first | done | rfl | (simp only [l_7, l_8]; rfl)) ?_; (with_reducible refine (rope_Turn.calls kj2 a0 _ _ y175 t178 t179 _ ?side1 ?side2 A12.out).mono ?_); (case side1 => repeat (first | exact (Kd.R_reads' HO177.out).2.2 | (with_reducible refine Kd.C_alloc ?_ _) | (with_reducible refine Kd.C_drewN ?_ _) | (with_reducible refine Kd.C_drew ?_))); (case side2 => exact (Kd.R_reads' HO177.out).2.1); rintro e w37 ⟨v180, rfl, ho0, hb⟩; (try clear A12); refine ⟨_, rfl, ?_⟩; have n0_ := Aside0.mk (Kd.R_elder' (by (with_reducible repeat (first | apply Kd.R_alloc | apply Kd.R_drewN | apply Kd.R_drew)); exact HO177.out) (Kd.R_base ho0) hb); have n1_ := Aside0.mk (Kd.R_lower (Kd.R_new' ho0 (Kd.R_lt (by (with_reducible repeat (first | apply Kd.R_alloc | apply Kd.R_drewN | apply Kd.R_drew)); exact HO177.out))) (below_size (by repeat (first | (with_reducible first | exact HB.out | apply b_a | apply b_n | apply b_d) | exact HB.out)))); have n2_ := Aside0.mk (below_step (by repeat (first | (with_reducible first | exact HB.out | apply b_a | apply b_n | apply b_d) | exact HB.out)) hb); clear HO177; clear HB; have HO177 := n0_; have HO181 := n1_; have HB := n2_; clear n0_ n1_ n2_; (try clear hb); (try clear hb2); (try clear hk); (try clear hi); (try clear ho0)) | ((with_reducible refine gate_callee (f := 16) rfl ?_); refine goesL_ (some 27) rfl rfl Try.func16 (by kernel_rfl) rfl #[.slice Ao36 y175.length co36, .slice A1 l1.length c1] rfl (by (try simp only [l_4, l_5, l_6]); first | done | rfl | (simp only [l_7, l_8]; rfl)) ?_; (with_reducible refine (pelotonref04_Bytes.calls kj2 _ _ y175 _ _ l1 true _ ?side1 ?side2 ?side3 ?side4 A13.out).mono ?_); (case side1 => repeat (first | exact (Kd.R_reads' HO177.out).2.2 | (with_reducible refine Kd.C_alloc ?_ _) | (with_reducible refine Kd.C_drewN ?_ _) | (with_reducible refine Kd.C_drew ?_))); (case side2 => exact (Kd.R_reads' HO177.out).2.1); (case side3 => repeat (first | exact (Kd.C_below HR1.out HB.out) | (with_reducible refine Kd.C_alloc ?_ _) | (with_reducible refine Kd.C_drewN ?_ _) | (with_reducible refine Kd.C_drew ?_))); (case side4 => exact HC1.out); rintro e w' ⟨rfl, ⟨nd, rfl⟩⟩; refine ⟨_, rfl, ?_⟩; obtain ⟨Ao38, co38, eo38⟩ := Kd.R_slice HO181.out; subst eo38))
    go_ret
    exact ⟨by first | rfl | (simp [errW_none, errW_some] <;> rfl) | (simp [*, errW_none, errW_some] <;> rfl), by repeat (first | (with_reducible first | exact HB.out | apply b_a | apply b_n | apply b_d) | exact HB.out)⟩
   rw [if_pos c15] at H
   have c15b0 : (((l1.length : Int) % 2) == 0) = true := beq_iff_eq.mpr c15
   have c15b1 : (((l1.length : Int) % 2) != 0) = false := bne_eq_false_iff_eq.mpr c15
   clear c15
   have HC16 := Aside0.mk H
   clear H
   go_upto_region 9 with (first | ((with_reducible refine gate_dst (N := 16) rfl ?_); (try (refine gate_guard (by rfl) ?_; dsimp only)); refine Kd.R_lit (Kd.int .i8) _ 35 ?hg (N := 16) ?hd (xs := ([] : List Int)) (inner := []) (ok := fun _ => True) (okp := fun _ => True) ?hr ?hp (fun _ hk => hk) trivial (Below.refl _ _) (Nat.le_refl _) (by simp) ?_; (case hd => rfl); (case hg => rfl); (case hr => first | (go_simp; done) | (go_simp; rfl)); (case hp => exact (Reps.none _ _)); intro v173 w17 ho18 hb hg_ hnew_; clear hg_ hnew_; (first | rw [← Ny172.out] at ho18 | (simp only [Int.reduceToNat] at ho18; rw [← Ny172.out] at ho18)); have n0_ := Aside0.mk (Kd.R_lower ho18 (below_size (by repeat (first | (with_reducible first | exact HB.out | apply b_a | apply b_n | apply b_d) | exact HB.out)))); have n1_ := Aside0.mk (below_step (by repeat (first | (with_reducible first | exact HB.out | apply b_a | apply b_n | apply b_d) | exact HB.out)) hb); clear HB; have HO174 := n0_; have HB := n1_; clear n0_ n1_; clear hb ho18) | ((with_reducible refine gate_builtin (b := .append) (xs := #[.tmp 16, .tmp 17]) rfl ?_); (try (refine gate_guard (by rfl) ?_; dsimp only)); at_builtin; refine Kd.R_append_rows (Kd.int .i8) (w0 := w) w.heap.size rfl (.tmp 16) (.tmp 17) 26 35 (.int .i8 0) 1 rfl Try.underlying26 info35 rfl (by decide) (by omega) v173 y172 l1 _ _ _ (fun _ => True) (fun _ => False) rfl rfl ?aO ?aR (fun _ _ h => h) (fun _ h => h.elim) ?aF ?aB ?aS ?aL ?_; (case aR => repeat (first | exact (Kd.C_below HR1.out HB.out) | (with_reducible refine Kd.C_alloc ?_ _) | (with_reducible refine Kd.C_drewN ?_ _) | (with_reducible refine Kd.C_drew ?_))); (case aB => exact (by repeat (first | (with_reducible first | exact HB.out | apply b_a | apply b_n | apply b_d) | exact HB.out))); (case aF => exact (fun _ _ => trivial)); (case aO => exact (by (with_reducible repeat (first | apply Kd.R_alloc | apply Kd.R_drewN | apply Kd.R_drew)); exact HO174.out)); (case aS => exact (below_size (by repeat (first | (with_reducible first | exact HB.out | apply b_a | apply b_n | apply b_d) | exact HB.out)))); (case aL => have := LMc11.out; omega); intro v176 w19 ho hb hg hat; rw [← Ny175.out] at ho; have n0_ := Aside0.mk (hb); have n1_ := Aside0.mk (ho); clear HB; clear HO174; have HB := n0_; have HO177 := n1_; clear n0_ n1_; clear ho hb hg hat; obtain ⟨Ao20, co20, eo20⟩ := Kd.R_slice HO177.out; subst eo20) | ((with_reducible refine gate_callee (f := 15) rfl ?_); refine goesL_ (some 22) rfl rfl Try.func15 (by kernel_rfl) rfl #[.int .i64 a0, .slice Ao20 y175.length co20] rfl (by (try simp only [l_4, l_5, l_6]); first | done | rfl | (simp only [l_7, l_8]; rfl)) ?_; (with_reducible refine (rope_Turn.calls kj2 a0 _ _ y175 t178 t179 _ ?side1 ?side2 A12.out).mono ?_); (case side1 => repeat (first | exact (Kd.R_reads' HO177.out).2.2 | (with_reducible refine Kd.C_alloc ?_ _) | (with_reducible refine Kd.C_drewN ?_ _) | (with_reducible refine Kd.C_drew ?_))); (case side2 => exact (Kd.R_reads' HO177.out).2.1); rintro e w21 ⟨v180, rfl, ho0, hb⟩; (try clear A12); refine ⟨_, rfl, ?_⟩; have n0_ := Aside0.mk (Kd.R_elder' (by (with_reducible repeat (first | apply Kd.R_alloc | apply Kd.R_drewN | apply Kd.R_drew)); exact HO177.out) (Kd.R_base ho0) hb); have n1_ := Aside0.mk (Kd.R_lower (Kd.R_new' ho0 (Kd.R_lt (by (with_reducible repeat (first | apply Kd.R_alloc | apply Kd.R_drewN | apply Kd.R_drew)); exact HO177.out))) (below_size (by repeat (first | (with_reducible first | exact HB.out | apply b_a | apply b_n | apply b_d) | exact HB.out)))); have n2_ := Aside0.mk (below_step (by repeat (first | (with_reducible first | exact HB.out | apply b_a | apply b_n | apply b_d) | exact HB.out)) hb); clear HO177; clear HB; have HO177 := n0_; have HO181 := n1_; have HB := n2_; clear n0_ n1_ n2_; (try clear hb); (try clear hb2); (try clear hk); (try clear hi); (try clear ho0)) | ((with_reducible refine gate_callee (f := 16) rfl ?_); refine goesL_ (some 27) rfl rfl Try.func16 (by kernel_rfl) rfl #[.slice Ao20 y175.length co20, .slice A1 l1.length c1] rfl (by (try simp only [l_4, l_5, l_6]); first | done | rfl | (simp only [l_7, l_8]; rfl)) ?_; (with_reducible refine (pelotonref04_Bytes.calls kj2 _ _ y175 _ _ l1 true _ ?side1 ?side2 ?side3 ?side4 A13.out).mono ?_); (case side1 => repeat (first | exact (Kd.R_reads' HO177.out).2.2 | (with_reducible refine Kd.C_alloc ?_ _) | (with_reducible refine Kd.C_drewN ?_ _) | (with_reducible refine Kd.C_drew ?_))); (case side2 => exact (Kd.R_reads' HO177.out).2.1); (case side3 => repeat (first | exact (Kd.C_below HR1.out HB.out) | (with_reducible refine Kd.C_alloc ?_ _) | (with_reducible refine Kd.C_drewN ?_ _) | (with_reducible refine Kd.C_drew ?_))); (case side4 => exact HC1.out); rintro e w' ⟨rfl, ⟨nd, rfl⟩⟩; refine ⟨_, rfl, ?_⟩))
   (try simp only [Act.put, l_1, l_2, l_3])
   go_cut [45] (fun v45 wc => ∃ (kq : Nat) (x45_15 : Bool), v45 = .bool x45_15 ∧ Aside0 (pelotonlaw06_RopeTurns.j1 kq a0 l1 t178 t179 x45_15 = some r) ∧ Aside0 (kq ≤ kj2) ∧ Aside0 (Kd.R (Kd.int .i8) 35 wc w.heap.size (fun _ => True) v180 t178) ∧ Aside0 (Below w.heap.size w wc))
   case first =>
    have H := HC16.out
    clear HC16
    by_cases c22 : a0 < 0
    ·
     rw [if_pos c22] at H
     have c22b0 : decide (a0 < 0) = true := decide_eq_true c22
     clear c22
     (first | rw [c22b0] | (simp only [i64_w, i32_w]; rw [c22b0]) | skip)
     have H' := Aside0.mk H
     clear H
     go_wp2
     go_meet
     case rel => exact ⟨_, (true), (by first | rfl | (simp; done) | (simp [*]; done)), H', ⟨by have := HJ2.out; first | omega | exact Nat.le_refl _⟩, ⟨by (with_reducible repeat (first | apply Kd.R_alloc | apply Kd.R_drewN | apply Kd.R_drew)); exact Kd.R_mono HO181.out (fun _ hk => trivial)⟩, ⟨by repeat (first | (with_reducible first | exact HB.out | apply b_a | apply b_n | apply b_d) | exact HB.out)⟩⟩
    rw [if_neg c22] at H
    have c22b0 : decide (a0 < 0) = false := decide_eq_false c22
    clear c22
    (first | rw [c22b0] | (simp only [i64_w, i32_w]; rw [c22b0]) | skip)
    have H' := Aside0.mk H
    clear H
    go_wp2
    go_meet
    case rel => exact ⟨_, (decide (a0 > 1048576)), (by first | rfl | (simp; done) | (simp [*]; done)), H', ⟨by have := HJ2.out; first | omega | exact Nat.le_refl _⟩, ⟨by (with_reducible repeat (first | apply Kd.R_alloc | apply Kd.R_drewN | apply Kd.R_drew)); exact Kd.R_mono HO181.out (fun _ hk => trivial)⟩, ⟨by repeat (first | (with_reducible first | exact HB.out | apply b_a | apply b_n | apply b_d) | exact HB.out)⟩⟩
   case rest => as_aux_lemma =>
    clear HC16
    try clear c1
    try clear c2
    try clear p2
    try clear c4
    try clear c5
    try clear c8
    try clear c11
    try clear c14
    try clear c15
    try clear c15b0
    try clear c15b1
    try clear c16
    try clear c22
    try clear c22b0
    try clear p2
    obtain ⟨kq, x45_15, rfl, HA, HJ15, HO_6, HB⟩ := hcut
    cases kq with
    | zero => exact absurd HA.out (by simp [pelotonlaw06_RopeTurns.j1])
    | succ kj15 =>
     have H := HA.out
     clear HA
     simp only [pelotonlaw06_RopeTurns.j1] at H
     by_cases c23 : x45_15 = true
     ·
      subst c23
      have H1 : (if t179 = 2 then (some ((t178.length : Int) == 0)) else (some false)) = some r := by rw [if_pos rfl] at H; exact H
      clear H
      have H := H1
      clear H1
      by_cases c24 : t179 = 2
      rotate_left
      ·
       rw [if_neg c24] at H
       have c24b0 : (t179 == 2) = false := beq_eq_false_iff_ne.mpr c24
       have c24b1 : (t179 != 2) = true := bne_iff_ne.mpr c24
       obtain rfl := Option.some.inj H
       go_wp2
       go_ret
       exact ⟨by first | rfl | (simp [errW_none, errW_some] <;> rfl) | (simp [*, errW_none, errW_some] <;> rfl), by repeat (first | (with_reducible first | exact HB.out | apply b_a | apply b_n | apply b_d) | exact HB.out)⟩
      rw [if_pos c24] at H
      have c24b0 : (t179 == 2) = true := beq_iff_eq.mpr c24
      have c24b1 : (t179 != 2) = false := bne_eq_false_iff_eq.mpr c24
      clear c24
      obtain rfl := Option.some.inj H
      obtain ⟨Ao25, co25, eo25⟩ := Kd.R_slice HO_6.out
      subst eo25
      go_wp2
      go_ret
      exact ⟨by first | rfl | (simp [errW_none, errW_some] <;> rfl) | (simp [*, errW_none, errW_some] <;> rfl), by repeat (first | (with_reducible first | exact HB.out | apply b_a | apply b_n | apply b_d) | exact HB.out)⟩
     replace c23 := Bool.eq_false_iff.mpr c23
     subst c23
     have H1 : (if t179 = 0 then ((pelotonref06_Turn.f kj15 a0 l1).bind fun t183 => ((pelotonref04_Bytes.f kj15 t178 t183).bind fun t186 => (some t186))) else (some false)) = some r := by rw [if_neg (show ¬ (false = true) by decide)] at H; exact H
     clear H
     have H := H1
     clear H1
     by_cases c26 : t179 = 0
     rotate_left
     ·
      rw [if_neg c26] at H
      have c26b0 : (t179 == 0) = false := beq_eq_false_iff_ne.mpr c26
      have c26b1 : (t179 != 0) = true := bne_iff_ne.mpr c26
      obtain rfl := Option.some.inj H
      go_wp2
      go_ret
      exact ⟨by first | rfl | (simp [errW_none, errW_some] <;> rfl) | (simp [*, errW_none, errW_some] <;> rfl), by repeat (first | (with_reducible first | exact HB.out | apply b_a | apply b_n | apply b_d) | exact HB.out)⟩
     rw [if_pos c26] at H
     have c26b0 : (t179 == 0) = true := beq_iff_eq.mpr c26
     have c26b1 : (t179 != 0) = false := bne_eq_false_iff_eq.mpr c26
     clear c26
     replace H := Option.bind_eq_some_iff.mp H
     obtain ⟨t183, A270, H⟩ := H
     replace H : ((pelotonref04_Bytes.f kj15 t178 t183).bind fun t186 => (some t186)) = some r := H
     have A27 := Aside0.mk A270
     clear A270
     replace H := Option.bind_eq_some_iff.mp H
     obtain ⟨t186, A280, H⟩ := H
     replace H : (some t186) = some r := H
     have A28 := Aside0.mk A280
     clear A280
     obtain rfl := Option.some.inj H
     go_wp2_with (first | (go_at_call 17; (with_reducible refine (pelotonref06_Turn.calls kj15 a0 _ _ l1 t183 _ ?side1 ?side2 A27.out).mono ?_); (case side1 => repeat (first | exact (Kd.C_below HR1.out HB.out) | (with_reducible refine Kd.C_alloc ?_ _) | (with_reducible refine Kd.C_drewN ?_ _) | (with_reducible refine Kd.C_drew ?_))); (case side2 => exact HC1.out); rintro e w29 ⟨v184, rfl, ho0, hb⟩; (try clear A27); have n0_ := Aside0.mk (Kd.R_elder' (by (with_reducible repeat (first | apply Kd.R_alloc | apply Kd.R_drewN | apply Kd.R_drew)); exact HO_6.out) (Kd.R_base ho0) hb); have n1_ := Aside0.mk (Kd.R_lower (Kd.R_new' ho0 (Kd.R_lt (by (with_reducible repeat (first | apply Kd.R_alloc | apply Kd.R_drewN | apply Kd.R_drew)); exact HO_6.out))) (below_size (by repeat (first | (with_reducible first | exact HB.out | apply b_a | apply b_n | apply b_d) | exact HB.out)))); have n2_ := Aside0.mk (below_step (by repeat (first | (with_reducible first | exact HB.out | apply b_a | apply b_n | apply b_d) | exact HB.out)) hb); clear HO_6; clear HB; have HO_6 := n0_; have HO185 := n1_; have HB := n2_; clear n0_ n1_ n2_; (try clear hb); (try clear hb2); (try clear hk); (try clear hi); (try clear ho0); obtain ⟨Ao30, co30, eo30⟩ := Kd.R_slice HO_6.out; subst eo30; obtain ⟨Ao31, co31, eo31⟩ := Kd.R_slice HO185.out; subst eo31) | (go_at_call 16; (with_reducible refine (pelotonref04_Bytes.calls kj15 _ _ t178 _ _ t183 t186 _ ?side1 ?side2 ?side3 ?side4 A28.out).mono ?_); (case side1 => repeat (first | exact (Kd.R_reads' HO_6.out).2.2 | (with_reducible refine Kd.C_alloc ?_ _) | (with_reducible refine Kd.C_drewN ?_ _) | (with_reducible refine Kd.C_drew ?_))); (case side2 => exact (Kd.R_reads' HO_6.out).2.1); (case side3 => repeat (first | exact (Kd.R_reads' HO185.out).2.2 | (with_reducible refine Kd.C_alloc ?_ _) | (with_reducible refine Kd.C_drewN ?_ _) | (with_reducible refine Kd.C_drew ?_))); (case side4 => exact (Kd.R_reads' HO185.out).2.1); rintro e w' ⟨rfl, ⟨nd, rfl⟩⟩))
     go_ret
     exact ⟨by first | rfl | (simp [errW_none, errW_some] <;> rfl) | (simp [*, errW_none, errW_some] <;> rfl), by repeat (first | (with_reducible first | exact HB.out | apply b_a | apply b_n | apply b_d) | exact HB.out)⟩
/-- THE ONE PURE STATEMENT of pelotonlaw06_RopeTurns. -/
def pelotonlaw06_RopeTurns.Pure : Prop := ∀ (a0 : Int) (l1 : List Int), ((Lit.int .i64 a0).wf = true) → (l1.length ≤ maxLen ∧ ∀ y0 ∈ l1, (Lit.int .i8 y0).wf = true) → ∃ k, pelotonlaw06_RopeTurns.f k a0 l1 = some true

end Go.Proofs.Ytplndicghohpbaa.QRopeTurns
