-- Written by a program of this session (a turned copy of the print) out of the translation. Lean checks it.
import Derived.Test.YtplndicghohpbaaQRopeTablesx0
import Derived.Test.YtplndicghohpbaaQRopeTablesx1
namespace Go.Proofs.Ytplndicghohpbaa.QRopeTables
open Go.RowKit Go.Proofs.YtplndicghohpbaaW.PrintWords Go.Proofs.YtplndicghohpbaaW.PrintLast Go.Proofs.YtplndicghohpbaaW.PrintMore
attribute [local go_sem] max2_int min2_int max_two min_two max_three min_three max_four min_four   -- for this text's walks alone
open Go.Proofs.YtplndicghohpbaaW.PrintWords renaming below_alloc → b_a, pw_below_drewN → b_n, below_drew1 → b_d, below_set → b_s, blk_drewN → k_n, blk_drew → k_d, blk_alloc → k_a
open List renaming setIfInBounds_toArray → l_1, set_cons_zero → l_2, set_cons_succ → l_3, map_toArray → l_4, map_cons → l_5, map_nil → l_6, length_drop → l_7, length_take → l_8
set_option linter.unusedVariables false
set_option linter.unusedSimpArgs false

/-! ### rope_Turn: function 15 -/
def rope_Turn.l0 : Nat → Int → List Int → List Int → Int → Option (List Int × Int)
 | 0, _, _, _, _ => none
 | k + 1, x0, x1, x6, x7 => if x7 < (x1.length : Int) then ((rope_Angle.f x0 (wrap64 (Int.tdiv x7 2))).bind fun t115 => (if 0 ≤ x7 then (if 0 ≤ (wrap64 (x7 + 1)) then (if (wrap64 (x7 + 1)) < (x1.length : Int) then ((rope_Cos.f k t115).bind fun t118 => ((rope_Sin.f k t115).bind fun t119 => ((rope_pairOf.f (rd x1 x7) (rd x1 (wrap64 (x7 + 1))) t118 t119).bind fun bt120 => (if x7 < (x6.length : Int) then (if (wrap64 (x7 + 1)) < (x6.length : Int) then (rope_Turn.l0 k x0 x1 ((x6.set (x7 : Int).toNat bt120.1).set ((wrap64 (x7 + 1)) : Int).toNat bt120.2) (wrap64 (x7 + 2))) else (none)) else (none))))) else (none)) else (none)) else (none))) else (some (x6, 0))
def rope_Turn.f (k : Nat) (a0 : Int) (l1 : List Int) : Option (List Int × Int) := if ((l1.length : Int) % 2) = 0 then (if a0 < 0 then (some (([] : List Int), 2)) else (if a0 > 1048576 then (some (([] : List Int), 2)) else (if 0 ≤ (l1.length : Int) then (if ((l1.length : Int) : Int).toNat ≤ 281474976710656 then (rope_Turn.l0 k a0 l1 (List.replicate ((l1.length : Int) : Int).toNat 0) 0) else (none)) else (none)))) else (some (([] : List Int), 30))
theorem rope_Turn.mono_l : ∀ k, (∀ y0 y1 y2 y3, LeO (rope_Turn.l0 k y0 y1 y2 y3) (rope_Turn.l0 (k + 1) y0 y1 y2 y3))
 | 0 => fun _ _ _ _ r h => by simp [rope_Turn.l0] at h
 | k + 1 => by
  have ih0 := rope_Turn.mono_l k
  ·
   intro y0 y1 y2 y3
   unfold rope_Turn.l0
   repeat' first
   | (with_reducible exact ih0 _ _ _ _)
   | (with_reducible exact rope_Cos.mono _ _)
   | (with_reducible exact rope_Sin.mono _ _)
   | (with_reducible exact LeO.refl _)
   | (with_reducible exact LeO.none _)
   | (with_reducible refine LeO.ite ?_ ?_)
   | (with_reducible refine LeO.bind ?_ (fun _ => ?_))
   | exact ih0 _ _ _ _
   | exact rope_Cos.mono _ _
   | exact rope_Sin.mono _ _
   | exact LeO.none _
   | refine LeO.ite ?_ ?_
   | refine LeO.bind ?_ (fun _ => ?_)
theorem rope_Turn.mono : ∀ a0 a1 k, LeO (rope_Turn.f k a0 a1) (rope_Turn.f (k + 1) a0 a1) := by
 intro a0 a1 k
 have ih0 := rope_Turn.mono_l k
 unfold rope_Turn.f
 repeat' first
   | (with_reducible exact ih0 _ _ _ _)
   | (with_reducible exact rope_Cos.mono _ _)
   | (with_reducible exact rope_Sin.mono _ _)
   | (with_reducible exact LeO.refl _)
   | (with_reducible exact LeO.none _)
   | (with_reducible refine LeO.ite ?_ ?_)
   | (with_reducible refine LeO.bind ?_ (fun _ => ?_))
   | exact ih0 _ _ _ _
   | exact rope_Cos.mono _ _
   | exact rope_Sin.mono _ _
   | exact LeO.none _
   | refine LeO.ite ?_ ?_
   | refine LeO.bind ?_ (fun _ => ?_)
def rope_Turn.T10 : Bool × List (List Nat × List Nat) := (true, [([], []), ([], []), ([], []), ([], []), ([3], [3]), ([], []), ([], []), ([5, 6], [5, 6]), ([7], [7]), ([], []), ([], []), ([10], [10]), ([9, 11], [9, 11]), ([12], [12]), ([], []), ([14], [14]), ([], []), ([16, 15], [16]), ([15, 17], [15, 17]), ([8, 13, 18, 17], [8, 13, 18]), ([19], [19]), ([20], [20]), ([20], [20]), ([0, 1, 0, 1, 5, 6, 7, 8, 9, 10, 11, 12, 13, 14, 15, 16, 17, 18, 19, 20, 21], [0, 1]), ([23, 21, 19, 0, 1, 5, 6, 7, 8, 9, 10, 11, 12, 13, 14, 15, 16, 17, 18, 19, 20, 21], [21, 23]), ([2, 4, 0, 1, 2, 3, 4, 5, 6, 7, 8, 9, 10, 11, 12, 13, 14, 15, 16, 17, 18, 19, 20, 21, 22, 23, 24], [2, 4]), ([25, 22, 24, 0, 1, 2, 3, 4, 5, 6, 7, 8, 9, 10, 11, 12, 13, 14, 15, 16, 17, 18, 19, 20, 21, 22, 23, 24], [22, 25])])
def rope_Turn.B10 : List Nat := [0, 0, 0, 0, 8, 0, 0, 96, 224, 0, 0, 1024, 3584, 7680, 0, 16384, 0, 114688, 245760, 524256, 1048544, 2097120, 2097120, 4194275, 12582883, 33554431, 67108863]
theorem rope_Turn.tab10 : rtab .any (opsOf Try.f15 10) = rope_Turn.T10 := by kernel_rfl
theorem rope_Turn.bits10 : waitsOk rope_Turn.T10.2 rope_Turn.B10 = true := by kernel_rfl
set_option maxHeartbeats 60000000 in
set_option maxRecDepth 100000 in
theorem rope_Turn.calls (k : Nat) (a0 : Int) (A1 : Option Addr) (c1 : Nat) (l1 : List Int) (r1 : List Int) (r2 : Int) (w : World) (hr1 : Kd.C (Kd.int .i8) w A1 l1.length l1) (hc1 : l1.length ≤ c1) (h : rope_Turn.f k a0 l1 = some (r1, r2)) :
  Calls Try.prog 15 #[.int .i64 a0, .slice A1 l1.length c1] w fun e w' => ∃ v0_ : Value, e = .returned (.tuple #[v0_, .int .i64 r2]) ∧ Kd.R (Kd.int .i8) 35 w' w.heap.size (fun _ => True) v0_ r1 ∧ Below w.heap.size w w' := by
 have hu40 := Try.underlying40
 have HR1 := Aside0.mk hr1
 have HC1 := Aside0.mk hc1
 clear hr1 hc1
 have HB := Aside0.mk (Below.refl w.heap.size w)
 have H : (if ((l1.length : Int) % 2) = 0 then (if a0 < 0 then (some (([] : List Int), 2)) else (if a0 > 1048576 then (some (([] : List Int), 2)) else (if 0 ≤ (l1.length : Int) then (if ((l1.length : Int) : Int).toNat ≤ 281474976710656 then (rope_Turn.l0 k a0 l1 (List.replicate ((l1.length : Int) : Int).toNat 0) 0) else (none)) else (none)))) else (some (([] : List Int), 30))) = some (r1, r2) := h
 clear h
 by_cases c3 : ((l1.length : Int) % 2) = 0
 rotate_left
 ·
  rw [if_neg c3] at H
  have c3b0 : (((l1.length : Int) % 2) == 0) = false := beq_eq_false_iff_ne.mpr c3
  have c3b1 : (((l1.length : Int) % 2) != 0) = true := bne_iff_ne.mpr c3
  simp only [Option.some.injEq, Prod.mk.injEq] at H
  obtain ⟨rfl, rfl⟩ := H
  go_enter Try.func15, Try.ntmps15
  go_wp2
  go_ret2
  exact ⟨_, by first | rfl | (simp [errW_none, errW_some] <;> rfl) | (simp [*, errW_none, errW_some] <;> rfl), by first | exact Kd.R_nil _ _ _ _ _ | exact Kd.N_nil _ _ _ _ _ | exact Kd.V_nil _ _ _ _ _ | exact Kd.Q_nil _ _ _ _ _ | exact Kd.S_nil _ _ _ _ _, by repeat (first | (with_reducible first | exact HB.out | apply b_a | apply b_n | apply b_d) | exact HB.out)⟩

 rw [if_pos c3] at H
 have c3b0 : (((l1.length : Int) % 2) == 0) = true := beq_iff_eq.mpr c3
 have c3b1 : (((l1.length : Int) % 2) != 0) = false := bne_eq_false_iff_eq.mpr c3
 clear c3
 by_cases c4 : a0 < 0
 ·
  rw [if_pos c4] at H
  have c4b0 : decide (a0 < 0) = true := decide_eq_true c4
  clear c4
  simp only [Option.some.injEq, Prod.mk.injEq] at H
  obtain ⟨rfl, rfl⟩ := H
  go_enter Try.func15, Try.ntmps15
  go_wp2
  go_ret2
  exact ⟨_, by first | rfl | (simp [errW_none, errW_some] <;> rfl) | (simp [*, errW_none, errW_some] <;> rfl), by first | exact Kd.R_nil _ _ _ _ _ | exact Kd.N_nil _ _ _ _ _ | exact Kd.V_nil _ _ _ _ _ | exact Kd.Q_nil _ _ _ _ _ | exact Kd.S_nil _ _ _ _ _, by repeat (first | (with_reducible first | exact HB.out | apply b_a | apply b_n | apply b_d) | exact HB.out)⟩
 rw [if_neg c4] at H
 have c4b0 : decide (a0 < 0) = false := decide_eq_false c4
 clear c4
 by_cases c5 : a0 > 1048576
 ·
  rw [if_pos c5] at H
  have c5b0 : decide (1048576 < a0) = true := decide_eq_true c5
  clear c5
  simp only [Option.some.injEq, Prod.mk.injEq] at H
  obtain ⟨rfl, rfl⟩ := H
  go_enter Try.func15, Try.ntmps15
  go_wp2
  go_ret2
  exact ⟨_, by first | rfl | (simp [errW_none, errW_some] <;> rfl) | (simp [*, errW_none, errW_some] <;> rfl), by first | exact Kd.R_nil _ _ _ _ _ | exact Kd.N_nil _ _ _ _ _ | exact Kd.V_nil _ _ _ _ _ | exact Kd.Q_nil _ _ _ _ _ | exact Kd.S_nil _ _ _ _ _, by repeat (first | (with_reducible first | exact HB.out | apply b_a | apply b_n | apply b_d) | exact HB.out)⟩
 rw [if_neg c5] at H
 have c5b0 : decide (1048576 < a0) = false := decide_eq_false c5
 clear c5
 by_cases c6 : 0 ≤ (l1.length : Int)
 rotate_left
 ·
  rw [if_neg c6] at H
  exact absurd H (by simp)
 rw [if_pos c6] at H
 have c6b0 := eq_true c6
 have c6b1 : decide (0 ≤ (l1.length : Int)) = true := decide_eq_true c6
 clear c6
 by_cases c7 : ((l1.length : Int) : Int).toNat ≤ 281474976710656
 rotate_left
 ·
  rw [if_neg c7] at H
  exact absurd H (by simp)
 rw [if_pos c7] at H
 have c7b0 := eq_true c7
 have c7b1 : decide (((l1.length : Int) : Int).toNat ≤ 281474976710656) = true := decide_eq_true c7
 clear c7
 obtain ⟨y112, hy112⟩ : ∃ y_ : List Int, y_ = (List.replicate ((l1.length : Int) : Int).toNat 0) := ⟨_, rfl⟩
 replace H : (rope_Turn.l0 k a0 l1 y112 0) = some (r1, r2) := by first | (rw [hy112]; with_reducible exact H) | (have H2_ := (Option.bind_some _ _).symm.trans H; rw [hy112]; with_reducible exact H2_) | (have H2_ := (Option.bind_some _ _).symm.trans H; with_reducible exact H2_) | with_reducible exact H | (rw [hy112]; exact H) | exact H
 have Ny112 := Aside0.mk hy112
 clear hy112
 have H' := Aside0.mk H
 clear H
 go_enter Try.func15, Try.ntmps15
 go_wp2_with (first | ((with_reducible refine gate_dst (N := 23) rfl ?_); refine Kd.R_make (Kd.int .i8) _ 35 rfl (N := 23) rfl 26 _ _ rfl (l1.length : Int) rfl rfl Try.underlying26 (.int .i8 0) 1 info35 rfl (by decide) (by omega) 0 (ok := fun _ => True) (okp := fun _ => True) rfl (fun _ hk => hk) trivial (of_decide_eq_true (by first | (with_reducible assumption) | assumption)) (Nat.le_trans (Nat.mul_le_mul_right _ (of_decide_eq_true (by first | (with_reducible assumption) | assumption) : (l1.length : Int).toNat ≤ 281474976710656)) (by omega)) (Below.refl _ _) (Nat.le_refl _) ?_; intro v113 w8 ho9 hb hg_ hnew_; clear hg_ hnew_; (first | rw [← Ny112.out] at ho9 | (simp only [Int.reduceToNat] at ho9; rw [← Ny112.out] at ho9)); have HO114 := Aside0.mk (Kd.R_lower ho9 (below_size (bw_ HB))); replace HB := Aside0.mk (below_step (bw_ HB) hb); clear hb ho9))
 go_loopg [7] k (fun kq v7 w' => ∃ (x6_1 : List Int) (x7_1 : Int), v7 = .int .i64 x7_1 ∧ Aside0 (rope_Turn.l0 kq a0 l1 x6_1 x7_1 = some (r1, r2)) ∧ Aside0 (kq ≤ k) ∧ Aside0 (Kd.R (Kd.int .i8) 35 w' w.heap.size (fun _ => True) v113 x6_1) ∧ Aside0 (Below w.heap.size w w'))
 case atStart => exact ⟨(y112), (0), (by first | rfl | (simp; done) | (simp [*]; done)), H', ⟨Nat.le_refl _⟩, ⟨tR_ HO114⟩, ⟨by repeat (first | (with_reducible first | exact HB.out | apply b_a | apply b_n | apply b_d) | exact HB.out)⟩⟩
 case round =>
  clear H'
  try clear c1
  try clear p2
  try clear c3
  try clear c3b0
  try clear c3b1
  try clear c4
  try clear c4b0
  try clear c5
  try clear c5b0
  try clear c6
  try clear c6b0
  try clear c6b1
  try clear c7
  try clear c7b0
  try clear c7b1
  obtain ⟨x6_1, x7_1, rfl, HA, HK1, HO_6, HB⟩ := hrel
  cases gk with
  | zero => exact absurd HA.out (by simp [rope_Turn.l0])
  | succ k1 =>
   have H := HA.out
   clear HA
   simp only [rope_Turn.l0] at H
   by_cases c10 : x7_1 < (l1.length : Int)
   rotate_left
   ·
    rw [if_neg c10] at H
    have c10b0 : decide (x7_1 < (l1.length : Int)) = false := decide_eq_false c10
    clear c10
    simp only [Option.some.injEq, Prod.mk.injEq] at H
    obtain ⟨rfl, rfl⟩ := H
    go_wp2
    go_ret2
    exact ⟨_, by first | rfl | (simp [errW_none, errW_some] <;> rfl) | (simp [*, errW_none, errW_some] <;> rfl), by (with_reducible repeat (first | apply Kd.R_alloc | apply Kd.R_drewN | apply Kd.R_drew)); exact HO_6.out, by repeat (first | (with_reducible first | exact HB.out | apply b_a | apply b_n | apply b_d) | exact HB.out)⟩
   rw [if_pos c10] at H
   have c10b0 : decide (x7_1 < (l1.length : Int)) = true := decide_eq_true c10
   clear c10
   replace H := Option.bind_eq_some_iff.mp H
   obtain ⟨t115, A110, H⟩ := H
   replace H : (if 0 ≤ x7_1 then (if 0 ≤ (wrap64 (x7_1 + 1)) then (if (wrap64 (x7_1 + 1)) < (l1.length : Int) then ((rope_Cos.f k1 t115).bind fun t118 => ((rope_Sin.f k1 t115).bind fun t119 => ((rope_pairOf.f (rd l1 x7_1) (rd l1 (wrap64 (x7_1 + 1))) t118 t119).bind fun bt120 => (if x7_1 < (x6_1.length : Int) then (if (wrap64 (x7_1 + 1)) < (x6_1.length : Int) then (rope_Turn.l0 k1 a0 l1 ((x6_1.set (x7_1 : Int).toNat bt120.1).set ((wrap64 (x7_1 + 1)) : Int).toNat bt120.2) (wrap64 (x7_1 + 2))) else (none)) else (none))))) else (none)) else (none)) else (none)) = some (r1, r2) := H
   have A11 := Aside0.mk A110
   clear A110
   by_cases c12 : 0 ≤ x7_1
   rotate_left
   ·
    rw [if_neg c12] at H
    exact absurd H (by simp)
   rw [if_pos c12] at H
   have c12b0 : decide (0 ≤ x7_1) = true := decide_eq_true c12
   clear c12
   obtain ⟨ji13, hji13⟩ : ∃ j_ : Int, (wrap64 (x7_1 + 1)) = j_ := ⟨_, rfl⟩
   replace H : (if 0 ≤ (ji13) then (if (ji13) < (l1.length : Int) then ((rope_Cos.f k1 t115).bind fun t118 => ((rope_Sin.f k1 t115).bind fun t119 => ((rope_pairOf.f (rd l1 x7_1) (rd l1 (ji13)) t118 t119).bind fun bt120 => (if x7_1 < (x6_1.length : Int) then (if (ji13) < (x6_1.length : Int) then (rope_Turn.l0 k1 a0 l1 ((x6_1.set (x7_1 : Int).toNat bt120.1).set ((ji13) : Int).toNat bt120.2) (wrap64 (x7_1 + 2))) else (none)) else (none))))) else (none)) else (none)) = some (r1, r2) := by first | (rw [hji13] at H; exact H) | (simp only [hji13] at H ⊢; exact H)
   (try rw [hji13] at A11)
   have hji13w : (IntKind.i64.wrap (x7_1 + 1)) = ji13 := (i64_w _).trans hji13
   by_cases c14 : 0 ≤ (ji13)
   rotate_left
   ·
    rw [if_neg c14] at H
    exact absurd H (by simp)
   rw [if_pos c14] at H
   have c14b0 : decide (0 ≤ (ji13)) = true := decide_eq_true c14
   clear c14
   by_cases c15 : (ji13) < (l1.length : Int)
   rotate_left
   ·
    rw [if_neg c15] at H
    exact absurd H (by simp)
   rw [if_pos c15] at H
   have c15b0 : decide ((ji13) < (l1.length : Int)) = true := decide_eq_true c15
   clear c15
   replace H := Option.bind_eq_some_iff.mp H
   obtain ⟨t118, A160, H⟩ := H
   replace H : ((rope_Sin.f k1 t115).bind fun t119 => ((rope_pairOf.f (rd l1 x7_1) (rd l1 (ji13)) t118 t119).bind fun bt120 => (if x7_1 < (x6_1.length : Int) then (if (ji13) < (x6_1.length : Int) then (rope_Turn.l0 k1 a0 l1 ((x6_1.set (x7_1 : Int).toNat bt120.1).set ((ji13) : Int).toNat bt120.2) (wrap64 (x7_1 + 2))) else (none)) else (none)))) = some (r1, r2) := H
   have A16 := Aside0.mk A160
   clear A160
   replace H := Option.bind_eq_some_iff.mp H
   obtain ⟨t119, A170, H⟩ := H
   replace H : ((rope_pairOf.f (rd l1 x7_1) (rd l1 (ji13)) t118 t119).bind fun bt120 => (if x7_1 < (x6_1.length : Int) then (if (ji13) < (x6_1.length : Int) then (rope_Turn.l0 k1 a0 l1 ((x6_1.set (x7_1 : Int).toNat bt120.1).set ((ji13) : Int).toNat bt120.2) (wrap64 (x7_1 + 2))) else (none)) else (none))) = some (r1, r2) := H
   have A17 := Aside0.mk A170
   clear A170
   replace H := Option.bind_eq_some_iff.mp H
   obtain ⟨⟨t120, t121⟩, A180, H⟩ := H
   replace H : (if x7_1 < (x6_1.length : Int) then (if (ji13) < (x6_1.length : Int) then (rope_Turn.l0 k1 a0 l1 ((x6_1.set (x7_1 : Int).toNat t120).set ((ji13) : Int).toNat t121) (wrap64 (x7_1 + 2))) else (none)) else (none)) = some (r1, r2) := H
   have A18 := Aside0.mk A180
   clear A180
   by_cases c19 : x7_1 < (x6_1.length : Int)
   rotate_left
   ·
    rw [if_neg c19] at H
    exact absurd H (by simp)
   rw [if_pos c19] at H
   have c19b0 : decide (x7_1 < (x6_1.length : Int)) = true := decide_eq_true c19
   clear c19
   obtain ⟨y122, hy122⟩ : ∃ y_ : List Int, y_ = (x6_1.set (x7_1 : Int).toNat t120) := ⟨_, rfl⟩
   replace H : (if (ji13) < (x6_1.length : Int) then (rope_Turn.l0 k1 a0 l1 (y122.set ((ji13) : Int).toNat t121) (wrap64 (x7_1 + 2))) else (none)) = some (r1, r2) := by first | (rw [hy122]; with_reducible exact H) | (have H2_ := (Option.bind_some _ _).symm.trans H; rw [hy122]; with_reducible exact H2_) | (have H2_ := (Option.bind_some _ _).symm.trans H; with_reducible exact H2_) | with_reducible exact H | (rw [hy122]; exact H) | exact H
   have Ny122 := Aside0.mk hy122
   clear hy122
   by_cases c21 : (ji13) < (x6_1.length : Int)
   rotate_left
   ·
    rw [if_neg c21] at H
    exact absurd H (by simp)
   rw [if_pos c21] at H
   have c21b0 : decide ((ji13) < (x6_1.length : Int)) = true := decide_eq_true c21
   clear c21
   obtain ⟨y123, hy123⟩ : ∃ y_ : List Int, y_ = (y122.set ((ji13) : Int).toNat t121) := ⟨_, rfl⟩
   replace H : (rope_Turn.l0 k1 a0 l1 y123 (wrap64 (x7_1 + 2))) = some (r1, r2) := by first | (rw [hy123]; with_reducible exact H) | (have H2_ := (Option.bind_some _ _).symm.trans H; rw [hy123]; with_reducible exact H2_) | (have H2_ := (Option.bind_some _ _).symm.trans H; with_reducible exact H2_) | with_reducible exact H | (rw [hy123]; exact H) | exact H
   have Ny123 := Aside0.mk hy123
   clear hy123
   have H' := Aside0.mk H
   clear H
   try go_wp2_with (first | ((with_reducible refine gate_callee (f := 13) rfl ?_); refine goesL_ (some 33) rfl rfl Try.func13 (by kernel_rfl) rfl #[.int .i64 a0, .int .i64 (wrap64 (Int.tdiv x7_1 2))] rfl (by (try simp only [l_4, l_5, l_6]); first | done | rfl | (simp only [l_7, l_8]; rfl)) ?_; (with_reducible refine (rope_Angle.calls a0 (wrap64 (Int.tdiv x7_1 2)) t115 _ A11.out).mono ?_); rintro e w23 ⟨rfl, hb⟩; (try clear A11); refine ⟨_, rfl, ?_⟩; replace HO_6 := Aside0.mk (Kd.R_below (tR_ HO_6) hb); replace HB := Aside0.mk (below_step (bw_ HB) hb); (try clear hb); (try clear hb2); (try clear hk); (try clear hi)))
   replace HO_6 := Aside0.mk (Kd.R_drew HO_6.out)
   replace HB := Aside0.mk (b_d HB.out)
   have p116 : 0 ≤ (x7_1 : Int) := of_decide_eq_true (by first | (with_reducible assumption) | assumption)
   have q116 : x7_1 < (l1.length : Int) := of_decide_eq_true (by first | (with_reducible assumption) | assumption)
   obtain ⟨ad116, e116, hx116_0⟩ := Kd.at_int HR1.out x7_1 p116 q116
   have hw116_0 := hx116_0
   cases e116
   replace hx116_0 := cb_ HB hx116_0
   replace p116 := eq_true p116
   replace q116 := eq_true q116
   have p117 : 0 ≤ ((ji13) : Int) := of_decide_eq_true (by first | (with_reducible assumption) | assumption)
   have q117 : (ji13) < (l1.length : Int) := of_decide_eq_true (by first | (with_reducible assumption) | assumption)
   obtain ⟨ad117, e117, hx117_0⟩ := Kd.at_int HR1.out (ji13) p117 q117
   have hw117_0 := hx117_0
   obtain rfl : ad116 = ad117 := (by injection e117)
   replace hx117_0 := cb_ HB hx117_0
   replace p117 := eq_true p117
   replace q117 := eq_true q117
   refine start_ (n := 27) (S := fun w' => w'.cell? (ad116.add (x7_1).toNat) = some (.int .i8 (rd l1 x7_1)) ∧ w'.cell? (ad116.add ((ji13)).toNat) = some (.int .i8 (rd l1 (ji13)))) (ds := [24, 26]) #[false, false, false, false, false, false, false, false, false, false, false, false, false, false, false, false, false, false, false, false, false, false, false, false, false, false, false] (by kernel_rfl) rfl rfl ⟨(cb_ HB hw116_0), (cb_ HB hw117_0)⟩ (fun hHeld => ?_); refine with_tabW rope_Turn.tab10 rope_Turn.bits10 (fun HT_ HW_ => ?_)
   generalize w23.drew = w24 at HO_6 HB hx116_0 hx117_0 hHeld ⊢
   refine pu_ (i := 0) (N := some 35) (bs_ 27 1) rfl rfl HT_ ?_
   refine pu_ (i := 1) (N := some 36) (bs_ 27 3) rfl rfl HT_ ?_
   refine pu_ (i := 2) (N := some 37) (bs_ 27 7) rfl rfl HT_ ?_
   refine pu_ (i := 3) (N := some 38) (bs_ 27 15) rfl rfl HT_ ?_
   refine pu_ (i := 4) (N := some 39) (bs_ 27 31) rfl rfl HT_ ?_
   refine pu_ (i := 5) (N := some 40) (bs_ 27 63) rfl rfl HT_ ?_
   refine pu_ (i := 6) (N := some 41) (bs_ 27 127) rfl rfl HT_ ?_
   refine pu_ (i := 7) (N := some 42) (bs_ 27 255) rfl rfl HT_ ?_
   refine pu_ (i := 9) (N := some 44) (bs_ 27 767) rfl rfl HT_ ?_
   refine pu_ (i := 10) (N := some 45) (bs_ 27 1791) rfl rfl HT_ ?_
   refine pu_ (i := 11) (N := some 46) (bs_ 27 3839) rfl rfl HT_ ?_
   refine pu_ (i := 12) (N := some 47) (bs_ 27 7935) rfl rfl HT_ ?_
   refine pu_ (i := 14) (N := some 49) (bs_ 27 24319) rfl rfl HT_ ?_
   refine pu_ (i := 16) (N := some 51) (bs_ 27 89855) rfl rfl HT_ ?_
   refine take_ (i := 8) (N := some 43) (v := ?_) (a' := ?_) (bs_ 27 90111) rfl rfl (take_ofW HT_.out HW_.out (by kernel_rfl)) (fun _ _ _ h => h) (Or.inl ⟨by rfl, ?_⟩) hHeld ?_ ?_
   rotate_left
   ·
    rintro w' ⟨s0, s1⟩
    go_simp
    with_reducible rfl
   rotate_left
   ·
    simp only [Act.put, l_1, l_2, l_3, i64_w, i32_w]
    rfl
   refine take_ (i := 13) (N := some 48) (v := ?_) (a' := ?_) (bs_ 27 98303) rfl rfl (take_ofW HT_.out HW_.out (by kernel_rfl)) (fun _ _ _ h => h) (Or.inl ⟨by rfl, ?_⟩) hHeld ?_ ?_
   rotate_left
   ·
    rintro w' ⟨s0, s1⟩
    go_simp
    with_reducible rfl
   rotate_left
   ·
    simp only [Act.put, l_1, l_2, l_3, i64_w, i32_w]
    rfl
   refine one_ (i := 15) (N := some 50) (bs_ 27 131071) rfl rfl (one_of HT_.out (by kernel_rfl)) (by decide) (fun K hK => ?_)
   refine goes_ Try.func11 (by kernel_rfl) rfl #[.int .i64 t115] (by rfl) rfl rfl (by (try simp only [l_4, l_5, l_6]); first | done | rfl | (simp only [l_7, l_8]; rfl)) ?_
   with_reducible refine (rope_Cos.calls k1 t115 t118 _ A16.out).mono ?_
   rintro e w25 ⟨rfl, hb⟩
   refine ⟨_, rfl, ?_⟩
   replace HO_6 := Aside0.mk (Kd.R_below (tR_ HO_6) hb)
   replace HB := Aside0.mk (below_step (bw_ HB) hb)
   (try clear hb)
   (try clear hb2)
   (try clear hk)
   (try clear hi)
   refine hK.out _ _ ⟨(cb_ HB hw116_0), (cb_ HB hw117_0)⟩ (fun hHeld => ?_)
   clear hK K
   refine no_ (N := some 50) ?_
   refine one_ (i := 17) (N := some 52) (bs_ 27 262143) rfl rfl (one_of HT_.out (by kernel_rfl)) (by decide) (fun K hK => ?_)
   refine goes_ Try.func9 (by kernel_rfl) rfl #[.int .i64 t115] (by rfl) rfl rfl (by (try simp only [l_4, l_5, l_6]); first | done | rfl | (simp only [l_7, l_8]; rfl)) ?_
   with_reducible refine (rope_Sin.calls k1 t115 t119 _ A17.out).mono ?_
   rintro e w26 ⟨rfl, hb⟩
   refine ⟨_, rfl, ?_⟩
   replace HO_6 := Aside0.mk (Kd.R_below (tR_ HO_6) hb)
   replace HB := Aside0.mk (below_step (bw_ HB) hb)
   (try clear hb)
   (try clear hb2)
   (try clear hk)
   (try clear hi)
   refine hK.out _ _ ⟨(cb_ HB hw116_0), (cb_ HB hw117_0)⟩ (fun hHeld => ?_)
   clear hK K
   refine no_ (N := some 52) ?_
   refine pu_ (i := 18) (N := some 53) (bs_ 27 524287) rfl rfl HT_ ?_
   refine one_ (i := 19) (N := some 54) (bs_ 27 1048575) rfl rfl (one_of HT_.out (by kernel_rfl)) (by decide) (fun K hK => ?_)
   refine goes_ Try.func24 (by kernel_rfl) rfl #[.int .i8 (rd l1 x7_1), .int .i8 (rd l1 (ji13)), .agg #[.int .i32 t118, .int .i32 t119]] (by rfl) rfl rfl (by (try simp only [l_4, l_5, l_6]); first | done | (simp only [hji13]; rfl) | rfl | (simp only [l_7, l_8]; rfl)) ?_
   with_reducible refine (rope_pairOf.calls (rd l1 x7_1) (rd l1 (ji13)) t118 t119 t120 t121 _ A18.out).mono ?_
   rintro e w27 ⟨rfl, hb⟩
   refine ⟨_, rfl, ?_⟩
   replace HO_6 := Aside0.mk (Kd.R_below (tR_ HO_6) hb)
   replace HB := Aside0.mk (below_step (bw_ HB) hb)
   (try clear hb)
   (try clear hb2)
   (try clear hk)
   (try clear hi)
   have p20 : 0 ≤ (x7_1 : Int) := of_decide_eq_true (by first | (with_reducible assumption) | assumption)
   have q20 : (x7_1 : Int) < ((x6_1.length : Int) : Int) := of_decide_eq_true (by first | (with_reducible assumption) | assumption)
   obtain ⟨go20, co20, eo20, gb20, gl20, cl20, HG20⟩ := Kd.R_form HO_6.out (by omega)
   (first | cases eo20 | (injection eo20 with ea_ en_ ec_; (first | subst ea_ | (injection ea_ with ea_; subst ea_)); subst ec_; clear en_))
   have GB20 := Aside0.mk gb20
   have GG20 := Aside0.mk HG20
   clear gb20 gl20 HG20
   obtain ⟨hx20_0, hf20_0⟩ := Kd.R_celln 0 HO_6.out (x7_1 : Int) p20 q20
   replace p20 := eq_true p20
   replace q20 := eq_true q20
   have HP28 := Kd.R_putn HO_6.out (x7_1 : Int) t120
   rw [← Ny122.out] at HP28
   have HQ28 := Aside0.mk HP28
   clear HP28
   have p22 : 0 ≤ ((ji13) : Int) := of_decide_eq_true (by first | (with_reducible assumption) | assumption)
   have q22 : ((ji13) : Int) < ((x6_1.length : Int) : Int) := of_decide_eq_true (by first | (with_reducible assumption) | assumption)
   obtain ⟨hx22_0, hf22_0⟩ := Kd.R_celln 0 HQ28.out ((ji13) : Int) p22 q22
   replace p22 := eq_true p22
   replace q22 := eq_true q22
   have HP29 := Kd.R_putn HQ28.out ((ji13) : Int) t121
   rw [← Ny123.out] at HP29
   have HQ29 := Aside0.mk HP29
   clear HP29
   refine hK.out _ _ ⟨(cb_ HB hw116_0), (cb_ HB hw117_0)⟩ (fun hHeld => ?_)
   clear hK K
   refine no_ (N := some 54) ?_
   refine pu_ (i := 20) (N := some 34) (bs_ 27 2097151) rfl rfl HT_ ?_
   refine pu_ (i := 21) (N := some 55) (bs_ 27 4194303) rfl rfl HT_ ?_
   refine pu_ (i := 22) (N := some 56) (bs_ 27 8388607) rfl rfl HT_ ?_
   refine pu_ (i := 23) (N := some 57) (bs_ 27 16777215) rfl rfl HT_ ?_
   refine last_ (i := 24) (N := none) (bs_ 27 33554431) rfl rfl (one_of HT_.out (by kernel_rfl)) (by decide) (fun K hK => ?_)
   refine skip_ (w1 := ?_) (by rfl) rfl ?_ ?_
   rotate_left
   ·
    go_simp
    rfl
   refine hK.out _ _ ?_
   clear hK K
   refine pu_ (i := 25) (N := some 58) (bs_ 27 67108863) rfl rfl HT_ ?_
   refine last_ (i := 26) (N := none) (bs_ 27 134217727) rfl rfl (one_of HT_.out (by kernel_rfl)) (by decide) (fun K hK => ?_)
   refine skip_ (w1 := ?_) (by rfl) rfl ?_ ?_
   rotate_left
   ·
    go_simp
    rfl
   refine hK.out _ _ ?_
   clear hK K
   refine done_ (done_of HT_.out (by kernel_rfl)) ?_
   try go_wp2
   go_roundg k1
   case measure => have := HK1.out; omega
   case rel => exact ⟨(y123), (wrap64 (x7_1 + 2)), (by first | rfl | (simp; done) | (simp [*]; done)), H', ⟨by have := HK1.out; omega⟩, ⟨tR_ HQ29⟩, ⟨by repeat (first | (with_reducible first | exact HB.out | apply b_a | apply b_n | apply b_d | refine b_s ?_ GB20.out | refine b_s ?_ GB20.out) | exact HB.out)⟩⟩
/-! ### pelotonref04_Bytes: function 16 -/
def pelotonref04_Bytes.l0 : Nat → List Int → List Int → Int → Option (Bool)
 | 0, _, _, _ => none
 | k + 1, x0, x1, x5 => if x5 < (x0.length : Int) then (if 0 ≤ x5 then (if x5 < (x1.length : Int) then (if (rd x0 x5) = (rd x1 x5) then (pelotonref04_Bytes.l0 k x0 x1 (wrap64 (x5 + 1))) else (some false)) else (none)) else (none)) else (some true)
def pelotonref04_Bytes.f (k : Nat) (l0 : List Int) (l1 : List Int) : Option (Bool) := if (l0.length : Int) = (l1.length : Int) then (pelotonref04_Bytes.l0 k l0 l1 0) else (some false)
theorem pelotonref04_Bytes.mono_l : ∀ k, (∀ y0 y1 y2, LeO (pelotonref04_Bytes.l0 k y0 y1 y2) (pelotonref04_Bytes.l0 (k + 1) y0 y1 y2))
 | 0 => fun _ _ _ r h => by simp [pelotonref04_Bytes.l0] at h
 | k + 1 => by
  have ih0 := pelotonref04_Bytes.mono_l k
  ·
   intro y0 y1 y2
   unfold pelotonref04_Bytes.l0
   repeat' first
   | (with_reducible exact ih0 _ _ _)
   | (with_reducible exact LeO.refl _)
   | (with_reducible exact LeO.none _)
   | (with_reducible refine LeO.ite ?_ ?_)
   | (with_reducible refine LeO.bind ?_ (fun _ => ?_))
   | exact ih0 _ _ _
   | exact LeO.none _
   | refine LeO.ite ?_ ?_
   | refine LeO.bind ?_ (fun _ => ?_)
theorem pelotonref04_Bytes.mono : ∀ a0 a1 k, LeO (pelotonref04_Bytes.f k a0 a1) (pelotonref04_Bytes.f (k + 1) a0 a1) := by
 intro a0 a1 k
 have ih0 := pelotonref04_Bytes.mono_l k
 unfold pelotonref04_Bytes.f
 repeat' first
   | (with_reducible exact ih0 _ _ _)
   | (with_reducible exact LeO.refl _)
   | (with_reducible exact LeO.none _)
   | (with_reducible refine LeO.ite ?_ ?_)
   | (with_reducible refine LeO.bind ?_ (fun _ => ?_))
   | exact ih0 _ _ _
   | exact LeO.none _
   | refine LeO.ite ?_ ?_
   | refine LeO.bind ?_ (fun _ => ?_)
set_option maxHeartbeats 60000000 in
set_option maxRecDepth 100000 in
theorem pelotonref04_Bytes.calls (k : Nat) (A0 : Option Addr) (c0 : Nat) (l0 : List Int) (A1 : Option Addr) (c1 : Nat) (l1 : List Int) (r : Bool) (w : World) (hr0 : Kd.C (Kd.int .i8) w A0 l0.length l0) (hc0 : l0.length ≤ c0) (hr1 : Kd.C (Kd.int .i8) w A1 l1.length l1) (hc1 : l1.length ≤ c1) (h : pelotonref04_Bytes.f k l0 l1 = some r) :
  Calls Try.prog 16 #[.slice A0 l0.length c0, .slice A1 l1.length c1] w fun e w' => e = .returned (.bool r) ∧ Drawn0 w w' := by
 have HR0 := Aside0.mk hr0
 have HC0 := Aside0.mk hc0
 clear hr0 hc0
 have HR1 := Aside0.mk hr1
 have HC1 := Aside0.mk hc1
 clear hr1 hc1
 have H : (if (l0.length : Int) = (l1.length : Int) then (pelotonref04_Bytes.l0 k l0 l1 0) else (some false)) = some r := h
 clear h
 by_cases c3 : (l0.length : Int) = (l1.length : Int)
 rotate_left
 ·
  rw [if_neg c3] at H
  have c3b0 : ((l0.length : Int) == (l1.length : Int)) = false := beq_eq_false_iff_ne.mpr c3
  have c3b1 : ((l0.length : Int) != (l1.length : Int)) = true := bne_iff_ne.mpr c3
  have c3b2 : (l0.length == l1.length) = false := by first | simpa using c3 | (simp at c3 ⊢; omega)
  obtain rfl := Option.some.inj H
  go_enter Try.func16, Try.ntmps16
  go_wp2
  repeat (go_quiet (fail); try go_wp2)
  go_ret
  exact ⟨by first | rfl | (simp; done) | (simp [*]; done), by repeat (first | exact Drawn0.refl _ | apply Drawn0.step)⟩

 rw [if_pos c3] at H
 have c3b0 : ((l0.length : Int) == (l1.length : Int)) = true := beq_iff_eq.mpr c3
 have c3b1 : ((l0.length : Int) != (l1.length : Int)) = false := bne_eq_false_iff_eq.mpr c3
 have c3b2 : (l0.length == l1.length) = true := by first | simpa using c3 | (simp at c3 ⊢; omega)
 clear c3
 have H' := Aside0.mk H
 clear H
 go_enter Try.func16, Try.ntmps16
 go_wp2
 repeat (go_quiet (fail); try go_wp2)
 go_loopg [5] k (fun kq v5 w' => ∃ (x5_1 : Int), v5 = .int .i64 x5_1 ∧ Aside0 (pelotonref04_Bytes.l0 kq l0 l1 x5_1 = some r) ∧ Aside0 (kq ≤ k) ∧ Drawn0 w w')
 case atStart => exact ⟨(0), (by first | rfl | (simp; done) | (simp [*]; done)), H', ⟨Nat.le_refl _⟩, by repeat (first | exact Drawn0.refl _ | apply Drawn0.step)⟩
 case round =>
  clear H'
  try clear c1
  try clear p2
  try clear c3
  try clear c3b0
  try clear c3b1
  try clear c3b2
  obtain ⟨x5_1, rfl, HA, HK1, ⟨m1, rfl⟩⟩ := hrel
  cases gk with
  | zero => exact absurd HA.out (by simp [pelotonref04_Bytes.l0])
  | succ k1 =>
   have H := HA.out
   clear HA
   simp only [pelotonref04_Bytes.l0] at H
   by_cases c4 : x5_1 < (l0.length : Int)
   rotate_left
   ·
    rw [if_neg c4] at H
    have c4b0 : decide (x5_1 < (l0.length : Int)) = false := decide_eq_false c4
    clear c4
    obtain rfl := Option.some.inj H
    go_wp2
    repeat (go_quiet (fail); try go_wp2)
    go_ret
    exact ⟨by first | rfl | (simp; done) | (simp [*]; done), by repeat (first | exact Drawn0.refl _ | apply Drawn0.step)⟩
   rw [if_pos c4] at H
   have c4b0 : decide (x5_1 < (l0.length : Int)) = true := decide_eq_true c4
   clear c4
   by_cases c5 : 0 ≤ x5_1
   rotate_left
   ·
    rw [if_neg c5] at H
    exact absurd H (by simp)
   rw [if_pos c5] at H
   have c5b0 : decide (0 ≤ x5_1) = true := decide_eq_true c5
   clear c5
   by_cases c6 : x5_1 < (l1.length : Int)
   rotate_left
   ·
    rw [if_neg c6] at H
    exact absurd H (by simp)
   rw [if_pos c6] at H
   have c6b0 : decide (x5_1 < (l1.length : Int)) = true := decide_eq_true c6
   clear c6
   by_cases c7 : (rd l0 x5_1) = (rd l1 x5_1)
   rotate_left
   ·
    rw [if_neg c7] at H
    have c7b0 : ((rd l0 x5_1) == (rd l1 x5_1)) = false := beq_eq_false_iff_ne.mpr c7
    have c7b1 : ((rd l0 x5_1) != (rd l1 x5_1)) = true := bne_iff_ne.mpr c7
    obtain rfl := Option.some.inj H
    have p124 : 0 ≤ (x5_1 : Int) := of_decide_eq_true (by first | (with_reducible assumption) | assumption)
    have q124 : x5_1 < (l0.length : Int) := of_decide_eq_true (by first | (with_reducible assumption) | assumption)
    obtain ⟨ad124, e124, hx124_0⟩ := Kd.at_int HR0.out x5_1 p124 q124
    cases e124
    replace p124 := eq_true p124
    replace q124 := eq_true q124
    have p125 : 0 ≤ (x5_1 : Int) := of_decide_eq_true (by first | (with_reducible assumption) | assumption)
    have q125 : x5_1 < (l1.length : Int) := of_decide_eq_true (by first | (with_reducible assumption) | assumption)
    obtain ⟨ad125, e125, hx125_0⟩ := Kd.at_int HR1.out x5_1 p125 q125
    cases e125
    replace p125 := eq_true p125
    replace q125 := eq_true q125
    go_wp2
    repeat (go_quiet (fail); try go_wp2)
    go_ret
    exact ⟨by first | rfl | (simp; done) | (simp [*]; done), by repeat (first | exact Drawn0.refl _ | apply Drawn0.step)⟩
   rw [if_pos c7] at H
   have c7b0 : ((rd l0 x5_1) == (rd l1 x5_1)) = true := beq_iff_eq.mpr c7
   have c7b1 : ((rd l0 x5_1) != (rd l1 x5_1)) = false := bne_eq_false_iff_eq.mpr c7
   clear c7
   have H' := Aside0.mk H
   clear H
   have p124 : 0 ≤ (x5_1 : Int) := of_decide_eq_true (by first | (with_reducible assumption) | assumption)
   have q124 : x5_1 < (l0.length : Int) := of_decide_eq_true (by first | (with_reducible assumption) | assumption)
   obtain ⟨ad124, e124, hx124_0⟩ := Kd.at_int HR0.out x5_1 p124 q124
   cases e124
   replace p124 := eq_true p124
   replace q124 := eq_true q124
   have p125 : 0 ≤ (x5_1 : Int) := of_decide_eq_true (by first | (with_reducible assumption) | assumption)
   have q125 : x5_1 < (l1.length : Int) := of_decide_eq_true (by first | (with_reducible assumption) | assumption)
   obtain ⟨ad125, e125, hx125_0⟩ := Kd.at_int HR1.out x5_1 p125 q125
   cases e125
   replace p125 := eq_true p125
   replace q125 := eq_true q125
   go_wp2
   repeat (go_quiet (fail); try go_wp2)
   go_roundg k1
   case measure => have := HK1.out; omega
   case rel => exact ⟨(wrap64 (x5_1 + 1)), (by first | rfl | (simp; done) | (simp [*]; done)), H', ⟨by have := HK1.out; omega⟩, by repeat (first | exact Drawn0.refl _ | apply Drawn0.step)⟩
/-! ### pelotonlaw06_awake: function 8 -/
def pelotonlaw06_awake.f (k : Nat)  : Option (Bool) := (rope_Turn.f k 2 (([100, 0] : List Int))).bind fun bt129 => ((rope_Sin.f k 8192).bind fun t133 => (if t133 = 11585 then ((rope_Sin.f k 16384).bind fun t134 => (if t134 = 16384 then ((rope_Sin.f k (-16384)).bind fun t135 => (if t135 = (-16384) then ((rope_Cos.f k 0).bind fun t136 => (if t136 = 16384 then ((rope_Angle.f 3 1).bind fun t137 => (if t137 = 12288 then (if bt129.2 = 0 then ((pelotonref04_Bytes.f k bt129.1 (([0, 100] : List Int))).bind fun t141 => (some t141)) else (some false)) else (some false))) else (some false))) else (some false))) else (some false))) else (some false)))
theorem pelotonlaw06_awake.mono : ∀ k, LeO (pelotonlaw06_awake.f k ) (pelotonlaw06_awake.f (k + 1) ) := by
 intro  k
 unfold pelotonlaw06_awake.f
 repeat' first
   | (with_reducible exact pelotonref04_Bytes.mono _ _ _)
   | (with_reducible exact rope_Cos.mono _ _)
   | (with_reducible exact rope_Sin.mono _ _)
   | (with_reducible exact rope_Turn.mono _ _ _)
   | (with_reducible exact LeO.refl _)
   | (with_reducible exact LeO.none _)
   | (with_reducible refine LeO.ite ?_ ?_)
   | (with_reducible refine LeO.bind ?_ (fun _ => ?_))
   | exact pelotonref04_Bytes.mono _ _ _
   | exact rope_Cos.mono _ _
   | exact rope_Sin.mono _ _
   | exact rope_Turn.mono _ _ _
   | exact LeO.none _
   | refine LeO.ite ?_ ?_
   | refine LeO.bind ?_ (fun _ => ?_)
set_option maxHeartbeats 60000000 in
set_option maxRecDepth 100000 in
theorem pelotonlaw06_awake.calls (k : Nat)  (r : Bool) (w : World) (h : pelotonlaw06_awake.f k  = some r) :
  Calls Try.prog 8 #[] w fun e w' => e = .returned (.bool r) ∧ Below w.heap.size w w' := by
 have HB := Aside0.mk (Below.refl w.heap.size w)
 have H : ((rope_Turn.f k 2 (([100, 0] : List Int))).bind fun bt129 => ((rope_Sin.f k 8192).bind fun t133 => (if t133 = 11585 then ((rope_Sin.f k 16384).bind fun t134 => (if t134 = 16384 then ((rope_Sin.f k (-16384)).bind fun t135 => (if t135 = (-16384) then ((rope_Cos.f k 0).bind fun t136 => (if t136 = 16384 then ((rope_Angle.f 3 1).bind fun t137 => (if t137 = 12288 then (if bt129.2 = 0 then ((pelotonref04_Bytes.f k bt129.1 (([0, 100] : List Int))).bind fun t141 => (some t141)) else (some false)) else (some false))) else (some false))) else (some false))) else (some false))) else (some false)))) = some r := h
 clear h
 obtain ⟨y126, hy126⟩ : ∃ y_ : List Int, y_ = (([100, 0] : List Int)) := ⟨_, rfl⟩
 replace H : ((rope_Turn.f k 2 y126).bind fun bt129 => ((rope_Sin.f k 8192).bind fun t133 => (if t133 = 11585 then ((rope_Sin.f k 16384).bind fun t134 => (if t134 = 16384 then ((rope_Sin.f k (-16384)).bind fun t135 => (if t135 = (-16384) then ((rope_Cos.f k 0).bind fun t136 => (if t136 = 16384 then ((rope_Angle.f 3 1).bind fun t137 => (if t137 = 12288 then (if bt129.2 = 0 then ((pelotonref04_Bytes.f k bt129.1 (([0, 100] : List Int))).bind fun t141 => (some t141)) else (some false)) else (some false))) else (some false))) else (some false))) else (some false))) else (some false)))) = some r := by first | (rw [hy126]; with_reducible exact H) | (have H2_ := (Option.bind_some _ _).symm.trans H; rw [hy126]; with_reducible exact H2_) | (have H2_ := (Option.bind_some _ _).symm.trans H; with_reducible exact H2_) | with_reducible exact H | (rw [hy126]; exact H) | exact H
 have Ny126 := Aside0.mk hy126
 clear hy126
 replace H := Option.bind_eq_some_iff.mp H
 obtain ⟨⟨t129, t130⟩, A10, H⟩ := H
 replace H : ((rope_Sin.f k 8192).bind fun t133 => (if t133 = 11585 then ((rope_Sin.f k 16384).bind fun t134 => (if t134 = 16384 then ((rope_Sin.f k (-16384)).bind fun t135 => (if t135 = (-16384) then ((rope_Cos.f k 0).bind fun t136 => (if t136 = 16384 then ((rope_Angle.f 3 1).bind fun t137 => (if t137 = 12288 then (if t130 = 0 then ((pelotonref04_Bytes.f k t129 (([0, 100] : List Int))).bind fun t141 => (some t141)) else (some false)) else (some false))) else (some false))) else (some false))) else (some false))) else (some false))) = some r := H
 have A1 := Aside0.mk A10
 clear A10
 replace H := Option.bind_eq_some_iff.mp H
 obtain ⟨t133, A20, H⟩ := H
 replace H : (if t133 = 11585 then ((rope_Sin.f k 16384).bind fun t134 => (if t134 = 16384 then ((rope_Sin.f k (-16384)).bind fun t135 => (if t135 = (-16384) then ((rope_Cos.f k 0).bind fun t136 => (if t136 = 16384 then ((rope_Angle.f 3 1).bind fun t137 => (if t137 = 12288 then (if t130 = 0 then ((pelotonref04_Bytes.f k t129 (([0, 100] : List Int))).bind fun t141 => (some t141)) else (some false)) else (some false))) else (some false))) else (some false))) else (some false))) else (some false)) = some r := H
 have A2 := Aside0.mk A20
 clear A20
 by_cases c3 : t133 = 11585
 rotate_left
 ·
  rw [if_neg c3] at H
  have c3b0 : (t133 == 11585) = false := beq_eq_false_iff_ne.mpr c3
  have c3b1 : (t133 != 11585) = true := bne_iff_ne.mpr c3
  obtain rfl := Option.some.inj H
  go_enter Try.func8, Try.ntmps8
  go_wp2_with (first | ((with_reducible refine gate_dst (N := 4) rfl ?_); (try (refine gate_guard (by rfl) ?_; dsimp only)); refine Kd.R_lit (Kd.int .i8) _ 35 ?hg (N := 4) ?hd (xs := ([100, 0] : List Int)) (inner := [.int .i8 100, .int .i8 0]) (ok := fun _ => True) (okp := fun _ => True) ?hr ?hp (fun _ hk => hk) trivial (Below.refl _ _) (Nat.le_refl _) (by simp) ?_; (case hd => rfl); (case hg => rfl); (case hr => first | (go_simp; done) | (go_simp; rfl)); (case hp => exact (Reps.one (show Kd.M (Kd.int .i8) _ _ _ 100 [.int .i8 100] from rfl) (Reps.one (show Kd.M (Kd.int .i8) _ _ _ 0 [.int .i8 0] from rfl) (Reps.none _ _)))); intro v127 w66 ho67 hb hg_ hnew_; clear hg_ hnew_; (first | rw [← Ny126.out] at ho67 | (simp only [Int.reduceToNat] at ho67; rw [← Ny126.out] at ho67)); have HO128 := Aside0.mk (Kd.R_lower ho67 (below_size (bw_ HB))); replace HB := Aside0.mk (below_step (bw_ HB) hb); clear hb ho67; obtain ⟨Ao68, co68, eo68⟩ := Kd.R_slice HO128.out; subst eo68) | ((with_reducible refine gate_callee (f := 15) rfl ?_); refine goesL_ (some 5) rfl rfl Try.func15 (by kernel_rfl) rfl #[.int .i64 2, .slice Ao68 y126.length co68] rfl (by (try simp only [l_4, l_5, l_6]); first | done | rfl | (simp only [l_7, l_8]; rfl)) ?_; (with_reducible refine (rope_Turn.calls k 2 _ _ y126 t129 t130 _ ?side1 ?side2 A1.out).mono ?_); (case side1 => repeat (first | exact (Kd.R_reads' HO128.out).2.2 | (with_reducible refine Kd.C_alloc ?_ _) | (with_reducible refine Kd.C_drewN ?_ _) | (with_reducible refine Kd.C_drew ?_))); (case side2 => exact (Kd.R_reads' HO128.out).2.1); rintro e w69 ⟨v131, rfl, ho0, hb⟩; (try clear A1); refine ⟨_, rfl, ?_⟩; have HO132 := Aside0.mk (Kd.R_lower (Kd.R_new' ho0 (Kd.R_lt (tR_ HO128))) (below_size (bw_ HB))); replace HO128 := Aside0.mk (Kd.R_elder' (tR_ HO128) (Kd.R_base ho0) hb); replace HB := Aside0.mk (below_step (bw_ HB) hb); (try clear hb); (try clear hb2); (try clear hk); (try clear hi); (try clear ho0)) | ((with_reducible refine gate_callee (f := 9) rfl ?_); refine goesL_ (some 8) rfl rfl Try.func9 (by kernel_rfl) rfl #[.int .i64 8192] rfl (by (try simp only [l_4, l_5, l_6]); first | done | rfl | (simp only [l_7, l_8]; rfl)) ?_; (with_reducible refine (rope_Sin.calls k 8192 t133 _ A2.out).mono ?_); rintro e w70 ⟨rfl, hb⟩; (try clear A2); refine ⟨_, rfl, ?_⟩; replace HO128 := Aside0.mk (Kd.R_below (tR_ HO128) hb); replace HO132 := Aside0.mk (Kd.R_below (tR_ HO132) hb); replace HB := Aside0.mk (below_step (bw_ HB) hb); (try clear hb); (try clear hb2); (try clear hk); (try clear hi)))
  go_ret
  exact ⟨by first | rfl | (simp [errW_none, errW_some] <;> rfl) | (simp [*, errW_none, errW_some] <;> rfl), by repeat (first | (with_reducible first | exact HB.out | apply b_a | apply b_n | apply b_d) | exact HB.out)⟩

 rw [if_pos c3] at H
 have c3b0 : (t133 == 11585) = true := beq_iff_eq.mpr c3
 have c3b1 : (t133 != 11585) = false := bne_eq_false_iff_eq.mpr c3
 clear c3
 replace H := Option.bind_eq_some_iff.mp H
 obtain ⟨t134, A40, H⟩ := H
 replace H : (if t134 = 16384 then ((rope_Sin.f k (-16384)).bind fun t135 => (if t135 = (-16384) then ((rope_Cos.f k 0).bind fun t136 => (if t136 = 16384 then ((rope_Angle.f 3 1).bind fun t137 => (if t137 = 12288 then (if t130 = 0 then ((pelotonref04_Bytes.f k t129 (([0, 100] : List Int))).bind fun t141 => (some t141)) else (some false)) else (some false))) else (some false))) else (some false))) else (some false)) = some r := H
 have A4 := Aside0.mk A40
 clear A40
 by_cases c5 : t134 = 16384
 rotate_left
 ·
  rw [if_neg c5] at H
  have c5b0 : (t134 == 16384) = false := beq_eq_false_iff_ne.mpr c5
  have c5b1 : (t134 != 16384) = true := bne_iff_ne.mpr c5
  obtain rfl := Option.some.inj H
  go_enter Try.func8, Try.ntmps8
  go_wp2_with (first | ((with_reducible refine gate_dst (N := 4) rfl ?_); (try (refine gate_guard (by rfl) ?_; dsimp only)); refine Kd.R_lit (Kd.int .i8) _ 35 ?hg (N := 4) ?hd (xs := ([100, 0] : List Int)) (inner := [.int .i8 100, .int .i8 0]) (ok := fun _ => True) (okp := fun _ => True) ?hr ?hp (fun _ hk => hk) trivial (Below.refl _ _) (Nat.le_refl _) (by simp) ?_; (case hd => rfl); (case hg => rfl); (case hr => first | (go_simp; done) | (go_simp; rfl)); (case hp => exact (Reps.one (show Kd.M (Kd.int .i8) _ _ _ 100 [.int .i8 100] from rfl) (Reps.one (show Kd.M (Kd.int .i8) _ _ _ 0 [.int .i8 0] from rfl) (Reps.none _ _)))); intro v127 w60 ho61 hb hg_ hnew_; clear hg_ hnew_; (first | rw [← Ny126.out] at ho61 | (simp only [Int.reduceToNat] at ho61; rw [← Ny126.out] at ho61)); have HO128 := Aside0.mk (Kd.R_lower ho61 (below_size (bw_ HB))); replace HB := Aside0.mk (below_step (bw_ HB) hb); clear hb ho61; obtain ⟨Ao62, co62, eo62⟩ := Kd.R_slice HO128.out; subst eo62) | ((with_reducible refine gate_callee (f := 15) rfl ?_); refine goesL_ (some 5) rfl rfl Try.func15 (by kernel_rfl) rfl #[.int .i64 2, .slice Ao62 y126.length co62] rfl (by (try simp only [l_4, l_5, l_6]); first | done | rfl | (simp only [l_7, l_8]; rfl)) ?_; (with_reducible refine (rope_Turn.calls k 2 _ _ y126 t129 t130 _ ?side1 ?side2 A1.out).mono ?_); (case side1 => repeat (first | exact (Kd.R_reads' HO128.out).2.2 | (with_reducible refine Kd.C_alloc ?_ _) | (with_reducible refine Kd.C_drewN ?_ _) | (with_reducible refine Kd.C_drew ?_))); (case side2 => exact (Kd.R_reads' HO128.out).2.1); rintro e w63 ⟨v131, rfl, ho0, hb⟩; (try clear A1); refine ⟨_, rfl, ?_⟩; have HO132 := Aside0.mk (Kd.R_lower (Kd.R_new' ho0 (Kd.R_lt (tR_ HO128))) (below_size (bw_ HB))); replace HO128 := Aside0.mk (Kd.R_elder' (tR_ HO128) (Kd.R_base ho0) hb); replace HB := Aside0.mk (below_step (bw_ HB) hb); (try clear hb); (try clear hb2); (try clear hk); (try clear hi); (try clear ho0)) | ((with_reducible refine gate_callee (f := 9) rfl ?_); refine goesL_ (some 8) rfl rfl Try.func9 (by kernel_rfl) rfl #[.int .i64 8192] rfl (by (try simp only [l_4, l_5, l_6]); first | done | rfl | (simp only [l_7, l_8]; rfl)) ?_; (with_reducible refine (rope_Sin.calls k 8192 t133 _ A2.out).mono ?_); rintro e w64 ⟨rfl, hb⟩; (try clear A2); refine ⟨_, rfl, ?_⟩; replace HO128 := Aside0.mk (Kd.R_below (tR_ HO128) hb); replace HO132 := Aside0.mk (Kd.R_below (tR_ HO132) hb); replace HB := Aside0.mk (below_step (bw_ HB) hb); (try clear hb); (try clear hb2); (try clear hk); (try clear hi)) | (go_at_call 9; (with_reducible refine (rope_Sin.calls k 16384 t134 _ A4.out).mono ?_); rintro e w65 ⟨rfl, hb⟩; (try clear A4); replace HO128 := Aside0.mk (Kd.R_below (tR_ HO128) hb); replace HO132 := Aside0.mk (Kd.R_below (tR_ HO132) hb); replace HB := Aside0.mk (below_step (bw_ HB) hb); (try clear hb); (try clear hb2); (try clear hk); (try clear hi)))
  go_ret
  exact ⟨by first | rfl | (simp [errW_none, errW_some] <;> rfl) | (simp [*, errW_none, errW_some] <;> rfl), by repeat (first | (with_reducible first | exact HB.out | apply b_a | apply b_n | apply b_d) | exact HB.out)⟩
 rw [if_pos c5] at H
 have c5b0 : (t134 == 16384) = true := beq_iff_eq.mpr c5
 have c5b1 : (t134 != 16384) = false := bne_eq_false_iff_eq.mpr c5
 clear c5
 replace H := Option.bind_eq_some_iff.mp H
 obtain ⟨t135, A60, H⟩ := H
 replace H : (if t135 = (-16384) then ((rope_Cos.f k 0).bind fun t136 => (if t136 = 16384 then ((rope_Angle.f 3 1).bind fun t137 => (if t137 = 12288 then (if t130 = 0 then ((pelotonref04_Bytes.f k t129 (([0, 100] : List Int))).bind fun t141 => (some t141)) else (some false)) else (some false))) else (some false))) else (some false)) = some r := H
 have A6 := Aside0.mk A60
 clear A60
 by_cases c7 : t135 = (-16384)
 rotate_left
 ·
  rw [if_neg c7] at H
  have c7b0 : (t135 == (-16384)) = false := beq_eq_false_iff_ne.mpr c7
  have c7b1 : (t135 != (-16384)) = true := bne_iff_ne.mpr c7
  obtain rfl := Option.some.inj H
  go_enter Try.func8, Try.ntmps8
  go_wp2_with (first | ((with_reducible refine gate_dst (N := 4) rfl ?_); (try (refine gate_guard (by rfl) ?_; dsimp only)); refine Kd.R_lit (Kd.int .i8) _ 35 ?hg (N := 4) ?hd (xs := ([100, 0] : List Int)) (inner := [.int .i8 100, .int .i8 0]) (ok := fun _ => True) (okp := fun _ => True) ?hr ?hp (fun _ hk => hk) trivial (Below.refl _ _) (Nat.le_refl _) (by simp) ?_; (case hd => rfl); (case hg => rfl); (case hr => first | (go_simp; done) | (go_simp; rfl)); (case hp => exact (Reps.one (show Kd.M (Kd.int .i8) _ _ _ 100 [.int .i8 100] from rfl) (Reps.one (show Kd.M (Kd.int .i8) _ _ _ 0 [.int .i8 0] from rfl) (Reps.none _ _)))); intro v127 w53 ho54 hb hg_ hnew_; clear hg_ hnew_; (first | rw [← Ny126.out] at ho54 | (simp only [Int.reduceToNat] at ho54; rw [← Ny126.out] at ho54)); have HO128 := Aside0.mk (Kd.R_lower ho54 (below_size (bw_ HB))); replace HB := Aside0.mk (below_step (bw_ HB) hb); clear hb ho54; obtain ⟨Ao55, co55, eo55⟩ := Kd.R_slice HO128.out; subst eo55) | ((with_reducible refine gate_callee (f := 15) rfl ?_); refine goesL_ (some 5) rfl rfl Try.func15 (by kernel_rfl) rfl #[.int .i64 2, .slice Ao55 y126.length co55] rfl (by (try simp only [l_4, l_5, l_6]); first | done | rfl | (simp only [l_7, l_8]; rfl)) ?_; (with_reducible refine (rope_Turn.calls k 2 _ _ y126 t129 t130 _ ?side1 ?side2 A1.out).mono ?_); (case side1 => repeat (first | exact (Kd.R_reads' HO128.out).2.2 | (with_reducible refine Kd.C_alloc ?_ _) | (with_reducible refine Kd.C_drewN ?_ _) | (with_reducible refine Kd.C_drew ?_))); (case side2 => exact (Kd.R_reads' HO128.out).2.1); rintro e w56 ⟨v131, rfl, ho0, hb⟩; (try clear A1); refine ⟨_, rfl, ?_⟩; have HO132 := Aside0.mk (Kd.R_lower (Kd.R_new' ho0 (Kd.R_lt (tR_ HO128))) (below_size (bw_ HB))); replace HO128 := Aside0.mk (Kd.R_elder' (tR_ HO128) (Kd.R_base ho0) hb); replace HB := Aside0.mk (below_step (bw_ HB) hb); (try clear hb); (try clear hb2); (try clear hk); (try clear hi); (try clear ho0)) | ((with_reducible refine gate_callee (f := 9) rfl ?_); refine goesL_ (some 8) rfl rfl Try.func9 (by kernel_rfl) rfl #[.int .i64 8192] rfl (by (try simp only [l_4, l_5, l_6]); first | done | rfl | (simp only [l_7, l_8]; rfl)) ?_; (with_reducible refine (rope_Sin.calls k 8192 t133 _ A2.out).mono ?_); rintro e w57 ⟨rfl, hb⟩; (try clear A2); refine ⟨_, rfl, ?_⟩; replace HO128 := Aside0.mk (Kd.R_below (tR_ HO128) hb); replace HO132 := Aside0.mk (Kd.R_below (tR_ HO132) hb); replace HB := Aside0.mk (below_step (bw_ HB) hb); (try clear hb); (try clear hb2); (try clear hk); (try clear hi)) | (go_at_call 9; (with_reducible refine (rope_Sin.calls k 16384 t134 _ A4.out).mono ?_); rintro e w58 ⟨rfl, hb⟩; (try clear A4); replace HO128 := Aside0.mk (Kd.R_below (tR_ HO128) hb); replace HO132 := Aside0.mk (Kd.R_below (tR_ HO132) hb); replace HB := Aside0.mk (below_step (bw_ HB) hb); (try clear hb); (try clear hb2); (try clear hk); (try clear hi)) | (go_at_call 9; (with_reducible refine (rope_Sin.calls k (-16384) t135 _ A6.out).mono ?_); rintro e w59 ⟨rfl, hb⟩; (try clear A6); replace HO128 := Aside0.mk (Kd.R_below (tR_ HO128) hb); replace HO132 := Aside0.mk (Kd.R_below (tR_ HO132) hb); replace HB := Aside0.mk (below_step (bw_ HB) hb); (try clear hb); (try clear hb2); (try clear hk); (try clear hi)))
  go_ret
  exact ⟨by first | rfl | (simp [errW_none, errW_some] <;> rfl) | (simp [*, errW_none, errW_some] <;> rfl), by repeat (first | (with_reducible first | exact HB.out | apply b_a | apply b_n | apply b_d) | exact HB.out)⟩
 rw [if_pos c7] at H
 have c7b0 : (t135 == (-16384)) = true := beq_iff_eq.mpr c7
 have c7b1 : (t135 != (-16384)) = false := bne_eq_false_iff_eq.mpr c7
 clear c7
 replace H := Option.bind_eq_some_iff.mp H
 obtain ⟨t136, A80, H⟩ := H
 replace H : (if t136 = 16384 then ((rope_Angle.f 3 1).bind fun t137 => (if t137 = 12288 then (if t130 = 0 then ((pelotonref04_Bytes.f k t129 (([0, 100] : List Int))).bind fun t141 => (some t141)) else (some false)) else (some false))) else (some false)) = some r := H
 have A8 := Aside0.mk A80
 clear A80
 by_cases c9 : t136 = 16384
 rotate_left
 ·
  rw [if_neg c9] at H
  have c9b0 : (t136 == 16384) = false := beq_eq_false_iff_ne.mpr c9
  have c9b1 : (t136 != 16384) = true := bne_iff_ne.mpr c9
  obtain rfl := Option.some.inj H
  go_enter Try.func8, Try.ntmps8
  go_wp2_with (first | ((with_reducible refine gate_dst (N := 4) rfl ?_); (try (refine gate_guard (by rfl) ?_; dsimp only)); refine Kd.R_lit (Kd.int .i8) _ 35 ?hg (N := 4) ?hd (xs := ([100, 0] : List Int)) (inner := [.int .i8 100, .int .i8 0]) (ok := fun _ => True) (okp := fun _ => True) ?hr ?hp (fun _ hk => hk) trivial (Below.refl _ _) (Nat.le_refl _) (by simp) ?_; (case hd => rfl); (case hg => rfl); (case hr => first | (go_simp; done) | (go_simp; rfl)); (case hp => exact (Reps.one (show Kd.M (Kd.int .i8) _ _ _ 100 [.int .i8 100] from rfl) (Reps.one (show Kd.M (Kd.int .i8) _ _ _ 0 [.int .i8 0] from rfl) (Reps.none _ _)))); intro v127 w45 ho46 hb hg_ hnew_; clear hg_ hnew_; (first | rw [← Ny126.out] at ho46 | (simp only [Int.reduceToNat] at ho46; rw [← Ny126.out] at ho46)); have HO128 := Aside0.mk (Kd.R_lower ho46 (below_size (bw_ HB))); replace HB := Aside0.mk (below_step (bw_ HB) hb); clear hb ho46; obtain ⟨Ao47, co47, eo47⟩ := Kd.R_slice HO128.out; subst eo47) | ((with_reducible refine gate_callee (f := 15) rfl ?_); refine goesL_ (some 5) rfl rfl Try.func15 (by kernel_rfl) rfl #[.int .i64 2, .slice Ao47 y126.length co47] rfl (by (try simp only [l_4, l_5, l_6]); first | done | rfl | (simp only [l_7, l_8]; rfl)) ?_; (with_reducible refine (rope_Turn.calls k 2 _ _ y126 t129 t130 _ ?side1 ?side2 A1.out).mono ?_); (case side1 => repeat (first | exact (Kd.R_reads' HO128.out).2.2 | (with_reducible refine Kd.C_alloc ?_ _) | (with_reducible refine Kd.C_drewN ?_ _) | (with_reducible refine Kd.C_drew ?_))); (case side2 => exact (Kd.R_reads' HO128.out).2.1); rintro e w48 ⟨v131, rfl, ho0, hb⟩; (try clear A1); refine ⟨_, rfl, ?_⟩; have HO132 := Aside0.mk (Kd.R_lower (Kd.R_new' ho0 (Kd.R_lt (tR_ HO128))) (below_size (bw_ HB))); replace HO128 := Aside0.mk (Kd.R_elder' (tR_ HO128) (Kd.R_base ho0) hb); replace HB := Aside0.mk (below_step (bw_ HB) hb); (try clear hb); (try clear hb2); (try clear hk); (try clear hi); (try clear ho0)) | ((with_reducible refine gate_callee (f := 9) rfl ?_); refine goesL_ (some 8) rfl rfl Try.func9 (by kernel_rfl) rfl #[.int .i64 8192] rfl (by (try simp only [l_4, l_5, l_6]); first | done | rfl | (simp only [l_7, l_8]; rfl)) ?_; (with_reducible refine (rope_Sin.calls k 8192 t133 _ A2.out).mono ?_); rintro e w49 ⟨rfl, hb⟩; (try clear A2); refine ⟨_, rfl, ?_⟩; replace HO128 := Aside0.mk (Kd.R_below (tR_ HO128) hb); replace HO132 := Aside0.mk (Kd.R_below (tR_ HO132) hb); replace HB := Aside0.mk (below_step (bw_ HB) hb); (try clear hb); (try clear hb2); (try clear hk); (try clear hi)) | (go_at_call 9; (with_reducible refine (rope_Sin.calls k 16384 t134 _ A4.out).mono ?_); rintro e w50 ⟨rfl, hb⟩; (try clear A4); replace HO128 := Aside0.mk (Kd.R_below (tR_ HO128) hb); replace HO132 := Aside0.mk (Kd.R_below (tR_ HO132) hb); replace HB := Aside0.mk (below_step (bw_ HB) hb); (try clear hb); (try clear hb2); (try clear hk); (try clear hi)) | (go_at_call 9; (with_reducible refine (rope_Sin.calls k (-16384) t135 _ A6.out).mono ?_); rintro e w51 ⟨rfl, hb⟩; (try clear A6); replace HO128 := Aside0.mk (Kd.R_below (tR_ HO128) hb); replace HO132 := Aside0.mk (Kd.R_below (tR_ HO132) hb); replace HB := Aside0.mk (below_step (bw_ HB) hb); (try clear hb); (try clear hb2); (try clear hk); (try clear hi)) | (go_at_call 11; (with_reducible refine (rope_Cos.calls k 0 t136 _ A8.out).mono ?_); rintro e w52 ⟨rfl, hb⟩; (try clear A8); replace HO128 := Aside0.mk (Kd.R_below (tR_ HO128) hb); replace HO132 := Aside0.mk (Kd.R_below (tR_ HO132) hb); replace HB := Aside0.mk (below_step (bw_ HB) hb); (try clear hb); (try clear hb2); (try clear hk); (try clear hi)))
  go_ret
  exact ⟨by first | rfl | (simp [errW_none, errW_some] <;> rfl) | (simp [*, errW_none, errW_some] <;> rfl), by repeat (first | (with_reducible first | exact HB.out | apply b_a | apply b_n | apply b_d) | exact HB.out)⟩
 rw [if_pos c9] at H
 have c9b0 : (t136 == 16384) = true := beq_iff_eq.mpr c9
 have c9b1 : (t136 != 16384) = false := bne_eq_false_iff_eq.mpr c9
 clear c9
 replace H := Option.bind_eq_some_iff.mp H
 obtain ⟨t137, A100, H⟩ := H
 replace H : (if t137 = 12288 then (if t130 = 0 then ((pelotonref04_Bytes.f k t129 (([0, 100] : List Int))).bind fun t141 => (some t141)) else (some false)) else (some false)) = some r := H
 have A10 := Aside0.mk A100
 clear A100
 by_cases c11 : t137 = 12288
 rotate_left
 ·
  rw [if_neg c11] at H
  have c11b0 : (t137 == 12288) = false := beq_eq_false_iff_ne.mpr c11
  have c11b1 : (t137 != 12288) = true := bne_iff_ne.mpr c11
  obtain rfl := Option.some.inj H
  go_enter Try.func8, Try.ntmps8
  go_wp2_with (first | ((with_reducible refine gate_dst (N := 4) rfl ?_); (try (refine gate_guard (by rfl) ?_; dsimp only)); refine Kd.R_lit (Kd.int .i8) _ 35 ?hg (N := 4) ?hd (xs := ([100, 0] : List Int)) (inner := [.int .i8 100, .int .i8 0]) (ok := fun _ => True) (okp := fun _ => True) ?hr ?hp (fun _ hk => hk) trivial (Below.refl _ _) (Nat.le_refl _) (by simp) ?_; (case hd => rfl); (case hg => rfl); (case hr => first | (go_simp; done) | (go_simp; rfl)); (case hp => exact (Reps.one (show Kd.M (Kd.int .i8) _ _ _ 100 [.int .i8 100] from rfl) (Reps.one (show Kd.M (Kd.int .i8) _ _ _ 0 [.int .i8 0] from rfl) (Reps.none _ _)))); intro v127 w36 ho37 hb hg_ hnew_; clear hg_ hnew_; (first | rw [← Ny126.out] at ho37 | (simp only [Int.reduceToNat] at ho37; rw [← Ny126.out] at ho37)); have HO128 := Aside0.mk (Kd.R_lower ho37 (below_size (bw_ HB))); replace HB := Aside0.mk (below_step (bw_ HB) hb); clear hb ho37; obtain ⟨Ao38, co38, eo38⟩ := Kd.R_slice HO128.out; subst eo38) | ((with_reducible refine gate_callee (f := 15) rfl ?_); refine goesL_ (some 5) rfl rfl Try.func15 (by kernel_rfl) rfl #[.int .i64 2, .slice Ao38 y126.length co38] rfl (by (try simp only [l_4, l_5, l_6]); first | done | rfl | (simp only [l_7, l_8]; rfl)) ?_; (with_reducible refine (rope_Turn.calls k 2 _ _ y126 t129 t130 _ ?side1 ?side2 A1.out).mono ?_); (case side1 => repeat (first | exact (Kd.R_reads' HO128.out).2.2 | (with_reducible refine Kd.C_alloc ?_ _) | (with_reducible refine Kd.C_drewN ?_ _) | (with_reducible refine Kd.C_drew ?_))); (case side2 => exact (Kd.R_reads' HO128.out).2.1); rintro e w39 ⟨v131, rfl, ho0, hb⟩; (try clear A1); refine ⟨_, rfl, ?_⟩; have HO132 := Aside0.mk (Kd.R_lower (Kd.R_new' ho0 (Kd.R_lt (tR_ HO128))) (below_size (bw_ HB))); replace HO128 := Aside0.mk (Kd.R_elder' (tR_ HO128) (Kd.R_base ho0) hb); replace HB := Aside0.mk (below_step (bw_ HB) hb); (try clear hb); (try clear hb2); (try clear hk); (try clear hi); (try clear ho0)) | ((with_reducible refine gate_callee (f := 9) rfl ?_); refine goesL_ (some 8) rfl rfl Try.func9 (by kernel_rfl) rfl #[.int .i64 8192] rfl (by (try simp only [l_4, l_5, l_6]); first | done | rfl | (simp only [l_7, l_8]; rfl)) ?_; (with_reducible refine (rope_Sin.calls k 8192 t133 _ A2.out).mono ?_); rintro e w40 ⟨rfl, hb⟩; (try clear A2); refine ⟨_, rfl, ?_⟩; replace HO128 := Aside0.mk (Kd.R_below (tR_ HO128) hb); replace HO132 := Aside0.mk (Kd.R_below (tR_ HO132) hb); replace HB := Aside0.mk (below_step (bw_ HB) hb); (try clear hb); (try clear hb2); (try clear hk); (try clear hi)) | (go_at_call 9; (with_reducible refine (rope_Sin.calls k 16384 t134 _ A4.out).mono ?_); rintro e w41 ⟨rfl, hb⟩; (try clear A4); replace HO128 := Aside0.mk (Kd.R_below (tR_ HO128) hb); replace HO132 := Aside0.mk (Kd.R_below (tR_ HO132) hb); replace HB := Aside0.mk (below_step (bw_ HB) hb); (try clear hb); (try clear hb2); (try clear hk); (try clear hi)) | (go_at_call 9; (with_reducible refine (rope_Sin.calls k (-16384) t135 _ A6.out).mono ?_); rintro e w42 ⟨rfl, hb⟩; (try clear A6); replace HO128 := Aside0.mk (Kd.R_below (tR_ HO128) hb); replace HO132 := Aside0.mk (Kd.R_below (tR_ HO132) hb); replace HB := Aside0.mk (below_step (bw_ HB) hb); (try clear hb); (try clear hb2); (try clear hk); (try clear hi)) | (go_at_call 11; (with_reducible refine (rope_Cos.calls k 0 t136 _ A8.out).mono ?_); rintro e w43 ⟨rfl, hb⟩; (try clear A8); replace HO128 := Aside0.mk (Kd.R_below (tR_ HO128) hb); replace HO132 := Aside0.mk (Kd.R_below (tR_ HO132) hb); replace HB := Aside0.mk (below_step (bw_ HB) hb); (try clear hb); (try clear hb2); (try clear hk); (try clear hi)) | (go_at_call 13; (with_reducible refine (rope_Angle.calls 3 1 t137 _ A10.out).mono ?_); rintro e w44 ⟨rfl, hb⟩; (try clear A10); replace HO128 := Aside0.mk (Kd.R_below (tR_ HO128) hb); replace HO132 := Aside0.mk (Kd.R_below (tR_ HO132) hb); replace HB := Aside0.mk (below_step (bw_ HB) hb); (try clear hb); (try clear hb2); (try clear hk); (try clear hi)))
  go_ret
  exact ⟨by first | rfl | (simp [errW_none, errW_some] <;> rfl) | (simp [*, errW_none, errW_some] <;> rfl), by repeat (first | (with_reducible first | exact HB.out | apply b_a | apply b_n | apply b_d) | exact HB.out)⟩
 rw [if_pos c11] at H
 have c11b0 : (t137 == 12288) = true := beq_iff_eq.mpr c11
 have c11b1 : (t137 != 12288) = false := bne_eq_false_iff_eq.mpr c11
 clear c11
 by_cases c12 : t130 = 0
 rotate_left
 ·
  rw [if_neg c12] at H
  have c12b0 : (t130 == 0) = false := beq_eq_false_iff_ne.mpr c12
  have c12b1 : (t130 != 0) = true := bne_iff_ne.mpr c12
  obtain rfl := Option.some.inj H
  go_enter Try.func8, Try.ntmps8
  go_wp2_with (first | ((with_reducible refine gate_dst (N := 4) rfl ?_); (try (refine gate_guard (by rfl) ?_; dsimp only)); refine Kd.R_lit (Kd.int .i8) _ 35 ?hg (N := 4) ?hd (xs := ([100, 0] : List Int)) (inner := [.int .i8 100, .int .i8 0]) (ok := fun _ => True) (okp := fun _ => True) ?hr ?hp (fun _ hk => hk) trivial (Below.refl _ _) (Nat.le_refl _) (by simp) ?_; (case hd => rfl); (case hg => rfl); (case hr => first | (go_simp; done) | (go_simp; rfl)); (case hp => exact (Reps.one (show Kd.M (Kd.int .i8) _ _ _ 100 [.int .i8 100] from rfl) (Reps.one (show Kd.M (Kd.int .i8) _ _ _ 0 [.int .i8 0] from rfl) (Reps.none _ _)))); intro v127 w27 ho28 hb hg_ hnew_; clear hg_ hnew_; (first | rw [← Ny126.out] at ho28 | (simp only [Int.reduceToNat] at ho28; rw [← Ny126.out] at ho28)); have HO128 := Aside0.mk (Kd.R_lower ho28 (below_size (bw_ HB))); replace HB := Aside0.mk (below_step (bw_ HB) hb); clear hb ho28; obtain ⟨Ao29, co29, eo29⟩ := Kd.R_slice HO128.out; subst eo29) | ((with_reducible refine gate_callee (f := 15) rfl ?_); refine goesL_ (some 5) rfl rfl Try.func15 (by kernel_rfl) rfl #[.int .i64 2, .slice Ao29 y126.length co29] rfl (by (try simp only [l_4, l_5, l_6]); first | done | rfl | (simp only [l_7, l_8]; rfl)) ?_; (with_reducible refine (rope_Turn.calls k 2 _ _ y126 t129 t130 _ ?side1 ?side2 A1.out).mono ?_); (case side1 => repeat (first | exact (Kd.R_reads' HO128.out).2.2 | (with_reducible refine Kd.C_alloc ?_ _) | (with_reducible refine Kd.C_drewN ?_ _) | (with_reducible refine Kd.C_drew ?_))); (case side2 => exact (Kd.R_reads' HO128.out).2.1); rintro e w30 ⟨v131, rfl, ho0, hb⟩; (try clear A1); refine ⟨_, rfl, ?_⟩; have HO132 := Aside0.mk (Kd.R_lower (Kd.R_new' ho0 (Kd.R_lt (tR_ HO128))) (below_size (bw_ HB))); replace HO128 := Aside0.mk (Kd.R_elder' (tR_ HO128) (Kd.R_base ho0) hb); replace HB := Aside0.mk (below_step (bw_ HB) hb); (try clear hb); (try clear hb2); (try clear hk); (try clear hi); (try clear ho0)) | ((with_reducible refine gate_callee (f := 9) rfl ?_); refine goesL_ (some 8) rfl rfl Try.func9 (by kernel_rfl) rfl #[.int .i64 8192] rfl (by (try simp only [l_4, l_5, l_6]); first | done | rfl | (simp only [l_7, l_8]; rfl)) ?_; (with_reducible refine (rope_Sin.calls k 8192 t133 _ A2.out).mono ?_); rintro e w31 ⟨rfl, hb⟩; (try clear A2); refine ⟨_, rfl, ?_⟩; replace HO128 := Aside0.mk (Kd.R_below (tR_ HO128) hb); replace HO132 := Aside0.mk (Kd.R_below (tR_ HO132) hb); replace HB := Aside0.mk (below_step (bw_ HB) hb); (try clear hb); (try clear hb2); (try clear hk); (try clear hi)) | (go_at_call 9; (with_reducible refine (rope_Sin.calls k 16384 t134 _ A4.out).mono ?_); rintro e w32 ⟨rfl, hb⟩; (try clear A4); replace HO128 := Aside0.mk (Kd.R_below (tR_ HO128) hb); replace HO132 := Aside0.mk (Kd.R_below (tR_ HO132) hb); replace HB := Aside0.mk (below_step (bw_ HB) hb); (try clear hb); (try clear hb2); (try clear hk); (try clear hi)) | (go_at_call 9; (with_reducible refine (rope_Sin.calls k (-16384) t135 _ A6.out).mono ?_); rintro e w33 ⟨rfl, hb⟩; (try clear A6); replace HO128 := Aside0.mk (Kd.R_below (tR_ HO128) hb); replace HO132 := Aside0.mk (Kd.R_below (tR_ HO132) hb); replace HB := Aside0.mk (below_step (bw_ HB) hb); (try clear hb); (try clear hb2); (try clear hk); (try clear hi)) | (go_at_call 11; (with_reducible refine (rope_Cos.calls k 0 t136 _ A8.out).mono ?_); rintro e w34 ⟨rfl, hb⟩; (try clear A8); replace HO128 := Aside0.mk (Kd.R_below (tR_ HO128) hb); replace HO132 := Aside0.mk (Kd.R_below (tR_ HO132) hb); replace HB := Aside0.mk (below_step (bw_ HB) hb); (try clear hb); (try clear hb2); (try clear hk); (try clear hi)) | (go_at_call 13; (with_reducible refine (rope_Angle.calls 3 1 t137 _ A10.out).mono ?_); rintro e w35 ⟨rfl, hb⟩; (try clear A10); replace HO128 := Aside0.mk (Kd.R_below (tR_ HO128) hb); replace HO132 := Aside0.mk (Kd.R_below (tR_ HO132) hb); replace HB := Aside0.mk (below_step (bw_ HB) hb); (try clear hb); (try clear hb2); (try clear hk); (try clear hi)))
  go_ret
  exact ⟨by first | rfl | (simp [errW_none, errW_some] <;> rfl) | (simp [*, errW_none, errW_some] <;> rfl), by repeat (first | (with_reducible first | exact HB.out | apply b_a | apply b_n | apply b_d) | exact HB.out)⟩
 rw [if_pos c12] at H
 have c12b0 : (t130 == 0) = true := beq_iff_eq.mpr c12
 have c12b1 : (t130 != 0) = false := bne_eq_false_iff_eq.mpr c12
 clear c12
 obtain ⟨y138, hy138⟩ : ∃ y_ : List Int, y_ = (([0, 100] : List Int)) := ⟨_, rfl⟩
 replace H : ((pelotonref04_Bytes.f k t129 y138).bind fun t141 => (some t141)) = some r := by first | (rw [hy138]; with_reducible exact H) | (have H2_ := (Option.bind_some _ _).symm.trans H; rw [hy138]; with_reducible exact H2_) | (have H2_ := (Option.bind_some _ _).symm.trans H; with_reducible exact H2_) | with_reducible exact H | (rw [hy138]; exact H) | exact H
 have Ny138 := Aside0.mk hy138
 clear hy138
 replace H := Option.bind_eq_some_iff.mp H
 obtain ⟨t141, A130, H⟩ := H
 replace H : (some t141) = some r := H
 have A13 := Aside0.mk A130
 clear A130
 obtain rfl := Option.some.inj H
 go_enter Try.func8, Try.ntmps8
 go_wp2_with (first | ((with_reducible refine gate_dst (N := 4) rfl ?_); (try (refine gate_guard (by rfl) ?_; dsimp only)); refine Kd.R_lit (Kd.int .i8) _ 35 ?hg (N := 4) ?hd (xs := ([100, 0] : List Int)) (inner := [.int .i8 100, .int .i8 0]) (ok := fun _ => True) (okp := fun _ => True) ?hr ?hp (fun _ hk => hk) trivial (Below.refl _ _) (Nat.le_refl _) (by simp) ?_; (case hd => rfl); (case hg => rfl); (case hr => first | (go_simp; done) | (go_simp; rfl)); (case hp => exact (Reps.one (show Kd.M (Kd.int .i8) _ _ _ 100 [.int .i8 100] from rfl) (Reps.one (show Kd.M (Kd.int .i8) _ _ _ 0 [.int .i8 0] from rfl) (Reps.none _ _)))); intro v127 w14 ho15 hb hg_ hnew_; clear hg_ hnew_; (first | rw [← Ny126.out] at ho15 | (simp only [Int.reduceToNat] at ho15; rw [← Ny126.out] at ho15)); have HO128 := Aside0.mk (Kd.R_lower ho15 (below_size (bw_ HB))); replace HB := Aside0.mk (below_step (bw_ HB) hb); clear hb ho15; obtain ⟨Ao16, co16, eo16⟩ := Kd.R_slice HO128.out; subst eo16) | ((with_reducible refine gate_callee (f := 15) rfl ?_); refine goesL_ (some 5) rfl rfl Try.func15 (by kernel_rfl) rfl #[.int .i64 2, .slice Ao16 y126.length co16] rfl (by (try simp only [l_4, l_5, l_6]); first | done | rfl | (simp only [l_7, l_8]; rfl)) ?_; (with_reducible refine (rope_Turn.calls k 2 _ _ y126 t129 t130 _ ?side1 ?side2 A1.out).mono ?_); (case side1 => repeat (first | exact (Kd.R_reads' HO128.out).2.2 | (with_reducible refine Kd.C_alloc ?_ _) | (with_reducible refine Kd.C_drewN ?_ _) | (with_reducible refine Kd.C_drew ?_))); (case side2 => exact (Kd.R_reads' HO128.out).2.1); rintro e w17 ⟨v131, rfl, ho0, hb⟩; (try clear A1); refine ⟨_, rfl, ?_⟩; have HO132 := Aside0.mk (Kd.R_lower (Kd.R_new' ho0 (Kd.R_lt (tR_ HO128))) (below_size (bw_ HB))); replace HO128 := Aside0.mk (Kd.R_elder' (tR_ HO128) (Kd.R_base ho0) hb); replace HB := Aside0.mk (below_step (bw_ HB) hb); (try clear hb); (try clear hb2); (try clear hk); (try clear hi); (try clear ho0)) | ((with_reducible refine gate_callee (f := 9) rfl ?_); refine goesL_ (some 8) rfl rfl Try.func9 (by kernel_rfl) rfl #[.int .i64 8192] rfl (by (try simp only [l_4, l_5, l_6]); first | done | rfl | (simp only [l_7, l_8]; rfl)) ?_; (with_reducible refine (rope_Sin.calls k 8192 t133 _ A2.out).mono ?_); rintro e w18 ⟨rfl, hb⟩; (try clear A2); refine ⟨_, rfl, ?_⟩; replace HO128 := Aside0.mk (Kd.R_below (tR_ HO128) hb); replace HO132 := Aside0.mk (Kd.R_below (tR_ HO132) hb); replace HB := Aside0.mk (below_step (bw_ HB) hb); (try clear hb); (try clear hb2); (try clear hk); (try clear hi)) | (go_at_call 9; (with_reducible refine (rope_Sin.calls k 16384 t134 _ A4.out).mono ?_); rintro e w19 ⟨rfl, hb⟩; (try clear A4); replace HO128 := Aside0.mk (Kd.R_below (tR_ HO128) hb); replace HO132 := Aside0.mk (Kd.R_below (tR_ HO132) hb); replace HB := Aside0.mk (below_step (bw_ HB) hb); (try clear hb); (try clear hb2); (try clear hk); (try clear hi)) | (go_at_call 9; (with_reducible refine (rope_Sin.calls k (-16384) t135 _ A6.out).mono ?_); rintro e w20 ⟨rfl, hb⟩; (try clear A6); replace HO128 := Aside0.mk (Kd.R_below (tR_ HO128) hb); replace HO132 := Aside0.mk (Kd.R_below (tR_ HO132) hb); replace HB := Aside0.mk (below_step (bw_ HB) hb); (try clear hb); (try clear hb2); (try clear hk); (try clear hi)) | (go_at_call 11; (with_reducible refine (rope_Cos.calls k 0 t136 _ A8.out).mono ?_); rintro e w21 ⟨rfl, hb⟩; (try clear A8); replace HO128 := Aside0.mk (Kd.R_below (tR_ HO128) hb); replace HO132 := Aside0.mk (Kd.R_below (tR_ HO132) hb); replace HB := Aside0.mk (below_step (bw_ HB) hb); (try clear hb); (try clear hb2); (try clear hk); (try clear hi)) | (go_at_call 13; (with_reducible refine (rope_Angle.calls 3 1 t137 _ A10.out).mono ?_); rintro e w22 ⟨rfl, hb⟩; (try clear A10); replace HO128 := Aside0.mk (Kd.R_below (tR_ HO128) hb); replace HO132 := Aside0.mk (Kd.R_below (tR_ HO132) hb); replace HB := Aside0.mk (below_step (bw_ HB) hb); (try clear hb); (try clear hb2); (try clear hk); (try clear hi)) | ((with_reducible refine gate_dst (N := 32) rfl ?_); (try (refine gate_guard (by rfl) ?_; dsimp only)); refine Kd.R_lit (Kd.int .i8) _ 35 ?hg (N := 32) ?hd (xs := ([0, 100] : List Int)) (inner := [.int .i8 0, .int .i8 100]) (ok := fun _ => True) (okp := fun _ => True) ?hr ?hp (fun _ hk => hk) trivial (Below.refl _ _) (Nat.le_refl _) (by simp) ?_; (case hd => rfl); (case hg => rfl); (case hr => first | (go_simp; done) | (go_simp; rfl)); (case hp => exact (Reps.one (show Kd.M (Kd.int .i8) _ _ _ 0 [.int .i8 0] from rfl) (Reps.one (show Kd.M (Kd.int .i8) _ _ _ 100 [.int .i8 100] from rfl) (Reps.none _ _)))); intro v139 w23 ho24 hb hg_ hnew_; clear hg_ hnew_; (first | rw [← Ny138.out] at ho24 | (simp only [Int.reduceToNat] at ho24; rw [← Ny138.out] at ho24)); have HO140 := Aside0.mk (Kd.R_lower (Kd.R_new' (Kd.R_new' ho24 (Kd.R_lt (tR_ HO128))) (Kd.R_lt (tR_ HO132))) (below_size (bw_ HB))); replace HO128 := Aside0.mk (Kd.R_elder' (tR_ HO128) (Kd.R_base ho24) hb); replace HO132 := Aside0.mk (Kd.R_elder' (tR_ HO132) (Kd.R_base ho24) hb); replace HB := Aside0.mk (below_step (bw_ HB) hb); clear hb ho24; obtain ⟨Ao25, co25, eo25⟩ := Kd.R_slice HO132.out; subst eo25; obtain ⟨Ao26, co26, eo26⟩ := Kd.R_slice HO140.out; subst eo26) | (go_at_call 16; (with_reducible refine (pelotonref04_Bytes.calls k _ _ t129 _ _ y138 t141 _ ?side1 ?side2 ?side3 ?side4 A13.out).mono ?_); (case side1 => repeat (first | exact (Kd.R_reads' HO132.out).2.2 | (with_reducible refine Kd.C_alloc ?_ _) | (with_reducible refine Kd.C_drewN ?_ _) | (with_reducible refine Kd.C_drew ?_))); (case side2 => exact (Kd.R_reads' HO132.out).2.1); (case side3 => repeat (first | exact (Kd.R_reads' HO140.out).2.2 | (with_reducible refine Kd.C_alloc ?_ _) | (with_reducible refine Kd.C_drewN ?_ _) | (with_reducible refine Kd.C_drew ?_))); (case side4 => exact (Kd.R_reads' HO140.out).2.1); rintro e w' ⟨rfl, ⟨nd, rfl⟩⟩))
 go_ret
 exact ⟨by first | rfl | (simp [errW_none, errW_some] <;> rfl) | (simp [*, errW_none, errW_some] <;> rfl), by repeat (first | (with_reducible first | exact HB.out | apply b_a | apply b_n | apply b_d) | exact HB.out)⟩
/-! ### pelotonref06_rest: function 21 -/
def pelotonref06_rest.f (a0 : Int) : Option (Int) := if (Int.tmod a0 65536) < 0 then (some (wrap64 ((Int.tmod a0 65536) + 65536))) else (some (Int.tmod a0 65536))
set_option maxHeartbeats 60000000 in
set_option maxRecDepth 100000 in
theorem pelotonref06_rest.calls (a0 : Int) (r : Int) (w : World) (h : pelotonref06_rest.f a0 = some r) :
  Calls Try.prog 21 #[.int .i64 a0] w fun e w' => e = .returned (.int .i64 r) ∧ Drawn0 w w' := by
 have H : (if (Int.tmod a0 65536) < 0 then (some (wrap64 ((Int.tmod a0 65536) + 65536))) else (some (Int.tmod a0 65536))) = some r := h
 clear h
 by_cases c2 : (Int.tmod a0 65536) < 0
 ·
  rw [if_pos c2] at H
  have c2b0 : decide ((Int.tmod a0 65536) < 0) = true := decide_eq_true c2
  clear c2
  obtain rfl := Option.some.inj H
  go_enter Try.func21, Try.ntmps21
  go_wp2
  go_ret
  exact ⟨by first | rfl | (simp; done) | (simp [*]; done), by repeat (first | exact Drawn0.refl _ | apply Drawn0.step)⟩
 rw [if_neg c2] at H
 have c2b0 : decide ((Int.tmod a0 65536) < 0) = false := decide_eq_false c2
 clear c2
 obtain rfl := Option.some.inj H
 go_enter Try.func21, Try.ntmps21
 go_wp2
 go_ret
 exact ⟨by first | rfl | (simp; done) | (simp [*]; done), by repeat (first | exact Drawn0.refl _ | apply Drawn0.step)⟩

/-! ### pelotonref06_S: function 22 -/
def pelotonref06_S.f (a0 : Int) : Option (Int) := (some (([0, 804, 1606, 2404, 3196, 3981, 4756, 5520, 6270, 7005, 7723, 8423, 9102, 9760, 10394, 11003, 11585, 12140, 12665, 13160, 13623, 14053, 14449, 14811, 15137, 15426, 15679, 15893, 16069, 16207, 16305, 16364, 16384] : List Int) : List Int)).bind fun y142 => (if 0 ≤ a0 then (if a0 < (y142.length : Int) then (some (rd y142 a0)) else (none)) else (none))
set_option maxHeartbeats 60000000 in
set_option maxRecDepth 100000 in
theorem pelotonref06_S.calls (a0 : Int) (r : Int) (w : World) (h : pelotonref06_S.f a0 = some r) :
  Calls Try.prog 22 #[.int .i64 a0] w fun e w' => e = .returned (.int .i64 r) ∧ Below w.heap.size w w' := by
 have HB := Aside0.mk (Below.refl w.heap.size w)
 have H : ((some (([0, 804, 1606, 2404, 3196, 3981, 4756, 5520, 6270, 7005, 7723, 8423, 9102, 9760, 10394, 11003, 11585, 12140, 12665, 13160, 13623, 14053, 14449, 14811, 15137, 15426, 15679, 15893, 16069, 16207, 16305, 16364, 16384] : List Int) : List Int)).bind fun y142 => (if 0 ≤ a0 then (if a0 < (y142.length : Int) then (some (rd y142 a0)) else (none)) else (none))) = some r := h
 clear h
 obtain ⟨y142, hy142⟩ : ∃ y_ : List Int, y_ = (([0, 804, 1606, 2404, 3196, 3981, 4756, 5520, 6270, 7005, 7723, 8423, 9102, 9760, 10394, 11003, 11585, 12140, 12665, 13160, 13623, 14053, 14449, 14811, 15137, 15426, 15679, 15893, 16069, 16207, 16305, 16364, 16384] : List Int)) := ⟨_, rfl⟩
 replace H : (if 0 ≤ a0 then (if a0 < (y142.length : Int) then (some (rd y142 a0)) else (none)) else (none)) = some r := by first | (rw [hy142]; with_reducible exact H) | (have H2_ := (Option.bind_some _ _).symm.trans H; rw [hy142]; with_reducible exact H2_) | (have H2_ := (Option.bind_some _ _).symm.trans H; with_reducible exact H2_) | with_reducible exact H | (rw [hy142]; exact H) | exact H
 have Ny142 := Aside0.mk hy142
 clear hy142
 by_cases c2 : 0 ≤ a0
 rotate_left
 ·
  rw [if_neg c2] at H
  exact absurd H (by simp)

 rw [if_pos c2] at H
 have c2b0 : decide (0 ≤ a0) = true := decide_eq_true c2
 clear c2
 by_cases c3 : a0 < (y142.length : Int)
 rotate_left
 ·
  rw [if_neg c3] at H
  exact absurd H (by simp)
 rw [if_pos c3] at H
 have c3b0 : decide (a0 < (y142.length : Int)) = true := decide_eq_true c3
 clear c3
 obtain rfl := Option.some.inj H
 go_enter Try.func22, Try.ntmps22
 go_wp2_with (first | ((with_reducible refine gate_dst (N := 4) rfl ?_); refine Kd.R_lit (Kd.int .i64) _ 2 ?hg (N := 4) ?hd (xs := ([0, 804, 1606, 2404, 3196, 3981, 4756, 5520, 6270, 7005, 7723, 8423, 9102, 9760, 10394, 11003, 11585, 12140, 12665, 13160, 13623, 14053, 14449, 14811, 15137, 15426, 15679, 15893, 16069, 16207, 16305, 16364, 16384] : List Int)) (inner := [.int .i64 0, .int .i64 804, .int .i64 1606, .int .i64 2404, .int .i64 3196, .int .i64 3981, .int .i64 4756, .int .i64 5520, .int .i64 6270, .int .i64 7005, .int .i64 7723, .int .i64 8423, .int .i64 9102, .int .i64 9760, .int .i64 10394, .int .i64 11003, .int .i64 11585, .int .i64 12140, .int .i64 12665, .int .i64 13160, .int .i64 13623, .int .i64 14053, .int .i64 14449, .int .i64 14811, .int .i64 15137, .int .i64 15426, .int .i64 15679, .int .i64 15893, .int .i64 16069, .int .i64 16207, .int .i64 16305, .int .i64 16364, .int .i64 16384]) (ok := fun _ => True) (okp := fun _ => True) ?hr ?hp (fun _ hk => hk) trivial (Below.refl _ _) (Nat.le_refl _) (by simp) ?_; (case hd => rfl); (case hg => rfl); (case hr => first | (go_simp; done) | (go_simp; rfl)); (case hp => exact (Reps.one (show Kd.M (Kd.int .i64) _ _ _ 0 [.int .i64 0] from rfl) (Reps.one (show Kd.M (Kd.int .i64) _ _ _ 804 [.int .i64 804] from rfl) (Reps.one (show Kd.M (Kd.int .i64) _ _ _ 1606 [.int .i64 1606] from rfl) (Reps.one (show Kd.M (Kd.int .i64) _ _ _ 2404 [.int .i64 2404] from rfl) (Reps.one (show Kd.M (Kd.int .i64) _ _ _ 3196 [.int .i64 3196] from rfl) (Reps.one (show Kd.M (Kd.int .i64) _ _ _ 3981 [.int .i64 3981] from rfl) (Reps.one (show Kd.M (Kd.int .i64) _ _ _ 4756 [.int .i64 4756] from rfl) (Reps.one (show Kd.M (Kd.int .i64) _ _ _ 5520 [.int .i64 5520] from rfl) (Reps.one (show Kd.M (Kd.int .i64) _ _ _ 6270 [.int .i64 6270] from rfl) (Reps.one (show Kd.M (Kd.int .i64) _ _ _ 7005 [.int .i64 7005] from rfl) (Reps.one (show Kd.M (Kd.int .i64) _ _ _ 7723 [.int .i64 7723] from rfl) (Reps.one (show Kd.M (Kd.int .i64) _ _ _ 8423 [.int .i64 8423] from rfl) (Reps.one (show Kd.M (Kd.int .i64) _ _ _ 9102 [.int .i64 9102] from rfl) (Reps.one (show Kd.M (Kd.int .i64) _ _ _ 9760 [.int .i64 9760] from rfl) (Reps.one (show Kd.M (Kd.int .i64) _ _ _ 10394 [.int .i64 10394] from rfl) (Reps.one (show Kd.M (Kd.int .i64) _ _ _ 11003 [.int .i64 11003] from rfl) (Reps.one (show Kd.M (Kd.int .i64) _ _ _ 11585 [.int .i64 11585] from rfl) (Reps.one (show Kd.M (Kd.int .i64) _ _ _ 12140 [.int .i64 12140] from rfl) (Reps.one (show Kd.M (Kd.int .i64) _ _ _ 12665 [.int .i64 12665] from rfl) (Reps.one (show Kd.M (Kd.int .i64) _ _ _ 13160 [.int .i64 13160] from rfl) (Reps.one (show Kd.M (Kd.int .i64) _ _ _ 13623 [.int .i64 13623] from rfl) (Reps.one (show Kd.M (Kd.int .i64) _ _ _ 14053 [.int .i64 14053] from rfl) (Reps.one (show Kd.M (Kd.int .i64) _ _ _ 14449 [.int .i64 14449] from rfl) (Reps.one (show Kd.M (Kd.int .i64) _ _ _ 14811 [.int .i64 14811] from rfl) (Reps.one (show Kd.M (Kd.int .i64) _ _ _ 15137 [.int .i64 15137] from rfl) (Reps.one (show Kd.M (Kd.int .i64) _ _ _ 15426 [.int .i64 15426] from rfl) (Reps.one (show Kd.M (Kd.int .i64) _ _ _ 15679 [.int .i64 15679] from rfl) (Reps.one (show Kd.M (Kd.int .i64) _ _ _ 15893 [.int .i64 15893] from rfl) (Reps.one (show Kd.M (Kd.int .i64) _ _ _ 16069 [.int .i64 16069] from rfl) (Reps.one (show Kd.M (Kd.int .i64) _ _ _ 16207 [.int .i64 16207] from rfl) (Reps.one (show Kd.M (Kd.int .i64) _ _ _ 16305 [.int .i64 16305] from rfl) (Reps.one (show Kd.M (Kd.int .i64) _ _ _ 16364 [.int .i64 16364] from rfl) (Reps.one (show Kd.M (Kd.int .i64) _ _ _ 16384 [.int .i64 16384] from rfl) (Reps.none _ _))))))))))))))))))))))))))))))))))); intro v143 w4 ho5 hb hg_ hnew_; clear hg_ hnew_; (first | rw [← Ny142.out] at ho5 | (simp only [Int.reduceToNat] at ho5; rw [← Ny142.out] at ho5)); have HO144 := Aside0.mk (Kd.R_lower ho5 (below_size (bw_ HB))); replace HB := Aside0.mk (below_step (bw_ HB) hb); clear hb ho5; obtain ⟨Ao6, co6, eo6⟩ := Kd.R_slice HO144.out; subst eo6; have p145 : 0 ≤ (a0 : Int) := of_decide_eq_true (by first | (with_reducible assumption) | assumption); have q145 : a0 < (y142.length : Int) := of_decide_eq_true (by first | (with_reducible assumption) | assumption); obtain ⟨ad145, e145, hx145_0⟩ := Kd.at_int (Kd.R_reads' HO144.out).2.2 a0 p145 q145; cases e145; replace p145 := eq_true p145; replace q145 := eq_true q145))
 go_ret
 exact ⟨by first | rfl | (simp [errW_none, errW_some] <;> rfl) | (simp [*, errW_none, errW_some] <;> rfl), by repeat (first | (with_reducible first | exact HB.out | apply b_a | apply b_n | apply b_d) | exact HB.out)⟩
end Go.Proofs.Ytplndicghohpbaa.QRopeTables
