-- Written by a program of this session (a turned copy of the print) out of the translation. Lean checks it.
import Derived.Test.YtplndicghohpbaaQRopeTablesx0
import Derived.Test.YtplndicghohpbaaQRopeTablesx2
namespace Go.Proofs.Ytplndicghohpbaa.QRopeTables
open Go.RowKit Go.Proofs.YtplndicghohpbaaW.PrintWords Go.Proofs.YtplndicghohpbaaW.PrintLast Go.Proofs.YtplndicghohpbaaW.PrintMore
attribute [local go_sem] max2_int min2_int max_two min_two max_three min_three max_four min_four   -- for this text's walks alone
open Go.Proofs.YtplndicghohpbaaW.PrintWords renaming below_alloc → b_a, pw_below_drewN → b_n, below_drew1 → b_d, below_set → b_s, blk_drewN → k_n, blk_drew → k_d, blk_alloc → k_a
open List renaming setIfInBounds_toArray → l_1, set_cons_zero → l_2, set_cons_succ → l_3, map_toArray → l_4, map_cons → l_5, map_nil → l_6, length_drop → l_7, length_take → l_8
set_option linter.unusedVariables false
set_option linter.unusedSimpArgs false

/-! ### pelotonref01_Shift: function 23 -/
mutual
def pelotonref01_Shift.j0 : Nat → Int → Int → Option (Int)
 | 0, _, _ => none
 | k + 1, x0, x1 => if x1 ≤ 0 then (some x0) else (pelotonref01_Shift.l0 k x0 x1 1 0)
def pelotonref01_Shift.l0 : Nat → Int → Int → Int → Int → Option (Int)
 | 0, _, _, _, _ => none
 | k + 1, x0, x1, x5, x6 => if x6 < x1 then (pelotonref01_Shift.l0 k x0 x1 (wrap64 (x5 * 2)) (wrap64 (x6 + 1))) else (if x5 = 0 then (none) else (if (Int.tmod x0 x5) < 0 then (if (wrap64 ((Int.tmod x0 x5) + x5)) > (wrap64 (x5 - (wrap64 ((Int.tmod x0 x5) + x5)))) then (some (wrap64 ((wrap64 ((wrap64 (Int.tdiv x0 x5)) - 1)) + 1))) else (if (wrap64 ((Int.tmod x0 x5) + x5)) = (wrap64 (x5 - (wrap64 ((Int.tmod x0 x5) + x5)))) then (if (Int.tmod (wrap64 ((wrap64 (Int.tdiv x0 x5)) - 1)) 2) = 0 then (some (wrap64 ((wrap64 (Int.tdiv x0 x5)) - 1))) else (some (wrap64 ((wrap64 ((wrap64 (Int.tdiv x0 x5)) - 1)) + 1)))) else (some (wrap64 ((wrap64 (Int.tdiv x0 x5)) - 1))))) else (if (Int.tmod x0 x5) > (wrap64 (x5 - (Int.tmod x0 x5))) then (some (wrap64 ((wrap64 (Int.tdiv x0 x5)) + 1))) else (if (Int.tmod x0 x5) = (wrap64 (x5 - (Int.tmod x0 x5))) then (if (Int.tmod (wrap64 (Int.tdiv x0 x5)) 2) = 0 then (some (wrap64 (Int.tdiv x0 x5))) else (some (wrap64 ((wrap64 (Int.tdiv x0 x5)) + 1)))) else (some (wrap64 (Int.tdiv x0 x5)))))))
end
def pelotonref01_Shift.f (k : Nat) (a0 : Int) (a1 : Int) : Option (Int) := if a1 > 62 then (pelotonref01_Shift.j0 k a0 62) else (pelotonref01_Shift.j0 k a0 a1)
theorem pelotonref01_Shift.mono_l : ∀ k, (∀ y0 y1, LeO (pelotonref01_Shift.j0 k y0 y1) (pelotonref01_Shift.j0 (k + 1) y0 y1)) ∧ (∀ y0 y1 y2 y3, LeO (pelotonref01_Shift.l0 k y0 y1 y2 y3) (pelotonref01_Shift.l0 (k + 1) y0 y1 y2 y3))
 | 0 => ⟨fun _ _ r h => by simp [pelotonref01_Shift.j0] at h, fun _ _ _ _ r h => by simp [pelotonref01_Shift.l0] at h⟩
 | k + 1 => by
  obtain ⟨ih0, ih1⟩ := pelotonref01_Shift.mono_l k
  refine ⟨?_, ?_⟩
  ·
   intro y0 y1
   unfold pelotonref01_Shift.j0
   repeat' first
   | (with_reducible exact ih0 _ _)
   | (with_reducible exact ih1 _ _ _ _)
   | (with_reducible exact LeO.refl _)
   | (with_reducible exact LeO.none _)
   | (with_reducible refine LeO.ite ?_ ?_)
   | (with_reducible refine LeO.bind ?_ (fun _ => ?_))
   | exact ih0 _ _
   | exact ih1 _ _ _ _
   | exact LeO.none _
   | refine LeO.ite ?_ ?_
   | refine LeO.bind ?_ (fun _ => ?_)
  ·
   intro y0 y1 y2 y3
   unfold pelotonref01_Shift.l0
   repeat' first
   | (with_reducible exact ih0 _ _)
   | (with_reducible exact ih1 _ _ _ _)
   | (with_reducible exact LeO.refl _)
   | (with_reducible exact LeO.none _)
   | (with_reducible refine LeO.ite ?_ ?_)
   | (with_reducible refine LeO.bind ?_ (fun _ => ?_))
   | exact ih0 _ _
   | exact ih1 _ _ _ _
   | exact LeO.none _
   | refine LeO.ite ?_ ?_
   | refine LeO.bind ?_ (fun _ => ?_)
theorem pelotonref01_Shift.mono : ∀ a0 a1 k, LeO (pelotonref01_Shift.f k a0 a1) (pelotonref01_Shift.f (k + 1) a0 a1) := by
 intro a0 a1 k
 obtain ⟨ih0, ih1⟩ := pelotonref01_Shift.mono_l k
 unfold pelotonref01_Shift.f
 repeat' first
   | (with_reducible exact ih0 _ _)
   | (with_reducible exact ih1 _ _ _ _)
   | (with_reducible exact LeO.refl _)
   | (with_reducible exact LeO.none _)
   | (with_reducible refine LeO.ite ?_ ?_)
   | (with_reducible refine LeO.bind ?_ (fun _ => ?_))
   | exact ih0 _ _
   | exact ih1 _ _ _ _
   | exact LeO.none _
   | refine LeO.ite ?_ ?_
   | refine LeO.bind ?_ (fun _ => ?_)
set_option maxHeartbeats 60000000 in
set_option maxRecDepth 100000 in
theorem pelotonref01_Shift.calls (k : Nat) (a0 : Int) (a1 : Int) (r : Int) (w : World) (h : pelotonref01_Shift.f k a0 a1 = some r) :
  Calls Try.prog 23 #[.int .i64 a0, .int .i64 a1] w fun e w' => e = .returned (.int .i64 r) ∧ Drawn0 w w' := by
 have H : (if a1 > 62 then (pelotonref01_Shift.j0 k a0 62) else (pelotonref01_Shift.j0 k a0 a1)) = some r := h
 clear h
 have HC3 := Aside0.mk H
 clear H
 go_enter Try.func23, Try.ntmps23
 go_upto_if 10 with (fail)
 go_cut [1] (fun v1 wc => ∃ (kq : Nat) (x1_2 : Int), v1 = .int .i64 x1_2 ∧ Aside0 (pelotonref01_Shift.j0 kq a0 x1_2 = some r) ∧ Aside0 (kq ≤ k) ∧ Drawn0 w wc)
 case first =>
  have H := HC3.out
  clear HC3
  by_cases c4 : a1 > 62
  ·
   rw [if_pos c4] at H
   have c4b0 : decide (62 < a1) = true := decide_eq_true c4
   clear c4
   (first | rw [c4b0] | (simp only [i64_w, i32_w]; rw [c4b0]) | skip)
   have H' := Aside0.mk H
   clear H
   go_wp2
   go_meet
   case rel => exact ⟨_, (62), (by first | rfl | (simp; done) | (simp [*]; done)), H', ⟨by first | omega | exact Nat.le_refl _⟩, by repeat (first | exact Drawn0.refl _ | apply Drawn0.step)⟩
  rw [if_neg c4] at H
  have c4b0 : decide (62 < a1) = false := decide_eq_false c4
  clear c4
  (first | rw [c4b0] | (simp only [i64_w, i32_w]; rw [c4b0]) | skip)
  have H' := Aside0.mk H
  clear H
  go_wp2
  go_meet
  case rel => exact ⟨_, (a1), (by first | rfl | (simp; done) | (simp [*]; done)), H', ⟨by first | omega | exact Nat.le_refl _⟩, by repeat (first | exact Drawn0.refl _ | apply Drawn0.step)⟩
 case rest => as_aux_lemma =>
  clear HC3
  try clear c2
  try clear p2
  try clear c4
  try clear c4b0
  obtain ⟨kq, x1_2, rfl, HA, HJ2, ⟨mc2, rfl⟩⟩ := hcut
  cases kq with
  | zero => exact absurd HA.out (by simp [pelotonref01_Shift.j0])
  | succ kj2 =>
   have H := HA.out
   clear HA
   simp only [pelotonref01_Shift.j0] at H
   by_cases c5 : x1_2 ≤ 0
   ·
    rw [if_pos c5] at H
    have c5b0 : decide (x1_2 ≤ 0) = true := decide_eq_true c5
    clear c5
    obtain rfl := Option.some.inj H
    go_wp2
    go_ret
    exact ⟨by first | rfl | (simp; done) | (simp [*]; done), by repeat (first | exact Drawn0.refl _ | apply Drawn0.step)⟩
   rw [if_neg c5] at H
   have c5b0 : decide (x1_2 ≤ 0) = false := decide_eq_false c5
   clear c5
   have H' := Aside0.mk H
   clear H
   go_wp2
   go_loopg [5, 6] kj2 (fun kq v5 v6 w' => ∃ (x5_2 : Int) (x6_2 : Int), v5 = .int .i64 x5_2 ∧ v6 = .int .i64 x6_2 ∧ Aside0 (pelotonref01_Shift.l0 kq a0 x1_2 x5_2 x6_2 = some r) ∧ Aside0 (kq ≤ kj2) ∧ Drawn0 w w')
   case atStart => exact ⟨(1), (0), (by first | rfl | (simp; done) | (simp [*]; done)), (by first | rfl | (simp; done) | (simp [*]; done)), H', ⟨Nat.le_refl _⟩, by repeat (first | exact Drawn0.refl _ | apply Drawn0.step)⟩
   case round =>
    clear H'
    try clear c2
    try clear p2
    try clear c4
    try clear c4b0
    try clear c5
    try clear c5b0
    try clear p2
    obtain ⟨x5_2, x6_2, rfl, rfl, HA, HK2, ⟨m2, rfl⟩⟩ := hrel
    cases gk with
    | zero => exact absurd HA.out (by simp [pelotonref01_Shift.l0])
    | succ k2 =>
     have H := HA.out
     clear HA
     simp only [pelotonref01_Shift.l0] at H
     by_cases c6 : x6_2 < x1_2
     ·
      rw [if_pos c6] at H
      have c6b0 : decide (x6_2 < x1_2) = true := decide_eq_true c6
      clear c6
      have H' := Aside0.mk H
      clear H
      go_wp2
      go_roundg k2
      case measure => have := HJ2.out; have := HK2.out; omega
      case rel => exact ⟨(wrap64 (x5_2 * 2)), (wrap64 (x6_2 + 1)), (by first | rfl | (simp; done) | (simp [*]; done)), (by first | rfl | (simp; done) | (simp [*]; done)), H', ⟨by have := HJ2.out; have := HK2.out; omega⟩, by repeat (first | exact Drawn0.refl _ | apply Drawn0.step)⟩
     rw [if_neg c6] at H
     have c6b0 : decide (x6_2 < x1_2) = false := decide_eq_false c6
     clear c6
     by_cases c7 : x5_2 = 0
     ·
      rw [if_pos c7] at H
      exact absurd H (by simp)
     rw [if_neg c7] at H
     have c7b0 : (x5_2 == 0) = false := beq_eq_false_iff_ne.mpr c7
     have c7b1 : (x5_2 != 0) = true := bne_iff_ne.mpr c7
     by_cases c8 : (Int.tmod a0 x5_2) < 0
     rotate_left
     ·
      rw [if_neg c8] at H
      have c8b0 : decide ((Int.tmod a0 x5_2) < 0) = false := decide_eq_false c8
      clear c8
      by_cases c12 : (Int.tmod a0 x5_2) > (wrap64 (x5_2 - (Int.tmod a0 x5_2)))
      ·
       rw [if_pos c12] at H
       have c12b0 : decide ((wrap64 (x5_2 - (Int.tmod a0 x5_2))) < (Int.tmod a0 x5_2)) = true := decide_eq_true c12
       clear c12
       obtain rfl := Option.some.inj H
       go_wp2
       go_ret
       exact ⟨by first | rfl | (simp; done) | (simp [*]; done), by repeat (first | exact Drawn0.refl _ | apply Drawn0.step)⟩
      rw [if_neg c12] at H
      have c12b0 : decide ((wrap64 (x5_2 - (Int.tmod a0 x5_2))) < (Int.tmod a0 x5_2)) = false := decide_eq_false c12
      clear c12
      by_cases c13 : (Int.tmod a0 x5_2) = (wrap64 (x5_2 - (Int.tmod a0 x5_2)))
      rotate_left
      ·
       rw [if_neg c13] at H
       have c13b0 : ((Int.tmod a0 x5_2) == (wrap64 (x5_2 - (Int.tmod a0 x5_2)))) = false := beq_eq_false_iff_ne.mpr c13
       have c13b1 : ((Int.tmod a0 x5_2) != (wrap64 (x5_2 - (Int.tmod a0 x5_2)))) = true := bne_iff_ne.mpr c13
       obtain rfl := Option.some.inj H
       go_wp2
       go_ret
       exact ⟨by first | rfl | (simp; done) | (simp [*]; done), by repeat (first | exact Drawn0.refl _ | apply Drawn0.step)⟩

      rw [if_pos c13] at H
      have c13b0 : ((Int.tmod a0 x5_2) == (wrap64 (x5_2 - (Int.tmod a0 x5_2)))) = true := beq_iff_eq.mpr c13
      have c13b1 : ((Int.tmod a0 x5_2) != (wrap64 (x5_2 - (Int.tmod a0 x5_2)))) = false := bne_eq_false_iff_eq.mpr c13
      clear c13
      by_cases c14 : (Int.tmod (wrap64 (Int.tdiv a0 x5_2)) 2) = 0
      rotate_left
      ·
       rw [if_neg c14] at H
       have c14b0 : ((Int.tmod (wrap64 (Int.tdiv a0 x5_2)) 2) == 0) = false := beq_eq_false_iff_ne.mpr c14
       have c14b1 : ((Int.tmod (wrap64 (Int.tdiv a0 x5_2)) 2) != 0) = true := bne_iff_ne.mpr c14
       obtain rfl := Option.some.inj H
       go_wp2
       go_ret
       exact ⟨by first | rfl | (simp; done) | (simp [*]; done), by repeat (first | exact Drawn0.refl _ | apply Drawn0.step)⟩
      rw [if_pos c14] at H
      have c14b0 : ((Int.tmod (wrap64 (Int.tdiv a0 x5_2)) 2) == 0) = true := beq_iff_eq.mpr c14
      have c14b1 : ((Int.tmod (wrap64 (Int.tdiv a0 x5_2)) 2) != 0) = false := bne_eq_false_iff_eq.mpr c14
      clear c14
      obtain rfl := Option.some.inj H
      go_wp2
      go_ret
      exact ⟨by first | rfl | (simp; done) | (simp [*]; done), by repeat (first | exact Drawn0.refl _ | apply Drawn0.step)⟩
     rw [if_pos c8] at H
     have c8b0 : decide ((Int.tmod a0 x5_2) < 0) = true := decide_eq_true c8
     clear c8
     by_cases c9 : (wrap64 ((Int.tmod a0 x5_2) + x5_2)) > (wrap64 (x5_2 - (wrap64 ((Int.tmod a0 x5_2) + x5_2))))
     ·
      rw [if_pos c9] at H
      have c9b0 : decide ((wrap64 (x5_2 - (wrap64 ((Int.tmod a0 x5_2) + x5_2)))) < (wrap64 ((Int.tmod a0 x5_2) + x5_2))) = true := decide_eq_true c9
      clear c9
      obtain rfl := Option.some.inj H
      go_wp2
      go_ret
      exact ⟨by first | rfl | (simp; done) | (simp [*]; done), by repeat (first | exact Drawn0.refl _ | apply Drawn0.step)⟩
     rw [if_neg c9] at H
     have c9b0 : decide ((wrap64 (x5_2 - (wrap64 ((Int.tmod a0 x5_2) + x5_2)))) < (wrap64 ((Int.tmod a0 x5_2) + x5_2))) = false := decide_eq_false c9
     clear c9
     by_cases c10 : (wrap64 ((Int.tmod a0 x5_2) + x5_2)) = (wrap64 (x5_2 - (wrap64 ((Int.tmod a0 x5_2) + x5_2))))
     rotate_left
     ·
      rw [if_neg c10] at H
      have c10b0 : ((wrap64 ((Int.tmod a0 x5_2) + x5_2)) == (wrap64 (x5_2 - (wrap64 ((Int.tmod a0 x5_2) + x5_2))))) = false := beq_eq_false_iff_ne.mpr c10
      have c10b1 : ((wrap64 ((Int.tmod a0 x5_2) + x5_2)) != (wrap64 (x5_2 - (wrap64 ((Int.tmod a0 x5_2) + x5_2))))) = true := bne_iff_ne.mpr c10
      obtain rfl := Option.some.inj H
      go_wp2
      go_ret
      exact ⟨by first | rfl | (simp; done) | (simp [*]; done), by repeat (first | exact Drawn0.refl _ | apply Drawn0.step)⟩
     rw [if_pos c10] at H
     have c10b0 : ((wrap64 ((Int.tmod a0 x5_2) + x5_2)) == (wrap64 (x5_2 - (wrap64 ((Int.tmod a0 x5_2) + x5_2))))) = true := beq_iff_eq.mpr c10
     have c10b1 : ((wrap64 ((Int.tmod a0 x5_2) + x5_2)) != (wrap64 (x5_2 - (wrap64 ((Int.tmod a0 x5_2) + x5_2))))) = false := bne_eq_false_iff_eq.mpr c10
     clear c10
     by_cases c11 : (Int.tmod (wrap64 ((wrap64 (Int.tdiv a0 x5_2)) - 1)) 2) = 0
     rotate_left
     ·
      rw [if_neg c11] at H
      have c11b0 : ((Int.tmod (wrap64 ((wrap64 (Int.tdiv a0 x5_2)) - 1)) 2) == 0) = false := beq_eq_false_iff_ne.mpr c11
      have c11b1 : ((Int.tmod (wrap64 ((wrap64 (Int.tdiv a0 x5_2)) - 1)) 2) != 0) = true := bne_iff_ne.mpr c11
      obtain rfl := Option.some.inj H
      go_wp2
      go_ret
      exact ⟨by first | rfl | (simp; done) | (simp [*]; done), by repeat (first | exact Drawn0.refl _ | apply Drawn0.step)⟩
     rw [if_pos c11] at H
     have c11b0 : ((Int.tmod (wrap64 ((wrap64 (Int.tdiv a0 x5_2)) - 1)) 2) == 0) = true := beq_iff_eq.mpr c11
     have c11b1 : ((Int.tmod (wrap64 ((wrap64 (Int.tdiv a0 x5_2)) - 1)) 2) != 0) = false := bne_eq_false_iff_eq.mpr c11
     clear c11
     obtain rfl := Option.some.inj H
     go_wp2
     go_ret
     exact ⟨by first | rfl | (simp; done) | (simp [*]; done), by repeat (first | exact Drawn0.refl _ | apply Drawn0.step)⟩
/-! ### pelotonref06_Sin: function 10 -/
mutual
def pelotonref06_Sin.j0 : Nat → Int → Int → Bool → Option (Int)
 | 0, _, _, _ => none
 | k + 1, x4, x5, x19 => if x19 = true then (pelotonref06_Sin.j1 k x4 (wrap64 (16384 - x5))) else (pelotonref06_Sin.j1 k x4 x5)
def pelotonref06_Sin.j1 : Nat → Int → Int → Option (Int)
 | 0, _, _ => none
 | k + 1, x4, x5 => (pelotonref06_S.f (wrap64 (Int.tdiv x5 512))).bind fun t147 => (if (wrap64 (Int.tdiv x5 512)) < 32 then ((pelotonref06_S.f (wrap64 ((wrap64 (Int.tdiv x5 512)) + 1))).bind fun t148 => ((pelotonref06_S.f (wrap64 (Int.tdiv x5 512))).bind fun t149 => ((pelotonref01_Shift.f k (wrap64 ((wrap64 (t148 - t149)) * (Int.tmod x5 512))) 9).bind fun t150 => (if x4 = 2 then (some (wrap32 (wrap64 (-(wrap64 (t147 + t150)))))) else (if x4 = 3 then (some (wrap32 (wrap64 (-(wrap64 (t147 + t150)))))) else (some (wrap32 (wrap64 (t147 + t150))))))))) else (if x4 = 2 then (some (wrap32 (wrap64 (-t147)))) else (if x4 = 3 then (some (wrap32 (wrap64 (-t147)))) else (some (wrap32 (t147))))))
end
def pelotonref06_Sin.f (k : Nat) (a0 : Int) : Option (Int) := (pelotonref06_rest.f a0).bind fun t146 => (if (wrap64 (Int.tdiv t146 16384)) = 1 then (pelotonref06_Sin.j0 k (wrap64 (Int.tdiv t146 16384)) (Int.tmod t146 16384) true) else (pelotonref06_Sin.j0 k (wrap64 (Int.tdiv t146 16384)) (Int.tmod t146 16384) ((wrap64 (Int.tdiv t146 16384)) == 3)))
theorem pelotonref06_Sin.mono_l : ∀ k, (∀ y0 y1 y2, LeO (pelotonref06_Sin.j0 k y0 y1 y2) (pelotonref06_Sin.j0 (k + 1) y0 y1 y2)) ∧ (∀ y0 y1, LeO (pelotonref06_Sin.j1 k y0 y1) (pelotonref06_Sin.j1 (k + 1) y0 y1))
 | 0 => ⟨fun _ _ _ r h => by simp [pelotonref06_Sin.j0] at h, fun _ _ r h => by simp [pelotonref06_Sin.j1] at h⟩
 | k + 1 => by
  obtain ⟨ih0, ih1⟩ := pelotonref06_Sin.mono_l k
  refine ⟨?_, ?_⟩
  ·
   intro y0 y1 y2
   unfold pelotonref06_Sin.j0
   repeat' first
   | (with_reducible exact ih0 _ _ _)
   | (with_reducible exact ih1 _ _)
   | (with_reducible exact pelotonref01_Shift.mono _ _ _)
   | (with_reducible exact LeO.refl _)
   | (with_reducible exact LeO.none _)
   | (with_reducible refine LeO.ite ?_ ?_)
   | (with_reducible refine LeO.bind ?_ (fun _ => ?_))
   | exact ih0 _ _ _
   | exact ih1 _ _
   | exact pelotonref01_Shift.mono _ _ _
   | exact LeO.none _
   | refine LeO.ite ?_ ?_
   | refine LeO.bind ?_ (fun _ => ?_)
  ·
   intro y0 y1
   unfold pelotonref06_Sin.j1
   repeat' first
   | (with_reducible exact ih0 _ _ _)
   | (with_reducible exact ih1 _ _)
   | (with_reducible exact pelotonref01_Shift.mono _ _ _)
   | (with_reducible exact LeO.refl _)
   | (with_reducible exact LeO.none _)
   | (with_reducible refine LeO.ite ?_ ?_)
   | (with_reducible refine LeO.bind ?_ (fun _ => ?_))
   | exact ih0 _ _ _
   | exact ih1 _ _
   | exact pelotonref01_Shift.mono _ _ _
   | exact LeO.none _
   | refine LeO.ite ?_ ?_
   | refine LeO.bind ?_ (fun _ => ?_)
theorem pelotonref06_Sin.mono : ∀ a0 k, LeO (pelotonref06_Sin.f k a0) (pelotonref06_Sin.f (k + 1) a0) := by
 intro a0 k
 obtain ⟨ih0, ih1⟩ := pelotonref06_Sin.mono_l k
 unfold pelotonref06_Sin.f
 repeat' first
   | (with_reducible exact ih0 _ _ _)
   | (with_reducible exact ih1 _ _)
   | (with_reducible exact pelotonref01_Shift.mono _ _ _)
   | (with_reducible exact LeO.refl _)
   | (with_reducible exact LeO.none _)
   | (with_reducible refine LeO.ite ?_ ?_)
   | (with_reducible refine LeO.bind ?_ (fun _ => ?_))
   | exact ih0 _ _ _
   | exact ih1 _ _
   | exact pelotonref01_Shift.mono _ _ _
   | exact LeO.none _
   | refine LeO.ite ?_ ?_
   | refine LeO.bind ?_ (fun _ => ?_)
set_option maxHeartbeats 60000000 in
set_option maxRecDepth 100000 in
theorem pelotonref06_Sin.calls (k : Nat) (a0 : Int) (r : Int) (w : World) (h : pelotonref06_Sin.f k a0 = some r) :
  Calls Try.prog 10 #[.int .i64 a0] w fun e w' => e = .returned (.int .i32 r) ∧ Below w.heap.size w w' := by
 have HB := Aside0.mk (Below.refl w.heap.size w)
 have H : ((pelotonref06_rest.f a0).bind fun t146 => (if (wrap64 (Int.tdiv t146 16384)) = 1 then (pelotonref06_Sin.j0 k (wrap64 (Int.tdiv t146 16384)) (Int.tmod t146 16384) true) else (pelotonref06_Sin.j0 k (wrap64 (Int.tdiv t146 16384)) (Int.tmod t146 16384) ((wrap64 (Int.tdiv t146 16384)) == 3)))) = some r := h
 clear h
 replace H := Option.bind_eq_some_iff.mp H
 obtain ⟨t146, A20, H⟩ := H
 replace H : (if (wrap64 (Int.tdiv t146 16384)) = 1 then (pelotonref06_Sin.j0 k (wrap64 (Int.tdiv t146 16384)) (Int.tmod t146 16384) true) else (pelotonref06_Sin.j0 k (wrap64 (Int.tdiv t146 16384)) (Int.tmod t146 16384) ((wrap64 (Int.tdiv t146 16384)) == 3))) = some r := H
 have A2 := Aside0.mk A20
 clear A20
 have HC3 := Aside0.mk H
 clear H
 go_enter Try.func10, Try.ntmps10
 go_upto_region 4 with (first | ((with_reducible refine gate_callee (f := 21) rfl ?_); refine goesL_ (some 9) rfl rfl Try.func21 (by kernel_rfl) rfl #[.int .i64 a0] rfl (by (try simp only [l_4, l_5, l_6]); first | done | rfl | (simp only [l_7, l_8]; rfl)) ?_; (with_reducible refine (pelotonref06_rest.calls a0 t146 _ A2.out).mono ?_); rintro e w' ⟨rfl, ⟨nd, rfl⟩⟩; refine ⟨_, rfl, ?_⟩))
 (try simp only [Act.put, l_1, l_2, l_3])
 go_cut [19] (fun v19 wc => ∃ (kq : Nat) (x19_2 : Bool), v19 = .bool x19_2 ∧ Aside0 (pelotonref06_Sin.j0 kq (wrap64 (Int.tdiv t146 16384)) (Int.tmod t146 16384) x19_2 = some r) ∧ Aside0 (kq ≤ k) ∧ Aside0 (Below w.heap.size w wc))
 case first =>
  have H := HC3.out
  clear HC3
  by_cases c4 : (wrap64 (Int.tdiv t146 16384)) = 1
  ·
   rw [if_pos c4] at H
   have c4b0 : ((wrap64 (Int.tdiv t146 16384)) == 1) = true := beq_iff_eq.mpr c4
   have c4b1 : ((wrap64 (Int.tdiv t146 16384)) != 1) = false := bne_eq_false_iff_eq.mpr c4
   clear c4
   (first | rw [c4b0] | (simp only [i64_w, i32_w]; rw [c4b0]) | skip)
   have H' := Aside0.mk H
   clear H
   go_wp2
   go_meet
   case rel => exact ⟨_, (true), (by first | rfl | (simp; done) | (simp [*]; done)), H', ⟨by first | omega | exact Nat.le_refl _⟩, ⟨by repeat (first | (with_reducible first | exact HB.out | apply b_a | apply b_n | apply b_d) | exact HB.out)⟩⟩
  rw [if_neg c4] at H
  have c4b0 : ((wrap64 (Int.tdiv t146 16384)) == 1) = false := beq_eq_false_iff_ne.mpr c4
  have c4b1 : ((wrap64 (Int.tdiv t146 16384)) != 1) = true := bne_iff_ne.mpr c4
  (first | rw [c4b0] | (simp only [i64_w, i32_w]; rw [c4b0]) | skip)
  have H' := Aside0.mk H
  clear H
  go_wp2
  go_meet
  case rel => exact ⟨_, (((wrap64 (Int.tdiv t146 16384)) == 3)), (by first | rfl | (simp; done) | (simp [*]; done)), H', ⟨by first | omega | exact Nat.le_refl _⟩, ⟨by repeat (first | (with_reducible first | exact HB.out | apply b_a | apply b_n | apply b_d) | exact HB.out)⟩⟩
 case rest => as_aux_lemma =>
  clear HC3
  try clear c1
  try clear c2
  try clear p2
  try clear c4
  try clear c4b0
  try clear c4b1
  obtain ⟨kq, x19_2, rfl, HA, HJ2, HB⟩ := hcut
  cases kq with
  | zero => exact absurd HA.out (by simp [pelotonref06_Sin.j0])
  | succ kj2 =>
   have H := HA.out
   clear HA
   simp only [pelotonref06_Sin.j0] at H
   have HC5 := Aside0.mk H
   clear H
   go_upto_if 19 with (fail)
   go_cut [5] (fun v5 wc => ∃ (kq : Nat) (x5_4 : Int), v5 = .int .i64 x5_4 ∧ Aside0 (pelotonref06_Sin.j1 kq (wrap64 (Int.tdiv t146 16384)) x5_4 = some r) ∧ Aside0 (kq ≤ kj2) ∧ Aside0 (Below w.heap.size w wc))
   case first =>
    have H := HC5.out
    clear HC5
    by_cases c6 : x19_2 = true
    ·
     subst c6
     have H1 : (pelotonref06_Sin.j1 kj2 (wrap64 (Int.tdiv t146 16384)) (wrap64 (16384 - (Int.tmod t146 16384)))) = some r := by rw [if_pos rfl] at H; exact H
     clear H
     have H := H1
     clear H1
     have H' := Aside0.mk H
     clear H
     go_wp2
     go_meet
     case rel => exact ⟨_, (wrap64 (16384 - (Int.tmod t146 16384))), (by first | rfl | (simp; done) | (simp [*]; done)), H', ⟨by have := HJ2.out; first | omega | exact Nat.le_refl _⟩, ⟨by repeat (first | (with_reducible first | exact HB.out | apply b_a | apply b_n | apply b_d) | exact HB.out)⟩⟩
    replace c6 := Bool.eq_false_iff.mpr c6
    subst c6
    have H1 : (pelotonref06_Sin.j1 kj2 (wrap64 (Int.tdiv t146 16384)) (Int.tmod t146 16384)) = some r := by rw [if_neg (show ¬ (false = true) by decide)] at H; exact H
    clear H
    have H := H1
    clear H1
    have H' := Aside0.mk H
    clear H
    go_wp2
    go_meet
    case rel => exact ⟨_, ((Int.tmod t146 16384)), (by first | rfl | (simp; done) | (simp [*]; done)), H', ⟨by have := HJ2.out; first | omega | exact Nat.le_refl _⟩, ⟨by repeat (first | (with_reducible first | exact HB.out | apply b_a | apply b_n | apply b_d) | exact HB.out)⟩⟩
   case rest => as_aux_lemma =>
    clear HC5
    try clear c1
    try clear c2
    try clear p2
    try clear c4
    try clear c4b0
    try clear c4b1
    try clear c6
    try clear p6
    try clear p2
    obtain ⟨kq, x5_4, rfl, HA, HJ4, HB⟩ := hcut
    cases kq with
    | zero => exact absurd HA.out (by simp [pelotonref06_Sin.j1])
    | succ kj4 =>
     have H := HA.out
     clear HA
     simp only [pelotonref06_Sin.j1] at H
     replace H := Option.bind_eq_some_iff.mp H
     obtain ⟨t147, A70, H⟩ := H
     replace H : (if (wrap64 (Int.tdiv x5_4 512)) < 32 then ((pelotonref06_S.f (wrap64 ((wrap64 (Int.tdiv x5_4 512)) + 1))).bind fun t148 => ((pelotonref06_S.f (wrap64 (Int.tdiv x5_4 512))).bind fun t149 => ((pelotonref01_Shift.f kj4 (wrap64 ((wrap64 (t148 - t149)) * (Int.tmod x5_4 512))) 9).bind fun t150 => (if (wrap64 (Int.tdiv t146 16384)) = 2 then (some (wrap32 (wrap64 (-(wrap64 (t147 + t150)))))) else (if (wrap64 (Int.tdiv t146 16384)) = 3 then (some (wrap32 (wrap64 (-(wrap64 (t147 + t150)))))) else (some (wrap32 (wrap64 (t147 + t150))))))))) else (if (wrap64 (Int.tdiv t146 16384)) = 2 then (some (wrap32 (wrap64 (-t147)))) else (if (wrap64 (Int.tdiv t146 16384)) = 3 then (some (wrap32 (wrap64 (-t147)))) else (some (wrap32 (t147)))))) = some r := H
     have A7 := Aside0.mk A70
     clear A70
     by_cases c8 : (wrap64 (Int.tdiv x5_4 512)) < 32
     rotate_left
     ·
      rw [if_neg c8] at H
      have c8b0 : decide ((wrap64 (Int.tdiv x5_4 512)) < 32) = false := decide_eq_false c8
      clear c8
      by_cases c23 : (wrap64 (Int.tdiv t146 16384)) = 2
      ·
       rw [if_pos c23] at H
       have c23b0 : ((wrap64 (Int.tdiv t146 16384)) == 2) = true := beq_iff_eq.mpr c23
       have c23b1 : ((wrap64 (Int.tdiv t146 16384)) != 2) = false := bne_eq_false_iff_eq.mpr c23
       clear c23
       obtain rfl := Option.some.inj H
       go_wp2_with (first | ((with_reducible refine gate_callee (f := 22) rfl ?_); refine goesL_ (some 25) rfl rfl Try.func22 (by kernel_rfl) rfl #[.int .i64 (wrap64 (Int.tdiv x5_4 512))] rfl (by (try simp only [l_4, l_5, l_6]); first | done | rfl | (simp only [l_7, l_8]; rfl)) ?_; (with_reducible refine (pelotonref06_S.calls (wrap64 (Int.tdiv x5_4 512)) t147 _ A7.out).mono ?_); rintro e w24 ⟨rfl, hb⟩; (try clear A7); refine ⟨_, rfl, ?_⟩; replace HB := Aside0.mk (below_step (bw_ HB) hb); (try clear hb); (try clear hb2); (try clear hk); (try clear hi)))
       go_ret
       exact ⟨by first | rfl | (simp [errW_none, errW_some] <;> rfl) | (simp [*, errW_none, errW_some] <;> rfl), by repeat (first | (with_reducible first | exact HB.out | apply b_a | apply b_n | apply b_d) | exact HB.out)⟩
      rw [if_neg c23] at H
      have c23b0 : ((wrap64 (Int.tdiv t146 16384)) == 2) = false := beq_eq_false_iff_ne.mpr c23
      have c23b1 : ((wrap64 (Int.tdiv t146 16384)) != 2) = true := bne_iff_ne.mpr c23
      by_cases c25 : (wrap64 (Int.tdiv t146 16384)) = 3
      rotate_left
      ·
       rw [if_neg c25] at H
       have c25b0 : ((wrap64 (Int.tdiv t146 16384)) == 3) = false := beq_eq_false_iff_ne.mpr c25
       have c25b1 : ((wrap64 (Int.tdiv t146 16384)) != 3) = true := bne_iff_ne.mpr c25
       obtain rfl := Option.some.inj H
       go_wp2_with (first | ((with_reducible refine gate_callee (f := 22) rfl ?_); refine goesL_ (some 25) rfl rfl Try.func22 (by kernel_rfl) rfl #[.int .i64 (wrap64 (Int.tdiv x5_4 512))] rfl (by (try simp only [l_4, l_5, l_6]); first | done | rfl | (simp only [l_7, l_8]; rfl)) ?_; (with_reducible refine (pelotonref06_S.calls (wrap64 (Int.tdiv x5_4 512)) t147 _ A7.out).mono ?_); rintro e w27 ⟨rfl, hb⟩; (try clear A7); refine ⟨_, rfl, ?_⟩; replace HB := Aside0.mk (below_step (bw_ HB) hb); (try clear hb); (try clear hb2); (try clear hk); (try clear hi)))
       go_ret
       exact ⟨by first | rfl | (simp [errW_none, errW_some] <;> rfl) | (simp [*, errW_none, errW_some] <;> rfl), by repeat (first | (with_reducible first | exact HB.out | apply b_a | apply b_n | apply b_d) | exact HB.out)⟩

      rw [if_pos c25] at H
      have c25b0 : ((wrap64 (Int.tdiv t146 16384)) == 3) = true := beq_iff_eq.mpr c25
      have c25b1 : ((wrap64 (Int.tdiv t146 16384)) != 3) = false := bne_eq_false_iff_eq.mpr c25
      clear c25
      obtain rfl := Option.some.inj H
      go_wp2_with (first | ((with_reducible refine gate_callee (f := 22) rfl ?_); refine goesL_ (some 25) rfl rfl Try.func22 (by kernel_rfl) rfl #[.int .i64 (wrap64 (Int.tdiv x5_4 512))] rfl (by (try simp only [l_4, l_5, l_6]); first | done | rfl | (simp only [l_7, l_8]; rfl)) ?_; (with_reducible refine (pelotonref06_S.calls (wrap64 (Int.tdiv x5_4 512)) t147 _ A7.out).mono ?_); rintro e w26 ⟨rfl, hb⟩; (try clear A7); refine ⟨_, rfl, ?_⟩; replace HB := Aside0.mk (below_step (bw_ HB) hb); (try clear hb); (try clear hb2); (try clear hk); (try clear hi)))
      go_ret
      exact ⟨by first | rfl | (simp [errW_none, errW_some] <;> rfl) | (simp [*, errW_none, errW_some] <;> rfl), by repeat (first | (with_reducible first | exact HB.out | apply b_a | apply b_n | apply b_d) | exact HB.out)⟩
     rw [if_pos c8] at H
     have c8b0 : decide ((wrap64 (Int.tdiv x5_4 512)) < 32) = true := decide_eq_true c8
     clear c8
     replace H := Option.bind_eq_some_iff.mp H
     obtain ⟨t148, A90, H⟩ := H
     replace H : ((pelotonref06_S.f (wrap64 (Int.tdiv x5_4 512))).bind fun t149 => ((pelotonref01_Shift.f kj4 (wrap64 ((wrap64 (t148 - t149)) * (Int.tmod x5_4 512))) 9).bind fun t150 => (if (wrap64 (Int.tdiv t146 16384)) = 2 then (some (wrap32 (wrap64 (-(wrap64 (t147 + t150)))))) else (if (wrap64 (Int.tdiv t146 16384)) = 3 then (some (wrap32 (wrap64 (-(wrap64 (t147 + t150)))))) else (some (wrap32 (wrap64 (t147 + t150)))))))) = some r := H
     have A9 := Aside0.mk A90
     clear A90
     replace H := Option.bind_eq_some_iff.mp H
     obtain ⟨t149, A100, H⟩ := H
     replace H : ((pelotonref01_Shift.f kj4 (wrap64 ((wrap64 (t148 - t149)) * (Int.tmod x5_4 512))) 9).bind fun t150 => (if (wrap64 (Int.tdiv t146 16384)) = 2 then (some (wrap32 (wrap64 (-(wrap64 (t147 + t150)))))) else (if (wrap64 (Int.tdiv t146 16384)) = 3 then (some (wrap32 (wrap64 (-(wrap64 (t147 + t150)))))) else (some (wrap32 (wrap64 (t147 + t150))))))) = some r := H
     have A10 := Aside0.mk A100
     clear A100
     replace H := Option.bind_eq_some_iff.mp H
     obtain ⟨t150, A110, H⟩ := H
     replace H : (if (wrap64 (Int.tdiv t146 16384)) = 2 then (some (wrap32 (wrap64 (-(wrap64 (t147 + t150)))))) else (if (wrap64 (Int.tdiv t146 16384)) = 3 then (some (wrap32 (wrap64 (-(wrap64 (t147 + t150)))))) else (some (wrap32 (wrap64 (t147 + t150)))))) = some r := H
     have A11 := Aside0.mk A110
     clear A110
     by_cases c12 : (wrap64 (Int.tdiv t146 16384)) = 2
     ·
      rw [if_pos c12] at H
      have c12b0 : ((wrap64 (Int.tdiv t146 16384)) == 2) = true := beq_iff_eq.mpr c12
      have c12b1 : ((wrap64 (Int.tdiv t146 16384)) != 2) = false := bne_eq_false_iff_eq.mpr c12
      clear c12
      obtain rfl := Option.some.inj H
      go_wp2_with (first | ((with_reducible refine gate_callee (f := 22) rfl ?_); refine goesL_ (some 25) rfl rfl Try.func22 (by kernel_rfl) rfl #[.int .i64 (wrap64 (Int.tdiv x5_4 512))] rfl (by (try simp only [l_4, l_5, l_6]); first | done | rfl | (simp only [l_7, l_8]; rfl)) ?_; (with_reducible refine (pelotonref06_S.calls (wrap64 (Int.tdiv x5_4 512)) t147 _ A7.out).mono ?_); rintro e w13 ⟨rfl, hb⟩; (try clear A7); refine ⟨_, rfl, ?_⟩; replace HB := Aside0.mk (below_step (bw_ HB) hb); (try clear hb); (try clear hb2); (try clear hk); (try clear hi)) | ((with_reducible refine gate_callee (f := 22) rfl ?_); refine goesL_ (some 31) rfl rfl Try.func22 (by kernel_rfl) rfl #[.int .i64 (wrap64 ((wrap64 (Int.tdiv x5_4 512)) + 1))] rfl (by (try simp only [l_4, l_5, l_6]); first | done | rfl | (simp only [l_7, l_8]; rfl)) ?_; (with_reducible refine (pelotonref06_S.calls (wrap64 ((wrap64 (Int.tdiv x5_4 512)) + 1)) t148 _ A9.out).mono ?_); rintro e w14 ⟨rfl, hb⟩; (try clear A9); refine ⟨_, rfl, ?_⟩; replace HB := Aside0.mk (below_step (bw_ HB) hb); (try clear hb); (try clear hb2); (try clear hk); (try clear hi)) | ((with_reducible refine gate_callee (f := 22) rfl ?_); refine goesL_ (some 33) rfl rfl Try.func22 (by kernel_rfl) rfl #[.int .i64 (wrap64 (Int.tdiv x5_4 512))] rfl (by (try simp only [l_4, l_5, l_6]); first | done | rfl | (simp only [l_7, l_8]; rfl)) ?_; (with_reducible refine (pelotonref06_S.calls (wrap64 (Int.tdiv x5_4 512)) t149 _ A10.out).mono ?_); rintro e w15 ⟨rfl, hb⟩; (try clear A10); refine ⟨_, rfl, ?_⟩; replace HB := Aside0.mk (below_step (bw_ HB) hb); (try clear hb); (try clear hb2); (try clear hk); (try clear hi)) | ((with_reducible refine gate_callee (f := 23) rfl ?_); refine goesL_ (some 38) rfl rfl Try.func23 (by kernel_rfl) rfl #[.int .i64 (wrap64 ((wrap64 (t148 - t149)) * (Int.tmod x5_4 512))), .int .i64 9] rfl (by (try simp only [l_4, l_5, l_6]); first | done | rfl | (simp only [l_7, l_8]; rfl)) ?_; (with_reducible refine (pelotonref01_Shift.calls kj4 (wrap64 ((wrap64 (t148 - t149)) * (Int.tmod x5_4 512))) 9 t150 _ A11.out).mono ?_); rintro e w' ⟨rfl, ⟨nd, rfl⟩⟩; refine ⟨_, rfl, ?_⟩))
      go_ret
      exact ⟨by first | rfl | (simp [errW_none, errW_some] <;> rfl) | (simp [*, errW_none, errW_some] <;> rfl), by repeat (first | (with_reducible first | exact HB.out | apply b_a | apply b_n | apply b_d) | exact HB.out)⟩
     rw [if_neg c12] at H
     have c12b0 : ((wrap64 (Int.tdiv t146 16384)) == 2) = false := beq_eq_false_iff_ne.mpr c12
     have c12b1 : ((wrap64 (Int.tdiv t146 16384)) != 2) = true := bne_iff_ne.mpr c12
     by_cases c16 : (wrap64 (Int.tdiv t146 16384)) = 3
     rotate_left
     ·
      rw [if_neg c16] at H
      have c16b0 : ((wrap64 (Int.tdiv t146 16384)) == 3) = false := beq_eq_false_iff_ne.mpr c16
      have c16b1 : ((wrap64 (Int.tdiv t146 16384)) != 3) = true := bne_iff_ne.mpr c16
      obtain rfl := Option.some.inj H
      go_wp2_with (first | ((with_reducible refine gate_callee (f := 22) rfl ?_); refine goesL_ (some 25) rfl rfl Try.func22 (by kernel_rfl) rfl #[.int .i64 (wrap64 (Int.tdiv x5_4 512))] rfl (by (try simp only [l_4, l_5, l_6]); first | done | rfl | (simp only [l_7, l_8]; rfl)) ?_; (with_reducible refine (pelotonref06_S.calls (wrap64 (Int.tdiv x5_4 512)) t147 _ A7.out).mono ?_); rintro e w20 ⟨rfl, hb⟩; (try clear A7); refine ⟨_, rfl, ?_⟩; replace HB := Aside0.mk (below_step (bw_ HB) hb); (try clear hb); (try clear hb2); (try clear hk); (try clear hi)) | ((with_reducible refine gate_callee (f := 22) rfl ?_); refine goesL_ (some 31) rfl rfl Try.func22 (by kernel_rfl) rfl #[.int .i64 (wrap64 ((wrap64 (Int.tdiv x5_4 512)) + 1))] rfl (by (try simp only [l_4, l_5, l_6]); first | done | rfl | (simp only [l_7, l_8]; rfl)) ?_; (with_reducible refine (pelotonref06_S.calls (wrap64 ((wrap64 (Int.tdiv x5_4 512)) + 1)) t148 _ A9.out).mono ?_); rintro e w21 ⟨rfl, hb⟩; (try clear A9); refine ⟨_, rfl, ?_⟩; replace HB := Aside0.mk (below_step (bw_ HB) hb); (try clear hb); (try clear hb2); (try clear hk); (try clear hi)) | ((with_reducible refine gate_callee (f := 22) rfl ?_); refine goesL_ (some 33) rfl rfl Try.func22 (by kernel_rfl) rfl #[.int .i64 (wrap64 (Int.tdiv x5_4 512))] rfl (by (try simp only [l_4, l_5, l_6]); first | done | rfl | (simp only [l_7, l_8]; rfl)) ?_; (with_reducible refine (pelotonref06_S.calls (wrap64 (Int.tdiv x5_4 512)) t149 _ A10.out).mono ?_); rintro e w22 ⟨rfl, hb⟩; (try clear A10); refine ⟨_, rfl, ?_⟩; replace HB := Aside0.mk (below_step (bw_ HB) hb); (try clear hb); (try clear hb2); (try clear hk); (try clear hi)) | ((with_reducible refine gate_callee (f := 23) rfl ?_); refine goesL_ (some 38) rfl rfl Try.func23 (by kernel_rfl) rfl #[.int .i64 (wrap64 ((wrap64 (t148 - t149)) * (Int.tmod x5_4 512))), .int .i64 9] rfl (by (try simp only [l_4, l_5, l_6]); first | done | rfl | (simp only [l_7, l_8]; rfl)) ?_; (with_reducible refine (pelotonref01_Shift.calls kj4 (wrap64 ((wrap64 (t148 - t149)) * (Int.tmod x5_4 512))) 9 t150 _ A11.out).mono ?_); rintro e w' ⟨rfl, ⟨nd, rfl⟩⟩; refine ⟨_, rfl, ?_⟩))
      go_ret
      exact ⟨by first | rfl | (simp [errW_none, errW_some] <;> rfl) | (simp [*, errW_none, errW_some] <;> rfl), by repeat (first | (with_reducible first | exact HB.out | apply b_a | apply b_n | apply b_d) | exact HB.out)⟩
     rw [if_pos c16] at H
     have c16b0 : ((wrap64 (Int.tdiv t146 16384)) == 3) = true := beq_iff_eq.mpr c16
     have c16b1 : ((wrap64 (Int.tdiv t146 16384)) != 3) = false := bne_eq_false_iff_eq.mpr c16
     clear c16
     obtain rfl := Option.some.inj H
     go_wp2_with (first | ((with_reducible refine gate_callee (f := 22) rfl ?_); refine goesL_ (some 25) rfl rfl Try.func22 (by kernel_rfl) rfl #[.int .i64 (wrap64 (Int.tdiv x5_4 512))] rfl (by (try simp only [l_4, l_5, l_6]); first | done | rfl | (simp only [l_7, l_8]; rfl)) ?_; (with_reducible refine (pelotonref06_S.calls (wrap64 (Int.tdiv x5_4 512)) t147 _ A7.out).mono ?_); rintro e w17 ⟨rfl, hb⟩; (try clear A7); refine ⟨_, rfl, ?_⟩; replace HB := Aside0.mk (below_step (bw_ HB) hb); (try clear hb); (try clear hb2); (try clear hk); (try clear hi)) | ((with_reducible refine gate_callee (f := 22) rfl ?_); refine goesL_ (some 31) rfl rfl Try.func22 (by kernel_rfl) rfl #[.int .i64 (wrap64 ((wrap64 (Int.tdiv x5_4 512)) + 1))] rfl (by (try simp only [l_4, l_5, l_6]); first | done | rfl | (simp only [l_7, l_8]; rfl)) ?_; (with_reducible refine (pelotonref06_S.calls (wrap64 ((wrap64 (Int.tdiv x5_4 512)) + 1)) t148 _ A9.out).mono ?_); rintro e w18 ⟨rfl, hb⟩; (try clear A9); refine ⟨_, rfl, ?_⟩; replace HB := Aside0.mk (below_step (bw_ HB) hb); (try clear hb); (try clear hb2); (try clear hk); (try clear hi)) | ((with_reducible refine gate_callee (f := 22) rfl ?_); refine goesL_ (some 33) rfl rfl Try.func22 (by kernel_rfl) rfl #[.int .i64 (wrap64 (Int.tdiv x5_4 512))] rfl (by (try simp only [l_4, l_5, l_6]); first | done | rfl | (simp only [l_7, l_8]; rfl)) ?_; (with_reducible refine (pelotonref06_S.calls (wrap64 (Int.tdiv x5_4 512)) t149 _ A10.out).mono ?_); rintro e w19 ⟨rfl, hb⟩; (try clear A10); refine ⟨_, rfl, ?_⟩; replace HB := Aside0.mk (below_step (bw_ HB) hb); (try clear hb); (try clear hb2); (try clear hk); (try clear hi)) | ((with_reducible refine gate_callee (f := 23) rfl ?_); refine goesL_ (some 38) rfl rfl Try.func23 (by kernel_rfl) rfl #[.int .i64 (wrap64 ((wrap64 (t148 - t149)) * (Int.tmod x5_4 512))), .int .i64 9] rfl (by (try simp only [l_4, l_5, l_6]); first | done | rfl | (simp only [l_7, l_8]; rfl)) ?_; (with_reducible refine (pelotonref01_Shift.calls kj4 (wrap64 ((wrap64 (t148 - t149)) * (Int.tmod x5_4 512))) 9 t150 _ A11.out).mono ?_); rintro e w' ⟨rfl, ⟨nd, rfl⟩⟩; refine ⟨_, rfl, ?_⟩))
     go_ret
     exact ⟨by first | rfl | (simp [errW_none, errW_some] <;> rfl) | (simp [*, errW_none, errW_some] <;> rfl), by repeat (first | (with_reducible first | exact HB.out | apply b_a | apply b_n | apply b_d) | exact HB.out)⟩
/-! ### pelotonref06_Cos: function 12 -/
def pelotonref06_Cos.f (k : Nat) (a0 : Int) : Option (Int) := (pelotonref06_rest.f a0).bind fun t151 => ((pelotonref06_Sin.f k (wrap64 (t151 + 16384))).bind fun t152 => (some t152))
theorem pelotonref06_Cos.mono : ∀ a0 k, LeO (pelotonref06_Cos.f k a0) (pelotonref06_Cos.f (k + 1) a0) := by
 intro a0 k
 unfold pelotonref06_Cos.f
 repeat' first
   | (with_reducible exact pelotonref06_Sin.mono _ _)
   | (with_reducible exact LeO.refl _)
   | (with_reducible exact LeO.none _)
   | (with_reducible refine LeO.ite ?_ ?_)
   | (with_reducible refine LeO.bind ?_ (fun _ => ?_))
   | exact pelotonref06_Sin.mono _ _
   | exact LeO.none _
   | refine LeO.ite ?_ ?_
   | refine LeO.bind ?_ (fun _ => ?_)
set_option maxHeartbeats 60000000 in
set_option maxRecDepth 100000 in
theorem pelotonref06_Cos.calls (k : Nat) (a0 : Int) (r : Int) (w : World) (h : pelotonref06_Cos.f k a0 = some r) :
  Calls Try.prog 12 #[.int .i64 a0] w fun e w' => e = .returned (.int .i32 r) ∧ Below w.heap.size w w' := by
 have HB := Aside0.mk (Below.refl w.heap.size w)
 have H : ((pelotonref06_rest.f a0).bind fun t151 => ((pelotonref06_Sin.f k (wrap64 (t151 + 16384))).bind fun t152 => (some t152))) = some r := h
 clear h
 replace H := Option.bind_eq_some_iff.mp H
 obtain ⟨t151, A20, H⟩ := H
 replace H : ((pelotonref06_Sin.f k (wrap64 (t151 + 16384))).bind fun t152 => (some t152)) = some r := H
 have A2 := Aside0.mk A20
 clear A20
 replace H := Option.bind_eq_some_iff.mp H
 obtain ⟨t152, A30, H⟩ := H
 replace H : (some t152) = some r := H
 have A3 := Aside0.mk A30
 clear A30
 obtain rfl := Option.some.inj H
 go_enter Try.func12, Try.ntmps12
 go_wp2_with (first | ((with_reducible refine gate_callee (f := 21) rfl ?_); refine goesL_ (some 4) rfl rfl Try.func21 (by kernel_rfl) rfl #[.int .i64 a0] rfl (by (try simp only [l_4, l_5, l_6]); first | done | rfl | (simp only [l_7, l_8]; rfl)) ?_; (with_reducible refine (pelotonref06_rest.calls a0 t151 _ A2.out).mono ?_); rintro e w' ⟨rfl, ⟨nd, rfl⟩⟩; refine ⟨_, rfl, ?_⟩) | ((with_reducible refine gate_callee (f := 10) rfl ?_); refine goesL_ (some 6) rfl rfl Try.func10 (by kernel_rfl) rfl #[.int .i64 (wrap64 (t151 + 16384))] rfl (by (try simp only [l_4, l_5, l_6]); first | done | rfl | (simp only [l_7, l_8]; rfl)) ?_; (with_reducible refine (pelotonref06_Sin.calls k (wrap64 (t151 + 16384)) t152 _ A3.out).mono ?_); rintro e w4 ⟨rfl, hb⟩; (try clear A3); refine ⟨_, rfl, ?_⟩; replace HB := Aside0.mk (below_step (bw_ HB) hb); (try clear hb); (try clear hb2); (try clear hk); (try clear hi)))
 go_ret
 exact ⟨by first | rfl | (simp [errW_none, errW_some] <;> rfl) | (simp [*, errW_none, errW_some] <;> rfl), by repeat (first | (with_reducible first | exact HB.out | apply b_a | apply b_n | apply b_d) | exact HB.out)⟩

/-! ### pelotonref06_Angle: function 14 -/
mutual
def pelotonref06_Angle.j0 : Nat → Int → Int → Bool → Option (Int)
 | 0, _, _, _ => none
 | k + 1, x0, x1, x16 => if x16 = true then (some 0) else (pelotonref06_Angle.l0 k x0 x1 8192 0)
def pelotonref06_Angle.l0 : Nat → Int → Int → Int → Int → Option (Int)
 | 0, _, _, _, _ => none
 | k + 1, x0, x1, x5, x6 => if x6 < x1 then (if x5 > 0 then (pelotonref06_Angle.l0 k x0 x1 (wrap64 (Int.tdiv x5 2)) (wrap64 (x6 + 1))) else ((pelotonref06_rest.f (wrap64 (x0 * x5))).bind fun t153 => (some t153))) else ((pelotonref06_rest.f (wrap64 (x0 * x5))).bind fun t154 => (some t154))
end
def pelotonref06_Angle.f (k : Nat) (a0 : Int) (a1 : Int) : Option (Int) := if a0 < 0 then (pelotonref06_Angle.j0 k a0 a1 true) else (if a0 > 1048576 then (pelotonref06_Angle.j0 k a0 a1 true) else (pelotonref06_Angle.j0 k a0 a1 (decide (a1 < 0))))
theorem pelotonref06_Angle.mono_l : ∀ k, (∀ y0 y1 y2, LeO (pelotonref06_Angle.j0 k y0 y1 y2) (pelotonref06_Angle.j0 (k + 1) y0 y1 y2)) ∧ (∀ y0 y1 y2 y3, LeO (pelotonref06_Angle.l0 k y0 y1 y2 y3) (pelotonref06_Angle.l0 (k + 1) y0 y1 y2 y3))
 | 0 => ⟨fun _ _ _ r h => by simp [pelotonref06_Angle.j0] at h, fun _ _ _ _ r h => by simp [pelotonref06_Angle.l0] at h⟩
 | k + 1 => by
  obtain ⟨ih0, ih1⟩ := pelotonref06_Angle.mono_l k
  refine ⟨?_, ?_⟩
  ·
   intro y0 y1 y2
   unfold pelotonref06_Angle.j0
   repeat' first
   | (with_reducible exact ih0 _ _ _)
   | (with_reducible exact ih1 _ _ _ _)
   | (with_reducible exact LeO.refl _)
   | (with_reducible exact LeO.none _)
   | (with_reducible refine LeO.ite ?_ ?_)
   | (with_reducible refine LeO.bind ?_ (fun _ => ?_))
   | exact ih0 _ _ _
   | exact ih1 _ _ _ _
   | exact LeO.none _
   | refine LeO.ite ?_ ?_
   | refine LeO.bind ?_ (fun _ => ?_)
  ·
   intro y0 y1 y2 y3
   unfold pelotonref06_Angle.l0
   repeat' first
   | (with_reducible exact ih0 _ _ _)
   | (with_reducible exact ih1 _ _ _ _)
   | (with_reducible exact LeO.refl _)
   | (with_reducible exact LeO.none _)
   | (with_reducible refine LeO.ite ?_ ?_)
   | (with_reducible refine LeO.bind ?_ (fun _ => ?_))
   | exact ih0 _ _ _
   | exact ih1 _ _ _ _
   | exact LeO.none _
   | refine LeO.ite ?_ ?_
   | refine LeO.bind ?_ (fun _ => ?_)
theorem pelotonref06_Angle.mono : ∀ a0 a1 k, LeO (pelotonref06_Angle.f k a0 a1) (pelotonref06_Angle.f (k + 1) a0 a1) := by
 intro a0 a1 k
 obtain ⟨ih0, ih1⟩ := pelotonref06_Angle.mono_l k
 unfold pelotonref06_Angle.f
 repeat' first
   | (with_reducible exact ih0 _ _ _)
   | (with_reducible exact ih1 _ _ _ _)
   | (with_reducible exact LeO.refl _)
   | (with_reducible exact LeO.none _)
   | (with_reducible refine LeO.ite ?_ ?_)
   | (with_reducible refine LeO.bind ?_ (fun _ => ?_))
   | exact ih0 _ _ _
   | exact ih1 _ _ _ _
   | exact LeO.none _
   | refine LeO.ite ?_ ?_
   | refine LeO.bind ?_ (fun _ => ?_)
set_option maxHeartbeats 60000000 in
set_option maxRecDepth 100000 in
theorem pelotonref06_Angle.calls (k : Nat) (a0 : Int) (a1 : Int) (r : Int) (w : World) (h : pelotonref06_Angle.f k a0 a1 = some r) :
  Calls Try.prog 14 #[.int .i64 a0, .int .i64 a1] w fun e w' => e = .returned (.int .i64 r) ∧ Drawn0 w w' := by
 have H : (if a0 < 0 then (pelotonref06_Angle.j0 k a0 a1 true) else (if a0 > 1048576 then (pelotonref06_Angle.j0 k a0 a1 true) else (pelotonref06_Angle.j0 k a0 a1 (decide (a1 < 0))))) = some r := h
 clear h
 have HC3 := Aside0.mk H
 clear H
 go_enter Try.func14, Try.ntmps14
 go_upto_region 1 with (fail)
 go_cut [16] (fun v16 wc => ∃ (kq : Nat) (x16_2 : Bool), v16 = .bool x16_2 ∧ Aside0 (pelotonref06_Angle.j0 kq a0 a1 x16_2 = some r) ∧ Aside0 (kq ≤ k) ∧ Drawn0 w wc)
 case first =>
  have H := HC3.out
  clear HC3
  by_cases c4 : a0 < 0
  ·
   rw [if_pos c4] at H
   have c4b0 : decide (a0 < 0) = true := decide_eq_true c4
   clear c4
   (first | rw [c4b0] | (simp only [i64_w, i32_w]; rw [c4b0]) | skip)
   have H' := Aside0.mk H
   clear H
   go_wp2
   go_meet
   case rel => exact ⟨_, (true), (by first | rfl | (simp; done) | (simp [*]; done)), H', ⟨by first | omega | exact Nat.le_refl _⟩, by repeat (first | exact Drawn0.refl _ | apply Drawn0.step)⟩
  rw [if_neg c4] at H
  have c4b0 : decide (a0 < 0) = false := decide_eq_false c4
  clear c4
  (first | rw [c4b0] | (simp only [i64_w, i32_w]; rw [c4b0]) | skip)
  by_cases c5 : a0 > 1048576
  ·
   rw [if_pos c5] at H
   have c5b0 : decide (1048576 < a0) = true := decide_eq_true c5
   clear c5
   have H' := Aside0.mk H
   clear H
   go_wp2
   go_meet
   case rel => exact ⟨_, (true), (by first | rfl | (simp; done) | (simp [*]; done)), H', ⟨by first | omega | exact Nat.le_refl _⟩, by repeat (first | exact Drawn0.refl _ | apply Drawn0.step)⟩
  rw [if_neg c5] at H
  have c5b0 : decide (1048576 < a0) = false := decide_eq_false c5
  clear c5
  have H' := Aside0.mk H
  clear H
  go_wp2
  go_meet
  case rel => exact ⟨_, (decide (a1 < 0)), (by first | rfl | (simp; done) | (simp [*]; done)), H', ⟨by first | omega | exact Nat.le_refl _⟩, by repeat (first | exact Drawn0.refl _ | apply Drawn0.step)⟩
 case rest => as_aux_lemma =>
  clear HC3
  try clear c1
  try clear p2
  try clear c4
  try clear c4b0
  try clear c5
  try clear c5b0
  obtain ⟨kq, x16_2, rfl, HA, HJ2, ⟨mc2, rfl⟩⟩ := hcut
  cases kq with
  | zero => exact absurd HA.out (by simp [pelotonref06_Angle.j0])
  | succ kj2 =>
   have H := HA.out
   clear HA
   simp only [pelotonref06_Angle.j0] at H
   by_cases c6 : x16_2 = true
   ·
    subst c6
    have H1 : (some 0) = some r := by rw [if_pos rfl] at H; exact H
    clear H
    have H := H1
    clear H1
    obtain rfl := Option.some.inj H
    go_wp2
    go_ret
    exact ⟨by first | rfl | (simp; done) | (simp [*]; done), by repeat (first | exact Drawn0.refl _ | apply Drawn0.step)⟩
   replace c6 := Bool.eq_false_iff.mpr c6
   subst c6
   have H1 : (pelotonref06_Angle.l0 kj2 a0 a1 8192 0) = some r := by rw [if_neg (show ¬ (false = true) by decide)] at H; exact H
   clear H
   have H := H1
   clear H1
   have H' := Aside0.mk H
   clear H
   go_wp2
   go_loopg [5, 6] kj2 (fun kq v5 v6 w' => ∃ (x5_2 : Int) (x6_2 : Int), v5 = .int .i64 x5_2 ∧ v6 = .int .i64 x6_2 ∧ Aside0 (pelotonref06_Angle.l0 kq a0 a1 x5_2 x6_2 = some r) ∧ Aside0 (kq ≤ kj2) ∧ Drawn0 w w')
   case atStart => exact ⟨(8192), (0), (by first | rfl | (simp; done) | (simp [*]; done)), (by first | rfl | (simp; done) | (simp [*]; done)), H', ⟨Nat.le_refl _⟩, by repeat (first | exact Drawn0.refl _ | apply Drawn0.step)⟩
   case round =>
    clear H'
    try clear c1
    try clear c2
    try clear p2
    try clear c4
    try clear c4b0
    try clear c5
    try clear c5b0
    try clear c6
    try clear p2
    obtain ⟨x5_2, x6_2, rfl, rfl, HA, HK2, ⟨m2, rfl⟩⟩ := hrel
    cases gk with
    | zero => exact absurd HA.out (by simp [pelotonref06_Angle.l0])
    | succ k2 =>
     have H := HA.out
     clear HA
     simp only [pelotonref06_Angle.l0] at H
     by_cases c7 : x6_2 < a1
     rotate_left
     ·
      rw [if_neg c7] at H
      have c7b0 : decide (x6_2 < a1) = false := decide_eq_false c7
      clear c7
      replace H := Option.bind_eq_some_iff.mp H
      obtain ⟨t154, A100, H⟩ := H
      replace H : (some t154) = some r := H
      have A10 := Aside0.mk A100
      clear A100
      obtain rfl := Option.some.inj H
      go_wp2_with (first | ((with_reducible refine gate_callee (f := 21) rfl ?_); refine goesL_ (some 31) rfl rfl Try.func21 (by kernel_rfl) rfl #[.int .i64 (wrap64 (a0 * x5_2))] rfl (by (try simp only [l_4, l_5, l_6]); first | done | rfl | (simp only [l_7, l_8]; rfl)) ?_; (with_reducible refine (pelotonref06_rest.calls (wrap64 (a0 * x5_2)) t154 _ A10.out).mono ?_); rintro e w' ⟨rfl, ⟨nd, rfl⟩⟩; refine ⟨_, rfl, ?_⟩))
      go_ret
      exact ⟨by first | rfl | (simp; done) | (simp [*]; done), by repeat (first | exact Drawn0.refl _ | apply Drawn0.step)⟩

     rw [if_pos c7] at H
     have c7b0 : decide (x6_2 < a1) = true := decide_eq_true c7
     clear c7
     by_cases c8 : x5_2 > 0
     ·
      rw [if_pos c8] at H
      have c8b0 : decide (0 < x5_2) = true := decide_eq_true c8
      clear c8
      have H' := Aside0.mk H
      clear H
      go_wp2
      go_roundg k2
      case measure => have := HJ2.out; have := HK2.out; omega
      case rel => exact ⟨(wrap64 (Int.tdiv x5_2 2)), (wrap64 (x6_2 + 1)), (by first | rfl | (simp; done) | (simp [*]; done)), (by first | rfl | (simp; done) | (simp [*]; done)), H', ⟨by have := HJ2.out; have := HK2.out; omega⟩, by repeat (first | exact Drawn0.refl _ | apply Drawn0.step)⟩
     rw [if_neg c8] at H
     have c8b0 : decide (0 < x5_2) = false := decide_eq_false c8
     clear c8
     replace H := Option.bind_eq_some_iff.mp H
     obtain ⟨t153, A90, H⟩ := H
     replace H : (some t153) = some r := H
     have A9 := Aside0.mk A90
     clear A90
     obtain rfl := Option.some.inj H
     go_wp2_with (first | ((with_reducible refine gate_callee (f := 21) rfl ?_); refine goesL_ (some 31) rfl rfl Try.func21 (by kernel_rfl) rfl #[.int .i64 (wrap64 (a0 * x5_2))] rfl (by (try simp only [l_4, l_5, l_6]); first | done | rfl | (simp only [l_7, l_8]; rfl)) ?_; (with_reducible refine (pelotonref06_rest.calls (wrap64 (a0 * x5_2)) t153 _ A9.out).mono ?_); rintro e w' ⟨rfl, ⟨nd, rfl⟩⟩; refine ⟨_, rfl, ?_⟩))
     go_ret
     exact ⟨by first | rfl | (simp; done) | (simp [*]; done), by repeat (first | exact Drawn0.refl _ | apply Drawn0.step)⟩
-- NOT PRINTED: function 18 (rope_Table)

end Go.Proofs.Ytplndicghohpbaa.QRopeTables
