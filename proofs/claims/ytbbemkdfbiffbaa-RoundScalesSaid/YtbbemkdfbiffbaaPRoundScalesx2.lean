-- PRINTED BY print.sh 35421559b90ae4d0a3588c463048766b98c2df88dd9212a6774a882060cdf62d: not written by this session
import Derived.Test.YtbbemkdfbiffbaaPRoundScalesx0
import Derived.Test.YtbbemkdfbiffbaaPRoundScalesx1
namespace Go.Proofs.Ytbbemkdfbiffbaa.PRoundScales
open Go.RowKit Go.Proofs.YtbbemkdfbiffbaaW.PrintWords Go.Proofs.YtbbemkdfbiffbaaW.PrintLast Go.Proofs.YtbbemkdfbiffbaaW.PrintMore
attribute [local go_sem] max2_int min2_int max_two min_two max_three min_three max_four min_four   -- for this text's walks alone
set_option linter.unusedVariables false
set_option linter.unusedSimpArgs false

/-! ### pelotonref01_Shift: function 14 -/
mutual
def pelotonref01_Shift.j0 : Nat → Int → Int → Option (Int)
  | 0, _, _ => none
  | k + 1, x0, x1 => if x1 ≤ 0 then (some x0) else (pelotonref01_Shift.l0 k x0 x1 1 0)
def pelotonref01_Shift.l0 : Nat → Int → Int → Int → Int → Option (Int)
  | 0, _, _, _, _ => none
  | k + 1, x0, x1, x5, x6 => if x6 < x1 then (pelotonref01_Shift.l0 k x0 x1 (wrap64 (x5 * 2)) (wrap64 (x6 + 1))) else (if x5 = 0 then (none) else (if (Int.tmod x0 x5) < 0 then (if (wrap64 ((Int.tmod x0 x5) + x5)) > (wrap64 (x5 - (wrap64 ((Int.tmod x0 x5) + x5)))) then (some (wrap64 ((wrap64 ((wrap64 (Int.tdiv x0 x5)) - 1)) + 1))) else (if (wrap64 ((Int.tmod x0 x5) + x5)) = (wrap64 (x5 - (wrap64 ((Int.tmod x0 x5) + x5)))) then (if (Int.tmod (wrap64 ((wrap64 (Int.tdiv x0 x5)) - 1)) 2) = 0 then (some (wrap64 ((wrap64 (Int.tdiv x0 x5)) - 1))) else (some (wrap64 ((wrap64 ((wrap64 (Int.tdiv x0 x5)) - 1)) + 1)))) else (some (wrap64 ((wrap64 (Int.tdiv x0 x5)) - 1))))) else (if (Int.tmod x0 x5) > (wrap64 (x5 - (Int.tmod x0 x5))) then (some (wrap64 ((wrap64 (Int.tdiv x0 x5)) + 1))) else (if (Int.tmod x0 x5) = (wrap64 (x5 - (Int.tmod x0 x5))) then (if (Int.tmod (wrap64 (Int.tdiv x0 x5)) 2) = 0 then (some (wrap64 (Int.tdiv x0 x5))) else (some (wrap64 ((wrap64 (Int.tdiv x0 x5)) + 1)))) else (some (wrap64 (Int.tdiv x0 x5)))))))
end
def pelotonref01_Shift.f (k : Nat) (a0 : Int) (a1 : Int) : Option (Int) := if a1 > 62 then (pelotonref01_Shift.j0 k a0 62) else (pelotonref01_Shift.j0 k a0 a1)
theorem pelotonref01_Shift.mono_l : ∀ k, (∀ y0 y1, LeO (pelotonref01_Shift.j0 k y0 y1) (pelotonref01_Shift.j0 (k + 1) y0 y1)) ∧ (∀ y0 y1 y2 y3, LeO (pelotonref01_Shift.l0 k y0 y1 y2 y3) (pelotonref01_Shift.l0 (k + 1) y0 y1 y2 y3))
  | 0 => ⟨fun _ _ r h => by simp [pelotonref01_Shift.j0] at h, fun _ _ _ _ r h => by simp [pelotonref01_Shift.l0] at h⟩
  | k + 1 => by
    obtain ⟨ih0, ih1⟩ := pelotonref01_Shift.mono_l k
    refine ⟨?_, ?_⟩
    · intro y0 y1
      unfold pelotonref01_Shift.j0
      repeat' first
      | (with_reducible exact ih0 _ _)
      | (with_reducible exact ih1 _ _ _ _)
      | (with_reducible exact LeO.refl _)
      | (with_reducible exact LeO.none _)
      | (with_reducible refine LeO.ite ?_ ?_)
      | (with_reducible refine LeO.bind ?_ (fun _ => ?_))
      | exact ih0 _ _
      | exact ih1 _ _ _ _
      | exact LeO.none _
      | refine LeO.ite ?_ ?_
      | refine LeO.bind ?_ (fun _ => ?_)
    · intro y0 y1 y2 y3
      unfold pelotonref01_Shift.l0
      repeat' first
      | (with_reducible exact ih0 _ _)
      | (with_reducible exact ih1 _ _ _ _)
      | (with_reducible exact LeO.refl _)
      | (with_reducible exact LeO.none _)
      | (with_reducible refine LeO.ite ?_ ?_)
      | (with_reducible refine LeO.bind ?_ (fun _ => ?_))
      | exact ih0 _ _
      | exact ih1 _ _ _ _
      | exact LeO.none _
      | refine LeO.ite ?_ ?_
      | refine LeO.bind ?_ (fun _ => ?_)
theorem pelotonref01_Shift.mono : ∀ a0 a1 k, LeO (pelotonref01_Shift.f k a0 a1) (pelotonref01_Shift.f (k + 1) a0 a1) := by
  intro a0 a1 k
  obtain ⟨ih0, ih1⟩ := pelotonref01_Shift.mono_l k
  unfold pelotonref01_Shift.f
  repeat' first
      | (with_reducible exact ih0 _ _)
      | (with_reducible exact ih1 _ _ _ _)
      | (with_reducible exact LeO.refl _)
      | (with_reducible exact LeO.none _)
      | (with_reducible refine LeO.ite ?_ ?_)
      | (with_reducible refine LeO.bind ?_ (fun _ => ?_))
      | exact ih0 _ _
      | exact ih1 _ _ _ _
      | exact LeO.none _
      | refine LeO.ite ?_ ?_
      | refine LeO.bind ?_ (fun _ => ?_)
set_option maxHeartbeats 8000000 in
set_option maxRecDepth 100000 in
theorem pelotonref01_Shift.calls (k : Nat) (a0 : Int) (a1 : Int) (r : Int) (w : World) (h : pelotonref01_Shift.f k a0 a1 = some r) :
    Calls Try.prog 14 #[.int .i64 a0, .int .i64 a1] w fun e w' => e = .returned (.int .i64 r) ∧ Drawn0 w w' := by
  have H : (if a1 > 62 then (pelotonref01_Shift.j0 k a0 62) else (pelotonref01_Shift.j0 k a0 a1)) = some r := h
  clear h
  have HC3 := Aside0.mk H
  clear H
  go_enter Try.func14, Try.ntmps14
  go_upto_if 10 with (fail)
  go_cut [1] (fun v1 wc => ∃ (kq : Nat) (x1_2 : Int), v1 = .int .i64 x1_2 ∧ Aside0 (pelotonref01_Shift.j0 kq a0 x1_2 = some r) ∧ Aside0 (kq ≤ k) ∧ Drawn0 w wc)
  case first =>
    have H := HC3.out
    clear HC3
    by_cases c4 : a1 > 62
    · rw [if_pos c4] at H
      have c4b0 : decide (62 < a1) = true := decide_eq_true c4
      clear c4
      (first | rw [c4b0] | (simp only [i64_w, i32_w]; rw [c4b0]) | skip)
      have H' := Aside0.mk H
      clear H
      go_wp2
      go_meet
      case rel => exact ⟨_, (62), (by first | rfl | (simp; done) | (simp [*]; done)), H', ⟨by first | omega | exact Nat.le_refl _⟩, by repeat (first | exact Drawn0.refl _ | apply Drawn0.step)⟩
    · rw [if_neg c4] at H
      have c4b0 : decide (62 < a1) = false := decide_eq_false c4
      clear c4
      (first | rw [c4b0] | (simp only [i64_w, i32_w]; rw [c4b0]) | skip)
      have H' := Aside0.mk H
      clear H
      go_wp2
      go_meet
      case rel => exact ⟨_, (a1), (by first | rfl | (simp; done) | (simp [*]; done)), H', ⟨by first | omega | exact Nat.le_refl _⟩, by repeat (first | exact Drawn0.refl _ | apply Drawn0.step)⟩
  case rest =>
    clear HC3
    try clear c1
    try clear p2
    try clear c4
    try clear c4b0
    obtain ⟨kq, x1_2, rfl, HA, HJ2, ⟨mc2, rfl⟩⟩ := hcut
    cases kq with
    | zero => exact absurd HA.out (by simp [pelotonref01_Shift.j0])
    | succ kj2 =>
      have H := HA.out
      clear HA
      simp only [pelotonref01_Shift.j0] at H
      by_cases c5 : x1_2 ≤ 0
      · rw [if_pos c5] at H
        have c5b0 : decide (x1_2 ≤ 0) = true := decide_eq_true c5
        clear c5
        obtain rfl := Option.some.inj H
        go_wp2
        go_ret
        exact ⟨by first | rfl | (simp; done) | (simp [*]; done), by repeat (first | exact Drawn0.refl _ | apply Drawn0.step)⟩
      · rw [if_neg c5] at H
        have c5b0 : decide (x1_2 ≤ 0) = false := decide_eq_false c5
        clear c5
        have H' := Aside0.mk H
        clear H
        go_wp2
        go_loopg [5, 6] kj2 (fun kq v5 v6 w' => ∃ (x5_2 : Int) (x6_2 : Int), v5 = .int .i64 x5_2 ∧ v6 = .int .i64 x6_2 ∧ Aside0 (pelotonref01_Shift.l0 kq a0 x1_2 x5_2 x6_2 = some r) ∧ Aside0 (kq ≤ kj2) ∧ Drawn0 w w')
        case atStart => exact ⟨(1), (0), (by first | rfl | (simp; done) | (simp [*]; done)), (by first | rfl | (simp; done) | (simp [*]; done)), H', ⟨Nat.le_refl _⟩, by repeat (first | exact Drawn0.refl _ | apply Drawn0.step)⟩
        case round =>
          clear H'
          try clear c1
          try clear c2
          try clear p2
          try clear c4
          try clear c4b0
          try clear c5
          try clear c5b0
          try clear p2
          obtain ⟨x5_2, x6_2, rfl, rfl, HA, HK2, ⟨m2, rfl⟩⟩ := hrel
          cases gk with
          | zero => exact absurd HA.out (by simp [pelotonref01_Shift.l0])
          | succ k2 =>
            have H := HA.out
            clear HA
            simp only [pelotonref01_Shift.l0] at H
            by_cases c6 : x6_2 < x1_2
            · rw [if_pos c6] at H
              have c6b0 : decide (x6_2 < x1_2) = true := decide_eq_true c6
              clear c6
              have H' := Aside0.mk H
              clear H
              go_wp2
              go_roundg k2
              case measure => have := HJ2.out; have := HK2.out; omega
              case rel => exact ⟨(wrap64 (x5_2 * 2)), (wrap64 (x6_2 + 1)), (by first | rfl | (simp; done) | (simp [*]; done)), (by first | rfl | (simp; done) | (simp [*]; done)), H', ⟨by have := HJ2.out; have := HK2.out; omega⟩, by repeat (first | exact Drawn0.refl _ | apply Drawn0.step)⟩
            · rw [if_neg c6] at H
              have c6b0 : decide (x6_2 < x1_2) = false := decide_eq_false c6
              clear c6
              by_cases c7 : x5_2 = 0
              · rw [if_pos c7] at H
                exact absurd H (by simp)
              · rw [if_neg c7] at H
                have c7b0 : (x5_2 == 0) = false := beq_eq_false_iff_ne.mpr c7
                have c7b1 : (x5_2 != 0) = true := bne_iff_ne.mpr c7
                by_cases c8 : (Int.tmod a0 x5_2) < 0
                · rw [if_pos c8] at H
                  have c8b0 : decide ((Int.tmod a0 x5_2) < 0) = true := decide_eq_true c8
                  clear c8
                  by_cases c9 : (wrap64 ((Int.tmod a0 x5_2) + x5_2)) > (wrap64 (x5_2 - (wrap64 ((Int.tmod a0 x5_2) + x5_2))))
                  · rw [if_pos c9] at H
                    have c9b0 : decide ((wrap64 (x5_2 - (wrap64 ((Int.tmod a0 x5_2) + x5_2)))) < (wrap64 ((Int.tmod a0 x5_2) + x5_2))) = true := decide_eq_true c9
                    clear c9
                    obtain rfl := Option.some.inj H
                    go_wp2
                    go_ret
                    exact ⟨by first | rfl | (simp; done) | (simp [*]; done), by repeat (first | exact Drawn0.refl _ | apply Drawn0.step)⟩
                  · rw [if_neg c9] at H
                    have c9b0 : decide ((wrap64 (x5_2 - (wrap64 ((Int.tmod a0 x5_2) + x5_2)))) < (wrap64 ((Int.tmod a0 x5_2) + x5_2))) = false := decide_eq_false c9
                    clear c9
                    by_cases c10 : (wrap64 ((Int.tmod a0 x5_2) + x5_2)) = (wrap64 (x5_2 - (wrap64 ((Int.tmod a0 x5_2) + x5_2))))
                    · rw [if_pos c10] at H
                      have c10b0 : ((wrap64 ((Int.tmod a0 x5_2) + x5_2)) == (wrap64 (x5_2 - (wrap64 ((Int.tmod a0 x5_2) + x5_2))))) = true := beq_iff_eq.mpr c10
                      have c10b1 : ((wrap64 ((Int.tmod a0 x5_2) + x5_2)) != (wrap64 (x5_2 - (wrap64 ((Int.tmod a0 x5_2) + x5_2))))) = false := bne_eq_false_iff_eq.mpr c10
                      clear c10
                      by_cases c11 : (Int.tmod (wrap64 ((wrap64 (Int.tdiv a0 x5_2)) - 1)) 2) = 0
                      · rw [if_pos c11] at H
                        have c11b0 : ((Int.tmod (wrap64 ((wrap64 (Int.tdiv a0 x5_2)) - 1)) 2) == 0) = true := beq_iff_eq.mpr c11
                        have c11b1 : ((Int.tmod (wrap64 ((wrap64 (Int.tdiv a0 x5_2)) - 1)) 2) != 0) = false := bne_eq_false_iff_eq.mpr c11
                        clear c11
                        obtain rfl := Option.some.inj H
                        go_wp2
                        go_ret
                        exact ⟨by first | rfl | (simp; done) | (simp [*]; done), by repeat (first | exact Drawn0.refl _ | apply Drawn0.step)⟩
                      · rw [if_neg c11] at H
                        have c11b0 : ((Int.tmod (wrap64 ((wrap64 (Int.tdiv a0 x5_2)) - 1)) 2) == 0) = false := beq_eq_false_iff_ne.mpr c11
                        have c11b1 : ((Int.tmod (wrap64 ((wrap64 (Int.tdiv a0 x5_2)) - 1)) 2) != 0) = true := bne_iff_ne.mpr c11
                        obtain rfl := Option.some.inj H
                        go_wp2
                        go_ret
                        exact ⟨by first | rfl | (simp; done) | (simp [*]; done), by repeat (first | exact Drawn0.refl _ | apply Drawn0.step)⟩
                    · rw [if_neg c10] at H
                      have c10b0 : ((wrap64 ((Int.tmod a0 x5_2) + x5_2)) == (wrap64 (x5_2 - (wrap64 ((Int.tmod a0 x5_2) + x5_2))))) = false := beq_eq_false_iff_ne.mpr c10
                      have c10b1 : ((wrap64 ((Int.tmod a0 x5_2) + x5_2)) != (wrap64 (x5_2 - (wrap64 ((Int.tmod a0 x5_2) + x5_2))))) = true := bne_iff_ne.mpr c10
                      obtain rfl := Option.some.inj H
                      go_wp2
                      go_ret
                      exact ⟨by first | rfl | (simp; done) | (simp [*]; done), by repeat (first | exact Drawn0.refl _ | apply Drawn0.step)⟩
                · rw [if_neg c8] at H
                  have c8b0 : decide ((Int.tmod a0 x5_2) < 0) = false := decide_eq_false c8
                  clear c8
                  by_cases c12 : (Int.tmod a0 x5_2) > (wrap64 (x5_2 - (Int.tmod a0 x5_2)))
                  · rw [if_pos c12] at H
                    have c12b0 : decide ((wrap64 (x5_2 - (Int.tmod a0 x5_2))) < (Int.tmod a0 x5_2)) = true := decide_eq_true c12
                    clear c12
                    obtain rfl := Option.some.inj H
                    go_wp2
                    go_ret
                    exact ⟨by first | rfl | (simp; done) | (simp [*]; done), by repeat (first | exact Drawn0.refl _ | apply Drawn0.step)⟩
                  · rw [if_neg c12] at H
                    have c12b0 : decide ((wrap64 (x5_2 - (Int.tmod a0 x5_2))) < (Int.tmod a0 x5_2)) = false := decide_eq_false c12
                    clear c12
                    by_cases c13 : (Int.tmod a0 x5_2) = (wrap64 (x5_2 - (Int.tmod a0 x5_2)))
                    · rw [if_pos c13] at H
                      have c13b0 : ((Int.tmod a0 x5_2) == (wrap64 (x5_2 - (Int.tmod a0 x5_2)))) = true := beq_iff_eq.mpr c13
                      have c13b1 : ((Int.tmod a0 x5_2) != (wrap64 (x5_2 - (Int.tmod a0 x5_2)))) = false := bne_eq_false_iff_eq.mpr c13
                      clear c13
                      by_cases c14 : (Int.tmod (wrap64 (Int.tdiv a0 x5_2)) 2) = 0
                      · rw [if_pos c14] at H
                        have c14b0 : ((Int.tmod (wrap64 (Int.tdiv a0 x5_2)) 2) == 0) = true := beq_iff_eq.mpr c14
                        have c14b1 : ((Int.tmod (wrap64 (Int.tdiv a0 x5_2)) 2) != 0) = false := bne_eq_false_iff_eq.mpr c14
                        clear c14
                        obtain rfl := Option.some.inj H
                        go_wp2
                        go_ret
                        exact ⟨by first | rfl | (simp; done) | (simp [*]; done), by repeat (first | exact Drawn0.refl _ | apply Drawn0.step)⟩
                      · rw [if_neg c14] at H
                        have c14b0 : ((Int.tmod (wrap64 (Int.tdiv a0 x5_2)) 2) == 0) = false := beq_eq_false_iff_ne.mpr c14
                        have c14b1 : ((Int.tmod (wrap64 (Int.tdiv a0 x5_2)) 2) != 0) = true := bne_iff_ne.mpr c14
                        obtain rfl := Option.some.inj H
                        go_wp2
                        go_ret
                        exact ⟨by first | rfl | (simp; done) | (simp [*]; done), by repeat (first | exact Drawn0.refl _ | apply Drawn0.step)⟩
                    · rw [if_neg c13] at H
                      have c13b0 : ((Int.tmod a0 x5_2) == (wrap64 (x5_2 - (Int.tmod a0 x5_2)))) = false := beq_eq_false_iff_ne.mpr c13
                      have c13b1 : ((Int.tmod a0 x5_2) != (wrap64 (x5_2 - (Int.tmod a0 x5_2)))) = true := bne_iff_ne.mpr c13
                      obtain rfl := Option.some.inj H
                      go_wp2
                      go_ret
                      exact ⟨by first | rfl | (simp; done) | (simp [*]; done), by repeat (first | exact Drawn0.refl _ | apply Drawn0.step)⟩

/-! ### pelotonref01_Near: function 16 -/
def pelotonref01_Near.f (a0 : Int) (a1 : Int) (a2 : Int) : Option (Int) := if a0 < a1 then (some a1) else (if a0 > a2 then (some a2) else (some a0))
set_option maxHeartbeats 8000000 in
set_option maxRecDepth 100000 in
theorem pelotonref01_Near.calls (a0 : Int) (a1 : Int) (a2 : Int) (r : Int) (w : World) (h : pelotonref01_Near.f a0 a1 a2 = some r) :
    Calls Try.prog 16 #[.int .i64 a0, .int .i64 a1, .int .i64 a2] w fun e w' => e = .returned (.int .i64 r) ∧ Drawn0 w w' := by
  have H : (if a0 < a1 then (some a1) else (if a0 > a2 then (some a2) else (some a0))) = some r := h
  clear h
  by_cases c4 : a0 < a1
  · rw [if_pos c4] at H
    have c4b0 : decide (a0 < a1) = true := decide_eq_true c4
    clear c4
    obtain rfl := Option.some.inj H
    go_enter Try.func16, Try.ntmps16
    go_wp2
    go_ret
    exact ⟨by first | rfl | (simp; done) | (simp [*]; done), by repeat (first | exact Drawn0.refl _ | apply Drawn0.step)⟩
  · rw [if_neg c4] at H
    have c4b0 : decide (a0 < a1) = false := decide_eq_false c4
    clear c4
    by_cases c5 : a0 > a2
    · rw [if_pos c5] at H
      have c5b0 : decide (a2 < a0) = true := decide_eq_true c5
      clear c5
      obtain rfl := Option.some.inj H
      go_enter Try.func16, Try.ntmps16
      go_wp2
      go_ret
      exact ⟨by first | rfl | (simp; done) | (simp [*]; done), by repeat (first | exact Drawn0.refl _ | apply Drawn0.step)⟩
    · rw [if_neg c5] at H
      have c5b0 : decide (a2 < a0) = false := decide_eq_false c5
      clear c5
      obtain rfl := Option.some.inj H
      go_enter Try.func16, Try.ntmps16
      go_wp2
      go_ret
      exact ⟨by first | rfl | (simp; done) | (simp [*]; done), by repeat (first | exact Drawn0.refl _ | apply Drawn0.step)⟩

/-! ### pelotonref01_Scale: function 27 -/
def pelotonref01_Scale.f (k : Nat) (a0 : Int) (a1 : Int) (a2 : Int) (a3 : Int) (a4 : Int) : Option (Int) := (pelotonref01_Shift.f k (wrap64 ((wrap64 (a0)) * (wrap64 (a1)))) a2).bind fun t130 => ((pelotonref01_Near.f t130 a3 a4).bind fun t131 => (some t131))
theorem pelotonref01_Scale.mono : ∀ a0 a1 a2 a3 a4 k, LeO (pelotonref01_Scale.f k a0 a1 a2 a3 a4) (pelotonref01_Scale.f (k + 1) a0 a1 a2 a3 a4) := by
  intro a0 a1 a2 a3 a4 k
  unfold pelotonref01_Scale.f
  repeat' first
      | (with_reducible exact pelotonref01_Shift.mono _ _ _)
      | (with_reducible exact LeO.refl _)
      | (with_reducible exact LeO.none _)
      | (with_reducible refine LeO.ite ?_ ?_)
      | (with_reducible refine LeO.bind ?_ (fun _ => ?_))
      | exact pelotonref01_Shift.mono _ _ _
      | exact LeO.none _
      | refine LeO.ite ?_ ?_
      | refine LeO.bind ?_ (fun _ => ?_)
set_option maxHeartbeats 8000000 in
set_option maxRecDepth 100000 in
theorem pelotonref01_Scale.calls (k : Nat) (a0 : Int) (a1 : Int) (a2 : Int) (a3 : Int) (a4 : Int) (r : Int) (w : World) (h : pelotonref01_Scale.f k a0 a1 a2 a3 a4 = some r) :
    Calls Try.prog 27 #[.int .i32 a0, .int .i32 a1, .int .i64 a2, .int .i64 a3, .int .i64 a4] w fun e w' => e = .returned (.int .i64 r) ∧ Drawn0 w w' := by
  have H : ((pelotonref01_Shift.f k (wrap64 ((wrap64 (a0)) * (wrap64 (a1)))) a2).bind fun t130 => ((pelotonref01_Near.f t130 a3 a4).bind fun t131 => (some t131))) = some r := h
  clear h
  replace H := Option.bind_eq_some_iff.mp H
  obtain ⟨t130, A60, H⟩ := H
  replace H : ((pelotonref01_Near.f t130 a3 a4).bind fun t131 => (some t131)) = some r := H
  have A6 := Aside0.mk A60
  clear A60
  replace H := Option.bind_eq_some_iff.mp H
  obtain ⟨t131, A70, H⟩ := H
  replace H : (some t131) = some r := H
  have A7 := Aside0.mk A70
  clear A70
  obtain rfl := Option.some.inj H
  go_enter Try.func27, Try.ntmps27
  go_wp2_with (first | ((with_reducible refine gate_callee (f := 14) rfl ?_); refine goesL_ (some 17) rfl rfl Try.func14 (by kernel_rfl) rfl #[.int .i64 (wrap64 ((wrap64 (a0)) * (wrap64 (a1)))), .int .i64 a2] rfl (by (try simp only [List.map_toArray, List.map_cons, List.map_nil]); first | done | rfl | (simp only [List.length_drop, List.length_take]; rfl)) ?_; (with_reducible refine (pelotonref01_Shift.calls k (wrap64 ((wrap64 (a0)) * (wrap64 (a1)))) a2 t130 _ A6.out).mono ?_); rintro e w' ⟨rfl, ⟨nd, rfl⟩⟩; refine ⟨_, rfl, ?_⟩) | ((with_reducible refine gate_callee (f := 16) rfl ?_); refine goesL_ (some 20) rfl rfl Try.func16 (by kernel_rfl) rfl #[.int .i64 t130, .int .i64 a3, .int .i64 a4] rfl (by (try simp only [List.map_toArray, List.map_cons, List.map_nil]); first | done | rfl | (simp only [List.length_drop, List.length_take]; rfl)) ?_; (with_reducible refine (pelotonref01_Near.calls t130 a3 a4 t131 _ A7.out).mono ?_); rintro e w' ⟨rfl, ⟨nd, rfl⟩⟩; refine ⟨_, rfl, ?_⟩))
  go_ret
  exact ⟨by first | rfl | (simp; done) | (simp [*]; done), by repeat (first | exact Drawn0.refl _ | apply Drawn0.step)⟩

/-! ### pelotonlaw01_RoundScales: function 10 -/
mutual
def pelotonlaw01_RoundScales.j0 : Nat → List Int → Int → Int → Bool → Option (Bool)
  | 0, _, _, _, _ => none
  | k + 1, x0, x1, x2, x17 => if x17 = true then ((pelotonlaw01_awake.f k).bind fun t133 => (some t133)) else ((round_Quants.f k x1 x2 x0).bind fun t134 => (if (t134.length : Int) = (x0.length : Int) then (pelotonlaw01_RoundScales.l0 k x0 x1 x2 t134 0) else (some false)))
def pelotonlaw01_RoundScales.l0 : Nat → List Int → Int → Int → List Int → Int → Option (Bool)
  | 0, _, _, _, _, _ => none
  | k + 1, x0, x1, x2, x7, x8 => if x8 < (x0.length : Int) then (if 0 ≤ x8 then ((pelotonref01_Scale.f k (rd x0 x8) x1 x2 (-128) 127).bind fun t138 => ((pelotonref01_Scale.f k (rd x0 x8) x1 x2 (-2147483648) 2147483647).bind fun t140 => (if x8 < (x7.length : Int) then (if (wrap64 (rd x7 x8)) = t138 then ((round_Quant.f (rd x0 x8) x1 x2).bind fun t143 => (if (wrap64 (t143)) = t138 then ((round_Scale.f (rd x0 x8) x1 x2).bind fun t145 => (if (wrap64 (t145)) = t140 then (pelotonlaw01_RoundScales.l0 k x0 x1 x2 x7 (wrap64 (x8 + 1))) else (some false))) else (some false))) else (some false)) else (none)))) else (none)) else (some true)
end
def pelotonlaw01_RoundScales.f (k : Nat) (l0 : List Int) (a1 : Int) (a2 : Int) : Option (Bool) := (pelotonlaw01_awake.f k).bind fun t132 => (if t132 = true then (pelotonlaw01_RoundScales.j0 k l0 a1 a2 (decide ((l0.length : Int) > 200))) else (pelotonlaw01_RoundScales.j0 k l0 a1 a2 true))
theorem pelotonlaw01_RoundScales.mono_l : ∀ k, (∀ y0 y1 y2 y3, LeO (pelotonlaw01_RoundScales.j0 k y0 y1 y2 y3) (pelotonlaw01_RoundScales.j0 (k + 1) y0 y1 y2 y3)) ∧ (∀ y0 y1 y2 y3 y4, LeO (pelotonlaw01_RoundScales.l0 k y0 y1 y2 y3 y4) (pelotonlaw01_RoundScales.l0 (k + 1) y0 y1 y2 y3 y4))
  | 0 => ⟨fun _ _ _ _ r h => by simp [pelotonlaw01_RoundScales.j0] at h, fun _ _ _ _ _ r h => by simp [pelotonlaw01_RoundScales.l0] at h⟩
  | k + 1 => by
    obtain ⟨ih0, ih1⟩ := pelotonlaw01_RoundScales.mono_l k
    refine ⟨?_, ?_⟩
    · intro y0 y1 y2 y3
      unfold pelotonlaw01_RoundScales.j0
      repeat' first
      | (with_reducible exact ih0 _ _ _ _)
      | (with_reducible exact ih1 _ _ _ _ _)
      | (with_reducible exact pelotonlaw01_awake.mono _)
      | (with_reducible exact pelotonref01_Scale.mono _ _ _ _ _ _)
      | (with_reducible exact round_Quants.mono _ _ _ _)
      | (with_reducible exact LeO.refl _)
      | (with_reducible exact LeO.none _)
      | (with_reducible refine LeO.ite ?_ ?_)
      | (with_reducible refine LeO.bind ?_ (fun _ => ?_))
      | exact ih0 _ _ _ _
      | exact ih1 _ _ _ _ _
      | exact pelotonlaw01_awake.mono _
      | exact pelotonref01_Scale.mono _ _ _ _ _ _
      | exact round_Quants.mono _ _ _ _
      | exact LeO.none _
      | refine LeO.ite ?_ ?_
      | refine LeO.bind ?_ (fun _ => ?_)
    · intro y0 y1 y2 y3 y4
      unfold pelotonlaw01_RoundScales.l0
      repeat' first
      | (with_reducible exact ih0 _ _ _ _)
      | (with_reducible exact ih1 _ _ _ _ _)
      | (with_reducible exact pelotonlaw01_awake.mono _)
      | (with_reducible exact pelotonref01_Scale.mono _ _ _ _ _ _)
      | (with_reducible exact round_Quants.mono _ _ _ _)
      | (with_reducible exact LeO.refl _)
      | (with_reducible exact LeO.none _)
      | (with_reducible refine LeO.ite ?_ ?_)
      | (with_reducible refine LeO.bind ?_ (fun _ => ?_))
      | exact ih0 _ _ _ _
      | exact ih1 _ _ _ _ _
      | exact pelotonlaw01_awake.mono _
      | exact pelotonref01_Scale.mono _ _ _ _ _ _
      | exact round_Quants.mono _ _ _ _
      | exact LeO.none _
      | refine LeO.ite ?_ ?_
      | refine LeO.bind ?_ (fun _ => ?_)
theorem pelotonlaw01_RoundScales.mono : ∀ a0 a1 a2 k, LeO (pelotonlaw01_RoundScales.f k a0 a1 a2) (pelotonlaw01_RoundScales.f (k + 1) a0 a1 a2) := by
  intro a0 a1 a2 k
  obtain ⟨ih0, ih1⟩ := pelotonlaw01_RoundScales.mono_l k
  unfold pelotonlaw01_RoundScales.f
  repeat' first
      | (with_reducible exact ih0 _ _ _ _)
      | (with_reducible exact ih1 _ _ _ _ _)
      | (with_reducible exact pelotonlaw01_awake.mono _)
      | (with_reducible exact pelotonref01_Scale.mono _ _ _ _ _ _)
      | (with_reducible exact round_Quants.mono _ _ _ _)
      | (with_reducible exact LeO.refl _)
      | (with_reducible exact LeO.none _)
      | (with_reducible refine LeO.ite ?_ ?_)
      | (with_reducible refine LeO.bind ?_ (fun _ => ?_))
      | exact ih0 _ _ _ _
      | exact ih1 _ _ _ _ _
      | exact pelotonlaw01_awake.mono _
      | exact pelotonref01_Scale.mono _ _ _ _ _ _
      | exact round_Quants.mono _ _ _ _
      | exact LeO.none _
      | refine LeO.ite ?_ ?_
      | refine LeO.bind ?_ (fun _ => ?_)
set_option maxHeartbeats 8000000 in
set_option maxRecDepth 100000 in
theorem pelotonlaw01_RoundScales.calls (k : Nat) (A0 : Option Addr) (c0 : Nat) (l0 : List Int) (a1 : Int) (a2 : Int) (r : Bool) (w : World) (hr0 : Kd.C (Kd.int .i32) w A0 l0.length l0) (hc0 : l0.length ≤ c0) (h : pelotonlaw01_RoundScales.f k l0 a1 a2 = some r) :
    Calls Try.prog 10 #[.slice A0 l0.length c0, .int .i32 a1, .int .i64 a2] w fun e w' => e = .returned (.bool r) ∧ Below w.heap.size w w' := by
  have HR0 := Aside0.mk hr0
  have HC0 := Aside0.mk hc0
  clear hr0 hc0
  have HB := Aside0.mk (Below.refl w.heap.size w)
  have H : ((pelotonlaw01_awake.f k).bind fun t132 => (if t132 = true then (pelotonlaw01_RoundScales.j0 k l0 a1 a2 (decide ((l0.length : Int) > 200))) else (pelotonlaw01_RoundScales.j0 k l0 a1 a2 true))) = some r := h
  clear h
  have HC4 := Aside0.mk H
  clear H
  go_enter Try.func10, Try.ntmps10
  go_upto_region 1 with (fail)
  go_cut [17] (fun v17 wc => ∃ (kq : Nat) (x17_3 : Bool), v17 = .bool x17_3 ∧ Aside0 (pelotonlaw01_RoundScales.j0 kq l0 a1 a2 x17_3 = some r) ∧ Aside0 (kq ≤ k) ∧ Aside0 (Below w.heap.size w wc))
  case first =>
    have H := HC4.out
    clear HC4
    replace H := Option.bind_eq_some_iff.mp H
    obtain ⟨t132, A50, H⟩ := H
    replace H : (if t132 = true then (pelotonlaw01_RoundScales.j0 k l0 a1 a2 (decide ((l0.length : Int) > 200))) else (pelotonlaw01_RoundScales.j0 k l0 a1 a2 true)) = some r := H
    have A5 := Aside0.mk A50
    clear A50
    by_cases c6 : t132 = true
    · subst c6
      have H1 : (pelotonlaw01_RoundScales.j0 k l0 a1 a2 (decide ((l0.length : Int) > 200))) = some r := by rw [if_pos rfl] at H; exact H
      clear H
      have H := H1
      clear H1
      have H' := Aside0.mk H
      clear H
      go_wp2_with (first | ((with_reducible refine gate_callee (f := 12) rfl ?_); refine goesL_ (some 11) rfl rfl Try.func12 (by kernel_rfl) rfl #[] rfl (by (try simp only [List.map_toArray, List.map_cons, List.map_nil]); first | done | rfl | (simp only [List.length_drop, List.length_take]; rfl)) ?_; (with_reducible refine (pelotonlaw01_awake.calls k  true _ A5.out).mono ?_); rintro e w7 ⟨rfl, hb⟩; refine ⟨_, rfl, ?_⟩; have n0_ := Aside0.mk (below_step (by repeat (first | (with_reducible first | exact HB.out | apply below_alloc | apply pw_below_drewN | apply below_drew1) | exact HB.out)) hb); clear HB; have HB := n0_; clear n0_; (try clear hb); (try clear hb2); (try clear hk); (try clear hi)))
      go_meet
      case rel => exact ⟨_, (decide ((l0.length : Int) > 200)), (by first | rfl | (simp; done) | (simp [*]; done)), H', ⟨by first | omega | exact Nat.le_refl _⟩, ⟨by repeat (first | (with_reducible first | exact HB.out | apply below_alloc | apply pw_below_drewN | apply below_drew1) | exact HB.out)⟩⟩
    · replace c6 := Bool.eq_false_iff.mpr c6
      subst c6
      have H1 : (pelotonlaw01_RoundScales.j0 k l0 a1 a2 true) = some r := by rw [if_neg (show ¬ (false = true) by decide)] at H; exact H
      clear H
      have H := H1
      clear H1
      have H' := Aside0.mk H
      clear H
      go_wp2_with (first | ((with_reducible refine gate_callee (f := 12) rfl ?_); refine goesL_ (some 11) rfl rfl Try.func12 (by kernel_rfl) rfl #[] rfl (by (try simp only [List.map_toArray, List.map_cons, List.map_nil]); first | done | rfl | (simp only [List.length_drop, List.length_take]; rfl)) ?_; (with_reducible refine (pelotonlaw01_awake.calls k  false _ A5.out).mono ?_); rintro e w8 ⟨rfl, hb⟩; refine ⟨_, rfl, ?_⟩; have n0_ := Aside0.mk (below_step (by repeat (first | (with_reducible first | exact HB.out | apply below_alloc | apply pw_below_drewN | apply below_drew1) | exact HB.out)) hb); clear HB; have HB := n0_; clear n0_; (try clear hb); (try clear hb2); (try clear hk); (try clear hi)))
      go_meet
      case rel => exact ⟨_, (true), (by first | rfl | (simp; done) | (simp [*]; done)), H', ⟨by first | omega | exact Nat.le_refl _⟩, ⟨by repeat (first | (with_reducible first | exact HB.out | apply below_alloc | apply pw_below_drewN | apply below_drew1) | exact HB.out)⟩⟩
  case rest =>
    clear HC4
    try clear c1
    try clear p2
    try clear c6
    obtain ⟨kq, x17_3, rfl, HA, HJ3, HB⟩ := hcut
    cases kq with
    | zero => exact absurd HA.out (by simp [pelotonlaw01_RoundScales.j0])
    | succ kj3 =>
      have H := HA.out
      clear HA
      simp only [pelotonlaw01_RoundScales.j0] at H
      by_cases c9 : x17_3 = true
      · subst c9
        have H1 : ((pelotonlaw01_awake.f kj3).bind fun t133 => (some t133)) = some r := by rw [if_pos rfl] at H; exact H
        clear H
        have H := H1
        clear H1
        replace H := Option.bind_eq_some_iff.mp H
        obtain ⟨t133, A100, H⟩ := H
        replace H : (some t133) = some r := H
        have A10 := Aside0.mk A100
        clear A100
        obtain rfl := Option.some.inj H
        go_wp2_with (first | ((with_reducible refine gate_callee (f := 12) rfl ?_); refine goesL_ (some 18) rfl rfl Try.func12 (by kernel_rfl) rfl #[] rfl (by (try simp only [List.map_toArray, List.map_cons, List.map_nil]); first | done | rfl | (simp only [List.length_drop, List.length_take]; rfl)) ?_; (with_reducible refine (pelotonlaw01_awake.calls kj3  t133 _ A10.out).mono ?_); rintro e w11 ⟨rfl, hb⟩; refine ⟨_, rfl, ?_⟩; have n0_ := Aside0.mk (below_step (by repeat (first | (with_reducible first | exact HB.out | apply below_alloc | apply pw_below_drewN | apply below_drew1) | exact HB.out)) hb); clear HB; have HB := n0_; clear n0_; (try clear hb); (try clear hb2); (try clear hk); (try clear hi)))
        go_ret
        exact ⟨by first | rfl | (simp [errW_none, errW_some] <;> rfl) | (simp [*, errW_none, errW_some] <;> rfl), by repeat (first | (with_reducible first | exact HB.out | apply below_alloc | apply pw_below_drewN | apply below_drew1) | exact HB.out)⟩
      · replace c9 := Bool.eq_false_iff.mpr c9
        subst c9
        have H1 : ((round_Quants.f kj3 a1 a2 l0).bind fun t134 => (if (t134.length : Int) = (l0.length : Int) then (pelotonlaw01_RoundScales.l0 kj3 l0 a1 a2 t134 0) else (some false))) = some r := by rw [if_neg (show ¬ (false = true) by decide)] at H; exact H
        clear H
        have H := H1
        clear H1
        replace H := Option.bind_eq_some_iff.mp H
        obtain ⟨t134, A120, H⟩ := H
        replace H : (if (t134.length : Int) = (l0.length : Int) then (pelotonlaw01_RoundScales.l0 kj3 l0 a1 a2 t134 0) else (some false)) = some r := H
        have A12 := Aside0.mk A120
        clear A120
        by_cases c13 : (t134.length : Int) = (l0.length : Int)
        · rw [if_pos c13] at H
          have c13b0 : ((t134.length : Int) == (l0.length : Int)) = true := beq_iff_eq.mpr c13
          have c13b1 : ((t134.length : Int) != (l0.length : Int)) = false := bne_eq_false_iff_eq.mpr c13
          have c13b2 : (t134.length == l0.length) = true := by first | simpa using c13 | (simp at c13 ⊢; omega)
          clear c13
          have H' := Aside0.mk H
          clear H
          go_wp2_with (first | ((with_reducible refine gate_callee (f := 26) rfl ?_); refine goesL_ (some 22) rfl rfl Try.func26 (by kernel_rfl) rfl #[.int .i32 a1, .int .i64 a2, .slice A0 l0.length c0] rfl (by (try simp only [List.map_toArray, List.map_cons, List.map_nil]); first | done | rfl | (simp only [List.length_drop, List.length_take]; rfl)) ?_; (with_reducible refine (round_Quants.calls kj3 a1 a2 _ _ l0 t134 _ ?side1 ?side2 A12.out).mono ?_); (case side1 => repeat (first | exact (Kd.C_below HR0.out HB.out) | (with_reducible refine Kd.C_alloc ?_ _) | (with_reducible refine Kd.C_drewN ?_ _) | (with_reducible refine Kd.C_drew ?_))); (case side2 => exact HC0.out); rintro e w14 ⟨v135, rfl, ho0, hb⟩; refine ⟨_, rfl, ?_⟩; have n0_ := Aside0.mk (Kd.R_lower ho0 (below_size (by repeat (first | (with_reducible first | exact HB.out | apply below_alloc | apply pw_below_drewN | apply below_drew1) | exact HB.out)))); have n1_ := Aside0.mk (below_step (by repeat (first | (with_reducible first | exact HB.out | apply below_alloc | apply pw_below_drewN | apply below_drew1) | exact HB.out)) hb); clear HB; have HO136 := n0_; have HB := n1_; clear n0_ n1_; (try clear hb); (try clear hb2); (try clear hk); (try clear hi); (try clear ho0); obtain ⟨Ao15, co15, eo15⟩ := Kd.R_slice HO136.out; subst eo15))
          go_loopg [8] kj3 (fun kq v8 w' => ∃ (x8_2 : Int), v8 = .int .i64 x8_2 ∧ Aside0 (pelotonlaw01_RoundScales.l0 kq l0 a1 a2 t134 x8_2 = some r) ∧ Aside0 (kq ≤ kj3) ∧ Aside0 (Kd.R (Kd.int .i8) 26 w' w.heap.size (fun _ => True) (.slice Ao15 t134.length co15) t134) ∧ Aside0 (Below w.heap.size w w'))
          case atStart => exact ⟨(0), (by first | rfl | (simp; done) | (simp [*]; done)), H', ⟨Nat.le_refl _⟩, ⟨by (with_reducible repeat (first | apply Kd.R_alloc | apply Kd.R_drewN | apply Kd.R_drew)); exact HO136.out⟩, ⟨by repeat (first | (with_reducible first | exact HB.out | apply below_alloc | apply pw_below_drewN | apply below_drew1) | exact HB.out)⟩⟩
          case round =>
            clear H'
            try clear c1
            try clear c2
            try clear p2
            try clear c6
            try clear c9
            try clear c10
            try clear c12
            try clear c13
            try clear c13b0
            try clear c13b1
            try clear c13b2
            try clear p2
            obtain ⟨x8_2, rfl, HA, HK2, HO_7, HB⟩ := hrel
            cases gk with
            | zero => exact absurd HA.out (by simp [pelotonlaw01_RoundScales.l0])
            | succ k2 =>
              have H := HA.out
              clear HA
              simp only [pelotonlaw01_RoundScales.l0] at H
              by_cases c16 : x8_2 < (l0.length : Int)
              · rw [if_pos c16] at H
                have c16b0 : decide (x8_2 < (l0.length : Int)) = true := decide_eq_true c16
                clear c16
                by_cases c17 : 0 ≤ x8_2
                · rw [if_pos c17] at H
                  have c17b0 : decide (0 ≤ x8_2) = true := decide_eq_true c17
                  clear c17
                  replace H := Option.bind_eq_some_iff.mp H
                  obtain ⟨t138, A180, H⟩ := H
                  replace H : ((pelotonref01_Scale.f k2 (rd l0 x8_2) a1 a2 (-2147483648) 2147483647).bind fun t140 => (if x8_2 < (t134.length : Int) then (if (wrap64 (rd t134 x8_2)) = t138 then ((round_Quant.f (rd l0 x8_2) a1 a2).bind fun t143 => (if (wrap64 (t143)) = t138 then ((round_Scale.f (rd l0 x8_2) a1 a2).bind fun t145 => (if (wrap64 (t145)) = t140 then (pelotonlaw01_RoundScales.l0 k2 l0 a1 a2 t134 (wrap64 (x8_2 + 1))) else (some false))) else (some false))) else (some false)) else (none))) = some r := H
                  have A18 := Aside0.mk A180
                  clear A180
                  replace H := Option.bind_eq_some_iff.mp H
                  obtain ⟨t140, A190, H⟩ := H
                  replace H : (if x8_2 < (t134.length : Int) then (if (wrap64 (rd t134 x8_2)) = t138 then ((round_Quant.f (rd l0 x8_2) a1 a2).bind fun t143 => (if (wrap64 (t143)) = t138 then ((round_Scale.f (rd l0 x8_2) a1 a2).bind fun t145 => (if (wrap64 (t145)) = t140 then (pelotonlaw01_RoundScales.l0 k2 l0 a1 a2 t134 (wrap64 (x8_2 + 1))) else (some false))) else (some false))) else (some false)) else (none)) = some r := H
                  have A19 := Aside0.mk A190
                  clear A190
                  by_cases c20 : x8_2 < (t134.length : Int)
                  · rw [if_pos c20] at H
                    have c20b0 : decide (x8_2 < (t134.length : Int)) = true := decide_eq_true c20
                    clear c20
                    by_cases c21 : (wrap64 (rd t134 x8_2)) = t138
                    · rw [if_pos c21] at H
                      have c21b0 : ((wrap64 (rd t134 x8_2)) == t138) = true := beq_iff_eq.mpr c21
                      have c21b1 : ((wrap64 (rd t134 x8_2)) != t138) = false := bne_eq_false_iff_eq.mpr c21
                      clear c21
                      replace H := Option.bind_eq_some_iff.mp H
                      obtain ⟨t143, A220, H⟩ := H
                      replace H : (if (wrap64 (t143)) = t138 then ((round_Scale.f (rd l0 x8_2) a1 a2).bind fun t145 => (if (wrap64 (t145)) = t140 then (pelotonlaw01_RoundScales.l0 k2 l0 a1 a2 t134 (wrap64 (x8_2 + 1))) else (some false))) else (some false)) = some r := H
                      have A22 := Aside0.mk A220
                      clear A220
                      by_cases c23 : (wrap64 (t143)) = t138
                      · rw [if_pos c23] at H
                        have c23b0 : ((wrap64 (t143)) == t138) = true := beq_iff_eq.mpr c23
                        have c23b1 : ((wrap64 (t143)) != t138) = false := bne_eq_false_iff_eq.mpr c23
                        clear c23
                        replace H := Option.bind_eq_some_iff.mp H
                        obtain ⟨t145, A240, H⟩ := H
                        replace H : (if (wrap64 (t145)) = t140 then (pelotonlaw01_RoundScales.l0 k2 l0 a1 a2 t134 (wrap64 (x8_2 + 1))) else (some false)) = some r := H
                        have A24 := Aside0.mk A240
                        clear A240
                        by_cases c25 : (wrap64 (t145)) = t140
                        · rw [if_pos c25] at H
                          have c25b0 : ((wrap64 (t145)) == t140) = true := beq_iff_eq.mpr c25
                          have c25b1 : ((wrap64 (t145)) != t140) = false := bne_eq_false_iff_eq.mpr c25
                          clear c25
                          have H' := Aside0.mk H
                          clear H
                          have p137 : 0 ≤ (x8_2 : Int) := of_decide_eq_true (by first | (with_reducible assumption) | assumption)
                          have q137 : x8_2 < (l0.length : Int) := of_decide_eq_true (by first | (with_reducible assumption) | assumption)
                          obtain ⟨ad137, e137, hx137_0⟩ := Kd.at_int HR0.out x8_2 p137 q137
                          cases e137
                          replace hx137_0 := (HB.out.cell (World.block_lt_of_cell? w _ hx137_0)).trans hx137_0
                          replace p137 := eq_true p137
                          replace q137 := eq_true q137
                          go_wp2_with (first | ((with_reducible refine gate_callee (f := 27) rfl ?_); refine goesL_ (some 40) rfl rfl Try.func27 (by kernel_rfl) rfl #[.int .i32 (rd l0 x8_2), .int .i32 a1, .int .i64 a2, .int .i64 (-128), .int .i64 127] rfl (by (try simp only [List.map_toArray, List.map_cons, List.map_nil]); first | done | rfl | (simp only [List.length_drop, List.length_take]; rfl)) ?_; (with_reducible refine (pelotonref01_Scale.calls k2 (rd l0 x8_2) a1 a2 (-128) 127 t138 _ A18.out).mono ?_); rintro e w' ⟨rfl, ⟨nd, rfl⟩⟩; refine ⟨_, rfl, ?_⟩; have p139 : 0 ≤ (x8_2 : Int) := of_decide_eq_true (by first | (with_reducible assumption) | assumption); have q139 : x8_2 < (l0.length : Int) := of_decide_eq_true (by first | (with_reducible assumption) | assumption); obtain ⟨ad139, e139, hx139_0⟩ := Kd.at_int HR0.out x8_2 p139 q139; obtain rfl : ad137 = ad139 := (by injection e139); replace hx139_0 := (HB.out.cell (World.block_lt_of_cell? w _ hx139_0)).trans hx139_0; replace p139 := eq_true p139; replace q139 := eq_true q139) | ((with_reducible refine gate_callee (f := 27) rfl ?_); refine goesL_ (some 47) rfl rfl Try.func27 (by kernel_rfl) rfl #[.int .i32 (rd l0 x8_2), .int .i32 a1, .int .i64 a2, .int .i64 (-2147483648), .int .i64 2147483647] rfl (by (try simp only [List.map_toArray, List.map_cons, List.map_nil]); first | done | rfl | (simp only [List.length_drop, List.length_take]; rfl)) ?_; (with_reducible refine (pelotonref01_Scale.calls k2 (rd l0 x8_2) a1 a2 (-2147483648) 2147483647 t140 _ A19.out).mono ?_); rintro e w' ⟨rfl, ⟨nd, rfl⟩⟩; refine ⟨_, rfl, ?_⟩; have p141 : 0 ≤ (x8_2 : Int) := of_decide_eq_true (by first | (with_reducible assumption) | assumption); have q141 : x8_2 < (t134.length : Int) := of_decide_eq_true (by first | (with_reducible assumption) | assumption); obtain ⟨ad141, e141, hx141_0⟩ := Kd.at_int (Kd.R_reads' HO_7.out).2.2 x8_2 p141 q141; cases e141; replace p141 := eq_true p141; replace q141 := eq_true q141; have p142 : 0 ≤ (x8_2 : Int) := of_decide_eq_true (by first | (with_reducible assumption) | assumption); have q142 : x8_2 < (l0.length : Int) := of_decide_eq_true (by first | (with_reducible assumption) | assumption); obtain ⟨ad142, e142, hx142_0⟩ := Kd.at_int HR0.out x8_2 p142 q142; obtain rfl : ad137 = ad142 := (by injection e142); replace hx142_0 := (HB.out.cell (World.block_lt_of_cell? w _ hx142_0)).trans hx142_0; replace p142 := eq_true p142; replace q142 := eq_true q142) | (go_at_call 28; (with_reducible refine (round_Quant.calls (rd l0 x8_2) a1 a2 t143 _ A22.out).mono ?_); rintro e w26 ⟨rfl, hb⟩; have n0_ := Aside0.mk (Kd.R_below (by (with_reducible repeat (first | apply Kd.R_alloc | apply Kd.R_drewN | apply Kd.R_drew)); exact HO_7.out) hb); have n1_ := Aside0.mk (below_step (by repeat (first | (with_reducible first | exact HB.out | apply below_alloc | apply pw_below_drewN | apply below_drew1) | exact HB.out)) hb); clear HO_7; clear HB; have HO_7 := n0_; have HB := n1_; clear n0_ n1_; (try clear hb); (try clear hb2); (try clear hk); (try clear hi); have p144 : 0 ≤ (x8_2 : Int) := of_decide_eq_true (by first | (with_reducible assumption) | assumption); have q144 : x8_2 < (l0.length : Int) := of_decide_eq_true (by first | (with_reducible assumption) | assumption); obtain ⟨ad144, e144, hx144_0⟩ := Kd.at_int HR0.out x8_2 p144 q144; obtain rfl : ad137 = ad144 := (by injection e144); replace hx144_0 := (HB.out.cell (World.block_lt_of_cell? w _ hx144_0)).trans hx144_0; replace p144 := eq_true p144; replace q144 := eq_true q144) | (go_at_call 18; (with_reducible refine (round_Scale.calls (rd l0 x8_2) a1 a2 t145 _ A24.out).mono ?_); rintro e w27 ⟨rfl, hb⟩; have n0_ := Aside0.mk (Kd.R_below (by (with_reducible repeat (first | apply Kd.R_alloc | apply Kd.R_drewN | apply Kd.R_drew)); exact HO_7.out) hb); have n1_ := Aside0.mk (below_step (by repeat (first | (with_reducible first | exact HB.out | apply below_alloc | apply pw_below_drewN | apply below_drew1) | exact HB.out)) hb); clear HO_7; clear HB; have HO_7 := n0_; have HB := n1_; clear n0_ n1_; (try clear hb); (try clear hb2); (try clear hk); (try clear hi)))
                          go_roundg k2
                          case measure => have := HJ3.out; have := HK2.out; omega
                          case rel => exact ⟨(wrap64 (x8_2 + 1)), (by first | rfl | (simp; done) | (simp [*]; done)), H', ⟨by have := HJ3.out; have := HK2.out; omega⟩, ⟨by (with_reducible repeat (first | apply Kd.R_alloc | apply Kd.R_drewN | apply Kd.R_drew)); exact HO_7.out⟩, ⟨by repeat (first | (with_reducible first | exact HB.out | apply below_alloc | apply pw_below_drewN | apply below_drew1) | exact HB.out)⟩⟩
                        · rw [if_neg c25] at H
                          have c25b0 : ((wrap64 (t145)) == t140) = false := beq_eq_false_iff_ne.mpr c25
                          have c25b1 : ((wrap64 (t145)) != t140) = true := bne_iff_ne.mpr c25
                          obtain rfl := Option.some.inj H
                          have p137 : 0 ≤ (x8_2 : Int) := of_decide_eq_true (by first | (with_reducible assumption) | assumption)
                          have q137 : x8_2 < (l0.length : Int) := of_decide_eq_true (by first | (with_reducible assumption) | assumption)
                          obtain ⟨ad137, e137, hx137_0⟩ := Kd.at_int HR0.out x8_2 p137 q137
                          cases e137
                          replace hx137_0 := (HB.out.cell (World.block_lt_of_cell? w _ hx137_0)).trans hx137_0
                          replace p137 := eq_true p137
                          replace q137 := eq_true q137
                          go_wp2_with (first | ((with_reducible refine gate_callee (f := 27) rfl ?_); refine goesL_ (some 40) rfl rfl Try.func27 (by kernel_rfl) rfl #[.int .i32 (rd l0 x8_2), .int .i32 a1, .int .i64 a2, .int .i64 (-128), .int .i64 127] rfl (by (try simp only [List.map_toArray, List.map_cons, List.map_nil]); first | done | rfl | (simp only [List.length_drop, List.length_take]; rfl)) ?_; (with_reducible refine (pelotonref01_Scale.calls k2 (rd l0 x8_2) a1 a2 (-128) 127 t138 _ A18.out).mono ?_); rintro e w' ⟨rfl, ⟨nd, rfl⟩⟩; refine ⟨_, rfl, ?_⟩; have p139 : 0 ≤ (x8_2 : Int) := of_decide_eq_true (by first | (with_reducible assumption) | assumption); have q139 : x8_2 < (l0.length : Int) := of_decide_eq_true (by first | (with_reducible assumption) | assumption); obtain ⟨ad139, e139, hx139_0⟩ := Kd.at_int HR0.out x8_2 p139 q139; obtain rfl : ad137 = ad139 := (by injection e139); replace hx139_0 := (HB.out.cell (World.block_lt_of_cell? w _ hx139_0)).trans hx139_0; replace p139 := eq_true p139; replace q139 := eq_true q139) | ((with_reducible refine gate_callee (f := 27) rfl ?_); refine goesL_ (some 47) rfl rfl Try.func27 (by kernel_rfl) rfl #[.int .i32 (rd l0 x8_2), .int .i32 a1, .int .i64 a2, .int .i64 (-2147483648), .int .i64 2147483647] rfl (by (try simp only [List.map_toArray, List.map_cons, List.map_nil]); first | done | rfl | (simp only [List.length_drop, List.length_take]; rfl)) ?_; (with_reducible refine (pelotonref01_Scale.calls k2 (rd l0 x8_2) a1 a2 (-2147483648) 2147483647 t140 _ A19.out).mono ?_); rintro e w' ⟨rfl, ⟨nd, rfl⟩⟩; refine ⟨_, rfl, ?_⟩; have p141 : 0 ≤ (x8_2 : Int) := of_decide_eq_true (by first | (with_reducible assumption) | assumption); have q141 : x8_2 < (t134.length : Int) := of_decide_eq_true (by first | (with_reducible assumption) | assumption); obtain ⟨ad141, e141, hx141_0⟩ := Kd.at_int (Kd.R_reads' HO_7.out).2.2 x8_2 p141 q141; cases e141; replace p141 := eq_true p141; replace q141 := eq_true q141; have p142 : 0 ≤ (x8_2 : Int) := of_decide_eq_true (by first | (with_reducible assumption) | assumption); have q142 : x8_2 < (l0.length : Int) := of_decide_eq_true (by first | (with_reducible assumption) | assumption); obtain ⟨ad142, e142, hx142_0⟩ := Kd.at_int HR0.out x8_2 p142 q142; obtain rfl : ad137 = ad142 := (by injection e142); replace hx142_0 := (HB.out.cell (World.block_lt_of_cell? w _ hx142_0)).trans hx142_0; replace p142 := eq_true p142; replace q142 := eq_true q142) | (go_at_call 28; (with_reducible refine (round_Quant.calls (rd l0 x8_2) a1 a2 t143 _ A22.out).mono ?_); rintro e w28 ⟨rfl, hb⟩; have n0_ := Aside0.mk (Kd.R_below (by (with_reducible repeat (first | apply Kd.R_alloc | apply Kd.R_drewN | apply Kd.R_drew)); exact HO_7.out) hb); have n1_ := Aside0.mk (below_step (by repeat (first | (with_reducible first | exact HB.out | apply below_alloc | apply pw_below_drewN | apply below_drew1) | exact HB.out)) hb); clear HO_7; clear HB; have HO_7 := n0_; have HB := n1_; clear n0_ n1_; (try clear hb); (try clear hb2); (try clear hk); (try clear hi); have p144 : 0 ≤ (x8_2 : Int) := of_decide_eq_true (by first | (with_reducible assumption) | assumption); have q144 : x8_2 < (l0.length : Int) := of_decide_eq_true (by first | (with_reducible assumption) | assumption); obtain ⟨ad144, e144, hx144_0⟩ := Kd.at_int HR0.out x8_2 p144 q144; obtain rfl : ad137 = ad144 := (by injection e144); replace hx144_0 := (HB.out.cell (World.block_lt_of_cell? w _ hx144_0)).trans hx144_0; replace p144 := eq_true p144; replace q144 := eq_true q144) | (go_at_call 18; (with_reducible refine (round_Scale.calls (rd l0 x8_2) a1 a2 t145 _ A24.out).mono ?_); rintro e w29 ⟨rfl, hb⟩; have n0_ := Aside0.mk (Kd.R_below (by (with_reducible repeat (first | apply Kd.R_alloc | apply Kd.R_drewN | apply Kd.R_drew)); exact HO_7.out) hb); have n1_ := Aside0.mk (below_step (by repeat (first | (with_reducible first | exact HB.out | apply below_alloc | apply pw_below_drewN | apply below_drew1) | exact HB.out)) hb); clear HO_7; clear HB; have HO_7 := n0_; have HB := n1_; clear n0_ n1_; (try clear hb); (try clear hb2); (try clear hk); (try clear hi)))
                          go_ret
                          exact ⟨by first | rfl | (simp [errW_none, errW_some] <;> rfl) | (simp [*, errW_none, errW_some] <;> rfl), by repeat (first | (with_reducible first | exact HB.out | apply below_alloc | apply pw_below_drewN | apply below_drew1) | exact HB.out)⟩
                      · rw [if_neg c23] at H
                        have c23b0 : ((wrap64 (t143)) == t138) = false := beq_eq_false_iff_ne.mpr c23
                        have c23b1 : ((wrap64 (t143)) != t138) = true := bne_iff_ne.mpr c23
                        obtain rfl := Option.some.inj H
                        have p137 : 0 ≤ (x8_2 : Int) := of_decide_eq_true (by first | (with_reducible assumption) | assumption)
                        have q137 : x8_2 < (l0.length : Int) := of_decide_eq_true (by first | (with_reducible assumption) | assumption)
                        obtain ⟨ad137, e137, hx137_0⟩ := Kd.at_int HR0.out x8_2 p137 q137
                        cases e137
                        replace hx137_0 := (HB.out.cell (World.block_lt_of_cell? w _ hx137_0)).trans hx137_0
                        replace p137 := eq_true p137
                        replace q137 := eq_true q137
                        go_wp2_with (first | ((with_reducible refine gate_callee (f := 27) rfl ?_); refine goesL_ (some 40) rfl rfl Try.func27 (by kernel_rfl) rfl #[.int .i32 (rd l0 x8_2), .int .i32 a1, .int .i64 a2, .int .i64 (-128), .int .i64 127] rfl (by (try simp only [List.map_toArray, List.map_cons, List.map_nil]); first | done | rfl | (simp only [List.length_drop, List.length_take]; rfl)) ?_; (with_reducible refine (pelotonref01_Scale.calls k2 (rd l0 x8_2) a1 a2 (-128) 127 t138 _ A18.out).mono ?_); rintro e w' ⟨rfl, ⟨nd, rfl⟩⟩; refine ⟨_, rfl, ?_⟩; have p139 : 0 ≤ (x8_2 : Int) := of_decide_eq_true (by first | (with_reducible assumption) | assumption); have q139 : x8_2 < (l0.length : Int) := of_decide_eq_true (by first | (with_reducible assumption) | assumption); obtain ⟨ad139, e139, hx139_0⟩ := Kd.at_int HR0.out x8_2 p139 q139; obtain rfl : ad137 = ad139 := (by injection e139); replace hx139_0 := (HB.out.cell (World.block_lt_of_cell? w _ hx139_0)).trans hx139_0; replace p139 := eq_true p139; replace q139 := eq_true q139) | ((with_reducible refine gate_callee (f := 27) rfl ?_); refine goesL_ (some 47) rfl rfl Try.func27 (by kernel_rfl) rfl #[.int .i32 (rd l0 x8_2), .int .i32 a1, .int .i64 a2, .int .i64 (-2147483648), .int .i64 2147483647] rfl (by (try simp only [List.map_toArray, List.map_cons, List.map_nil]); first | done | rfl | (simp only [List.length_drop, List.length_take]; rfl)) ?_; (with_reducible refine (pelotonref01_Scale.calls k2 (rd l0 x8_2) a1 a2 (-2147483648) 2147483647 t140 _ A19.out).mono ?_); rintro e w' ⟨rfl, ⟨nd, rfl⟩⟩; refine ⟨_, rfl, ?_⟩; have p141 : 0 ≤ (x8_2 : Int) := of_decide_eq_true (by first | (with_reducible assumption) | assumption); have q141 : x8_2 < (t134.length : Int) := of_decide_eq_true (by first | (with_reducible assumption) | assumption); obtain ⟨ad141, e141, hx141_0⟩ := Kd.at_int (Kd.R_reads' HO_7.out).2.2 x8_2 p141 q141; cases e141; replace p141 := eq_true p141; replace q141 := eq_true q141; have p142 : 0 ≤ (x8_2 : Int) := of_decide_eq_true (by first | (with_reducible assumption) | assumption); have q142 : x8_2 < (l0.length : Int) := of_decide_eq_true (by first | (with_reducible assumption) | assumption); obtain ⟨ad142, e142, hx142_0⟩ := Kd.at_int HR0.out x8_2 p142 q142; obtain rfl : ad137 = ad142 := (by injection e142); replace hx142_0 := (HB.out.cell (World.block_lt_of_cell? w _ hx142_0)).trans hx142_0; replace p142 := eq_true p142; replace q142 := eq_true q142) | (go_at_call 28; (with_reducible refine (round_Quant.calls (rd l0 x8_2) a1 a2 t143 _ A22.out).mono ?_); rintro e w30 ⟨rfl, hb⟩; have n0_ := Aside0.mk (Kd.R_below (by (with_reducible repeat (first | apply Kd.R_alloc | apply Kd.R_drewN | apply Kd.R_drew)); exact HO_7.out) hb); have n1_ := Aside0.mk (below_step (by repeat (first | (with_reducible first | exact HB.out | apply below_alloc | apply pw_below_drewN | apply below_drew1) | exact HB.out)) hb); clear HO_7; clear HB; have HO_7 := n0_; have HB := n1_; clear n0_ n1_; (try clear hb); (try clear hb2); (try clear hk); (try clear hi)))
                        go_ret
                        exact ⟨by first | rfl | (simp [errW_none, errW_some] <;> rfl) | (simp [*, errW_none, errW_some] <;> rfl), by repeat (first | (with_reducible first | exact HB.out | apply below_alloc | apply pw_below_drewN | apply below_drew1) | exact HB.out)⟩
                    · rw [if_neg c21] at H
                      have c21b0 : ((wrap64 (rd t134 x8_2)) == t138) = false := beq_eq_false_iff_ne.mpr c21
                      have c21b1 : ((wrap64 (rd t134 x8_2)) != t138) = true := bne_iff_ne.mpr c21
                      obtain rfl := Option.some.inj H
                      have p137 : 0 ≤ (x8_2 : Int) := of_decide_eq_true (by first | (with_reducible assumption) | assumption)
                      have q137 : x8_2 < (l0.length : Int) := of_decide_eq_true (by first | (with_reducible assumption) | assumption)
                      obtain ⟨ad137, e137, hx137_0⟩ := Kd.at_int HR0.out x8_2 p137 q137
                      cases e137
                      replace hx137_0 := (HB.out.cell (World.block_lt_of_cell? w _ hx137_0)).trans hx137_0
                      replace p137 := eq_true p137
                      replace q137 := eq_true q137
                      go_wp2_with (first | ((with_reducible refine gate_callee (f := 27) rfl ?_); refine goesL_ (some 40) rfl rfl Try.func27 (by kernel_rfl) rfl #[.int .i32 (rd l0 x8_2), .int .i32 a1, .int .i64 a2, .int .i64 (-128), .int .i64 127] rfl (by (try simp only [List.map_toArray, List.map_cons, List.map_nil]); first | done | rfl | (simp only [List.length_drop, List.length_take]; rfl)) ?_; (with_reducible refine (pelotonref01_Scale.calls k2 (rd l0 x8_2) a1 a2 (-128) 127 t138 _ A18.out).mono ?_); rintro e w' ⟨rfl, ⟨nd, rfl⟩⟩; refine ⟨_, rfl, ?_⟩; have p139 : 0 ≤ (x8_2 : Int) := of_decide_eq_true (by first | (with_reducible assumption) | assumption); have q139 : x8_2 < (l0.length : Int) := of_decide_eq_true (by first | (with_reducible assumption) | assumption); obtain ⟨ad139, e139, hx139_0⟩ := Kd.at_int HR0.out x8_2 p139 q139; obtain rfl : ad137 = ad139 := (by injection e139); replace hx139_0 := (HB.out.cell (World.block_lt_of_cell? w _ hx139_0)).trans hx139_0; replace p139 := eq_true p139; replace q139 := eq_true q139) | ((with_reducible refine gate_callee (f := 27) rfl ?_); refine goesL_ (some 47) rfl rfl Try.func27 (by kernel_rfl) rfl #[.int .i32 (rd l0 x8_2), .int .i32 a1, .int .i64 a2, .int .i64 (-2147483648), .int .i64 2147483647] rfl (by (try simp only [List.map_toArray, List.map_cons, List.map_nil]); first | done | rfl | (simp only [List.length_drop, List.length_take]; rfl)) ?_; (with_reducible refine (pelotonref01_Scale.calls k2 (rd l0 x8_2) a1 a2 (-2147483648) 2147483647 t140 _ A19.out).mono ?_); rintro e w' ⟨rfl, ⟨nd, rfl⟩⟩; refine ⟨_, rfl, ?_⟩; have p141 : 0 ≤ (x8_2 : Int) := of_decide_eq_true (by first | (with_reducible assumption) | assumption); have q141 : x8_2 < (t134.length : Int) := of_decide_eq_true (by first | (with_reducible assumption) | assumption); obtain ⟨ad141, e141, hx141_0⟩ := Kd.at_int (Kd.R_reads' HO_7.out).2.2 x8_2 p141 q141; cases e141; replace p141 := eq_true p141; replace q141 := eq_true q141))
                      go_ret
                      exact ⟨by first | rfl | (simp [errW_none, errW_some] <;> rfl) | (simp [*, errW_none, errW_some] <;> rfl), by repeat (first | (with_reducible first | exact HB.out | apply below_alloc | apply pw_below_drewN | apply below_drew1) | exact HB.out)⟩
                  · rw [if_neg c20] at H
                    exact absurd H (by simp)
                · rw [if_neg c17] at H
                  exact absurd H (by simp)
              · rw [if_neg c16] at H
                have c16b0 : decide (x8_2 < (l0.length : Int)) = false := decide_eq_false c16
                clear c16
                obtain rfl := Option.some.inj H
                go_wp2
                go_ret
                exact ⟨by first | rfl | (simp [errW_none, errW_some] <;> rfl) | (simp [*, errW_none, errW_some] <;> rfl), by repeat (first | (with_reducible first | exact HB.out | apply below_alloc | apply pw_below_drewN | apply below_drew1) | exact HB.out)⟩
        · rw [if_neg c13] at H
          have c13b0 : ((t134.length : Int) == (l0.length : Int)) = false := beq_eq_false_iff_ne.mpr c13
          have c13b1 : ((t134.length : Int) != (l0.length : Int)) = true := bne_iff_ne.mpr c13
          have c13b2 : (t134.length == l0.length) = false := by first | simpa using c13 | (simp at c13 ⊢; omega)
          obtain rfl := Option.some.inj H
          go_wp2_with (first | ((with_reducible refine gate_callee (f := 26) rfl ?_); refine goesL_ (some 22) rfl rfl Try.func26 (by kernel_rfl) rfl #[.int .i32 a1, .int .i64 a2, .slice A0 l0.length c0] rfl (by (try simp only [List.map_toArray, List.map_cons, List.map_nil]); first | done | rfl | (simp only [List.length_drop, List.length_take]; rfl)) ?_; (with_reducible refine (round_Quants.calls kj3 a1 a2 _ _ l0 t134 _ ?side1 ?side2 A12.out).mono ?_); (case side1 => repeat (first | exact (Kd.C_below HR0.out HB.out) | (with_reducible refine Kd.C_alloc ?_ _) | (with_reducible refine Kd.C_drewN ?_ _) | (with_reducible refine Kd.C_drew ?_))); (case side2 => exact HC0.out); rintro e w31 ⟨v135, rfl, ho0, hb⟩; refine ⟨_, rfl, ?_⟩; have n0_ := Aside0.mk (Kd.R_lower ho0 (below_size (by repeat (first | (with_reducible first | exact HB.out | apply below_alloc | apply pw_below_drewN | apply below_drew1) | exact HB.out)))); have n1_ := Aside0.mk (below_step (by repeat (first | (with_reducible first | exact HB.out | apply below_alloc | apply pw_below_drewN | apply below_drew1) | exact HB.out)) hb); clear HB; have HO136 := n0_; have HB := n1_; clear n0_ n1_; (try clear hb); (try clear hb2); (try clear hk); (try clear hi); (try clear ho0); obtain ⟨Ao32, co32, eo32⟩ := Kd.R_slice HO136.out; subst eo32))
          go_ret
          exact ⟨by first | rfl | (simp [errW_none, errW_some] <;> rfl) | (simp [*, errW_none, errW_some] <;> rfl), by repeat (first | (with_reducible first | exact HB.out | apply below_alloc | apply pw_below_drewN | apply below_drew1) | exact HB.out)⟩

/-- THE ONE PURE STATEMENT of pelotonlaw01_RoundScales: yours. -/
def pelotonlaw01_RoundScales.Pure : Prop := ∀ (l0 : List Int) (a1 : Int) (a2 : Int), l0.length ≤ maxLen → l0.length * 4 ≤ 140737488351232 → (∀ x ∈ l0, (Lit.int .i32 x).wf = true) → (Lit.int .i32 a1).wf = true → (Lit.int .i64 a2).wf = true → ∃ k, pelotonlaw01_RoundScales.f k l0 a1 a2 = some true
theorem pelotonlaw01_RoundScales.walk (P : pelotonlaw01_RoundScales.Pure) (a0 : Option Addr) (len0 cap0 : Nat) (z0 : List Int) (a1 : Int) (a2 : Int) (w : World) (w0 : (a0 = none ∧ len0 = 0 ∧ cap0 = 0 ∧ z0 = []) ∨ ∃ x, a0 = some x ∧ len0 ≤ cap0 ∧ cap0 ≤ maxLen ∧ z0.length = cap0 ∧ (∀ i, i < z0.length → w.cell? (x.add i) = some (.int .i32 (z0.getD i 0))) ∧ ∀ n ∈ z0, (Lit.int .i32 n).wf = true) (y0 : len0 * 4 ≤ 140737488351232) (w1 : (Lit.int .i32 a1).wf = true) (w2 : (Lit.int .i64 a2).wf = true) :
    Calls Try.prog 10 #[.slice a0 len0 cap0, .int .i32 a1, .int .i64 a2] w fun e w' => e = .returned (.bool true) ∧ Below w.heap.size w w' := by
  obtain ⟨l0, rfl, hr0, hm0, hw0, hc0⟩ := ReadsInt.ofRowC w0
  obtain ⟨k, h⟩ := P l0 a1 a2 hm0 y0 hw0 w1 w2
  refine (pelotonlaw01_RoundScales.calls k _ _ l0 a1 a2 true w (Kd.C_of_reads (d := (0 : Int)) (h1 := fun _ => rfl) hr0) hc0 h).mono ?_
  rintro e w' ⟨rfl, hd⟩
  exact ⟨rfl, hd⟩

end Go.Proofs.Ytbbemkdfbiffbaa.PRoundScales
