-- Written by a program of this session (a turned copy of the print) out of the translation. Lean checks it.
import Derived.Test.YtananmepljeldaaQMatmulNarrowsx0
import Derived.Test.YtananmepljeldaaQMatmulNarrowsx3
namespace Go.Proofs.Ytananmepljeldaa.QMatmulNarrows
open Go.RowKit Go.Proofs.YtananmepljeldaaW.PrintWords Go.Proofs.YtananmepljeldaaW.PrintLast Go.Proofs.YtananmepljeldaaW.PrintMore
attribute [local go_sem] max2_int min2_int max_two min_two max_three min_three max_four min_four   -- for this text's walks alone
open Go.Proofs.YtananmepljeldaaW.PrintWords renaming below_alloc → b_a, pw_below_drewN → b_n, below_drew1 → b_d, below_set → b_s, blk_drewN → k_n, blk_drew → k_d, blk_alloc → k_a
open List renaming setIfInBounds_toArray → l_1, set_cons_zero → l_2, set_cons_succ → l_3, map_toArray → l_4, map_cons → l_5, map_nil → l_6, length_drop → l_7, length_take → l_8
set_option linter.unusedVariables false
set_option linter.unusedSimpArgs false

/-! ### pelotonref01_Shift: function 39 -/
mutual
def pelotonref01_Shift.j0 : Nat → Int → Int → Option (Int)
 | 0, _, _ => none
 | k + 1, x0, x1 => if x1 ≤ 0 then (some x0) else (pelotonref01_Shift.l0 k x0 x1 1 0)
def pelotonref01_Shift.l0 : Nat → Int → Int → Int → Int → Option (Int)
 | 0, _, _, _, _ => none
 | k + 1, x0, x1, x5, x6 => if x6 < x1 then (pelotonref01_Shift.l0 k x0 x1 (wrap64 (x5 * 2)) (wrap64 (x6 + 1))) else (if x5 = 0 then (none) else (if (Int.tmod x0 x5) < 0 then (if (wrap64 ((Int.tmod x0 x5) + x5)) > (wrap64 (x5 - (wrap64 ((Int.tmod x0 x5) + x5)))) then (some (wrap64 ((wrap64 ((wrap64 (Int.tdiv x0 x5)) - 1)) + 1))) else (if (wrap64 ((Int.tmod x0 x5) + x5)) = (wrap64 (x5 - (wrap64 ((Int.tmod x0 x5) + x5)))) then (if (Int.tmod (wrap64 ((wrap64 (Int.tdiv x0 x5)) - 1)) 2) = 0 then (some (wrap64 ((wrap64 (Int.tdiv x0 x5)) - 1))) else (some (wrap64 ((wrap64 ((wrap64 (Int.tdiv x0 x5)) - 1)) + 1)))) else (some (wrap64 ((wrap64 (Int.tdiv x0 x5)) - 1))))) else (if (Int.tmod x0 x5) > (wrap64 (x5 - (Int.tmod x0 x5))) then (some (wrap64 ((wrap64 (Int.tdiv x0 x5)) + 1))) else (if (Int.tmod x0 x5) = (wrap64 (x5 - (Int.tmod x0 x5))) then (if (Int.tmod (wrap64 (Int.tdiv x0 x5)) 2) = 0 then (some (wrap64 (Int.tdiv x0 x5))) else (some (wrap64 ((wrap64 (Int.tdiv x0 x5)) + 1)))) else (some (wrap64 (Int.tdiv x0 x5)))))))
end
def pelotonref01_Shift.f (k : Nat) (a0 : Int) (a1 : Int) : Option (Int) := if a1 > 62 then (pelotonref01_Shift.j0 k a0 62) else (pelotonref01_Shift.j0 k a0 a1)
theorem pelotonref01_Shift.mono_l : ∀ k, (∀ y0 y1, LeO (pelotonref01_Shift.j0 k y0 y1) (pelotonref01_Shift.j0 (k + 1) y0 y1)) ∧ (∀ y0 y1 y2 y3, LeO (pelotonref01_Shift.l0 k y0 y1 y2 y3) (pelotonref01_Shift.l0 (k + 1) y0 y1 y2 y3))
 | 0 => ⟨fun _ _ r h => by simp [pelotonref01_Shift.j0] at h, fun _ _ _ _ r h => by simp [pelotonref01_Shift.l0] at h⟩
 | k + 1 => by
  obtain ⟨ih0, ih1⟩ := pelotonref01_Shift.mono_l k
  refine ⟨?_, ?_⟩
  ·
   intro y0 y1
   unfold pelotonref01_Shift.j0
   repeat' first
   | (with_reducible exact ih0 _ _)
   | (with_reducible exact ih1 _ _ _ _)
   | (with_reducible exact LeO.refl _)
   | (with_reducible exact LeO.none _)
   | (with_reducible refine LeO.ite ?_ ?_)
   | (with_reducible refine LeO.bind ?_ (fun _ => ?_))
   | exact ih0 _ _
   | exact ih1 _ _ _ _
   | exact LeO.none _
   | refine LeO.ite ?_ ?_
   | refine LeO.bind ?_ (fun _ => ?_)
  ·
   intro y0 y1 y2 y3
   unfold pelotonref01_Shift.l0
   repeat' first
   | (with_reducible exact ih0 _ _)
   | (with_reducible exact ih1 _ _ _ _)
   | (with_reducible exact LeO.refl _)
   | (with_reducible exact LeO.none _)
   | (with_reducible refine LeO.ite ?_ ?_)
   | (with_reducible refine LeO.bind ?_ (fun _ => ?_))
   | exact ih0 _ _
   | exact ih1 _ _ _ _
   | exact LeO.none _
   | refine LeO.ite ?_ ?_
   | refine LeO.bind ?_ (fun _ => ?_)
theorem pelotonref01_Shift.mono : ∀ a0 a1 k, LeO (pelotonref01_Shift.f k a0 a1) (pelotonref01_Shift.f (k + 1) a0 a1) := by
 intro a0 a1 k
 obtain ⟨ih0, ih1⟩ := pelotonref01_Shift.mono_l k
 unfold pelotonref01_Shift.f
 repeat' first
   | (with_reducible exact ih0 _ _)
   | (with_reducible exact ih1 _ _ _ _)
   | (with_reducible exact LeO.refl _)
   | (with_reducible exact LeO.none _)
   | (with_reducible refine LeO.ite ?_ ?_)
   | (with_reducible refine LeO.bind ?_ (fun _ => ?_))
   | exact ih0 _ _
   | exact ih1 _ _ _ _
   | exact LeO.none _
   | refine LeO.ite ?_ ?_
   | refine LeO.bind ?_ (fun _ => ?_)
set_option maxHeartbeats 60000000 in
set_option maxRecDepth 100000 in
theorem pelotonref01_Shift.calls (k : Nat) (a0 : Int) (a1 : Int) (r : Int) (w : World) (h : pelotonref01_Shift.f k a0 a1 = some r) :
  Calls Try.prog 39 #[.int .i64 a0, .int .i64 a1] w fun e w' => e = .returned (.int .i64 r) ∧ Drawn0 w w' := by
 have H : (if a1 > 62 then (pelotonref01_Shift.j0 k a0 62) else (pelotonref01_Shift.j0 k a0 a1)) = some r := h
 clear h
 have HC3 := Aside0.mk H
 clear H
 go_enter Try.func39, Try.ntmps39
 go_upto_if 10 with (fail)
 go_cut [1] (fun v1 wc => ∃ (kq : Nat) (x1_2 : Int), v1 = .int .i64 x1_2 ∧ Aside0 (pelotonref01_Shift.j0 kq a0 x1_2 = some r) ∧ Aside0 (kq ≤ k) ∧ Drawn0 w wc)
 case first =>
  have H := HC3.out
  clear HC3
  by_cases c4 : a1 > 62
  ·
   rw [if_pos c4] at H
   have c4b0 : decide (62 < a1) = true := decide_eq_true c4
   clear c4
   (first | rw [c4b0] | (simp only [i64_w, i32_w]; rw [c4b0]) | skip)
   have H' := Aside0.mk H
   clear H
   go_wp2
   go_meet
   case rel => exact ⟨_, (62), (by first | rfl | (simp; done) | (simp [*]; done)), H', ⟨by first | omega | exact Nat.le_refl _⟩, by repeat (first | exact Drawn0.refl _ | apply Drawn0.step)⟩
  rw [if_neg c4] at H
  have c4b0 : decide (62 < a1) = false := decide_eq_false c4
  clear c4
  (first | rw [c4b0] | (simp only [i64_w, i32_w]; rw [c4b0]) | skip)
  have H' := Aside0.mk H
  clear H
  go_wp2
  go_meet
  case rel => exact ⟨_, (a1), (by first | rfl | (simp; done) | (simp [*]; done)), H', ⟨by first | omega | exact Nat.le_refl _⟩, by repeat (first | exact Drawn0.refl _ | apply Drawn0.step)⟩
 case rest => as_aux_lemma =>
  clear HC3
  try clear p2
  try clear c3
  try clear c4
  try clear c4b0
  obtain ⟨kq, x1_2, rfl, HA, HJ2, ⟨mc2, rfl⟩⟩ := hcut
  cases kq with
  | zero => exact absurd HA.out (by simp [pelotonref01_Shift.j0])
  | succ kj2 =>
   have H := HA.out
   clear HA
   simp only [pelotonref01_Shift.j0] at H
   by_cases c5 : x1_2 ≤ 0
   ·
    rw [if_pos c5] at H
    have c5b0 : decide (x1_2 ≤ 0) = true := decide_eq_true c5
    clear c5
    obtain rfl := Option.some.inj H
    go_wp2
    go_ret
    exact ⟨by first | rfl | (simp; done) | (simp [*]; done), by repeat (first | exact Drawn0.refl _ | apply Drawn0.step)⟩
   rw [if_neg c5] at H
   have c5b0 : decide (x1_2 ≤ 0) = false := decide_eq_false c5
   clear c5
   have H' := Aside0.mk H
   clear H
   go_wp2
   go_loopg [5, 6] kj2 (fun kq v5 v6 w' => ∃ (x5_2 : Int) (x6_2 : Int), v5 = .int .i64 x5_2 ∧ v6 = .int .i64 x6_2 ∧ Aside0 (pelotonref01_Shift.l0 kq a0 x1_2 x5_2 x6_2 = some r) ∧ Aside0 (kq ≤ kj2) ∧ Drawn0 w w')
   case atStart => exact ⟨(1), (0), (by first | rfl | (simp; done) | (simp [*]; done)), (by first | rfl | (simp; done) | (simp [*]; done)), H', ⟨Nat.le_refl _⟩, by repeat (first | exact Drawn0.refl _ | apply Drawn0.step)⟩
   case round =>
    clear H'
    try clear c2
    try clear p2
    try clear c3
    try clear c4
    try clear c4b0
    try clear c5
    try clear c5b0
    try clear p2
    obtain ⟨x5_2, x6_2, rfl, rfl, HA, HK2, ⟨m2, rfl⟩⟩ := hrel
    cases gk with
    | zero => exact absurd HA.out (by simp [pelotonref01_Shift.l0])
    | succ k2 =>
     have H := HA.out
     clear HA
     simp only [pelotonref01_Shift.l0] at H
     by_cases c6 : x6_2 < x1_2
     ·
      rw [if_pos c6] at H
      have c6b0 : decide (x6_2 < x1_2) = true := decide_eq_true c6
      clear c6
      have H' := Aside0.mk H
      clear H
      go_wp2
      go_roundg k2
      case measure => have := HJ2.out; have := HK2.out; omega
      case rel => exact ⟨(wrap64 (x5_2 * 2)), (wrap64 (x6_2 + 1)), (by first | rfl | (simp; done) | (simp [*]; done)), (by first | rfl | (simp; done) | (simp [*]; done)), H', ⟨by have := HJ2.out; have := HK2.out; omega⟩, by repeat (first | exact Drawn0.refl _ | apply Drawn0.step)⟩
     rw [if_neg c6] at H
     have c6b0 : decide (x6_2 < x1_2) = false := decide_eq_false c6
     clear c6
     by_cases c7 : x5_2 = 0
     ·
      rw [if_pos c7] at H
      exact absurd H (by simp)
     rw [if_neg c7] at H
     have c7b0 : (x5_2 == 0) = false := beq_eq_false_iff_ne.mpr c7
     have c7b1 : (x5_2 != 0) = true := bne_iff_ne.mpr c7
     by_cases c8 : (Int.tmod a0 x5_2) < 0
     rotate_left
     ·
      rw [if_neg c8] at H
      have c8b0 : decide ((Int.tmod a0 x5_2) < 0) = false := decide_eq_false c8
      clear c8
      by_cases c12 : (Int.tmod a0 x5_2) > (wrap64 (x5_2 - (Int.tmod a0 x5_2)))
      ·
       rw [if_pos c12] at H
       have c12b0 : decide ((wrap64 (x5_2 - (Int.tmod a0 x5_2))) < (Int.tmod a0 x5_2)) = true := decide_eq_true c12
       clear c12
       obtain rfl := Option.some.inj H
       go_wp2
       go_ret
       exact ⟨by first | rfl | (simp; done) | (simp [*]; done), by repeat (first | exact Drawn0.refl _ | apply Drawn0.step)⟩
      rw [if_neg c12] at H
      have c12b0 : decide ((wrap64 (x5_2 - (Int.tmod a0 x5_2))) < (Int.tmod a0 x5_2)) = false := decide_eq_false c12
      clear c12
      by_cases c13 : (Int.tmod a0 x5_2) = (wrap64 (x5_2 - (Int.tmod a0 x5_2)))
      rotate_left
      ·
       rw [if_neg c13] at H
       have c13b0 : ((Int.tmod a0 x5_2) == (wrap64 (x5_2 - (Int.tmod a0 x5_2)))) = false := beq_eq_false_iff_ne.mpr c13
       have c13b1 : ((Int.tmod a0 x5_2) != (wrap64 (x5_2 - (Int.tmod a0 x5_2)))) = true := bne_iff_ne.mpr c13
       obtain rfl := Option.some.inj H
       go_wp2
       go_ret
       exact ⟨by first | rfl | (simp; done) | (simp [*]; done), by repeat (first | exact Drawn0.refl _ | apply Drawn0.step)⟩

      rw [if_pos c13] at H
      have c13b0 : ((Int.tmod a0 x5_2) == (wrap64 (x5_2 - (Int.tmod a0 x5_2)))) = true := beq_iff_eq.mpr c13
      have c13b1 : ((Int.tmod a0 x5_2) != (wrap64 (x5_2 - (Int.tmod a0 x5_2)))) = false := bne_eq_false_iff_eq.mpr c13
      clear c13
      by_cases c14 : (Int.tmod (wrap64 (Int.tdiv a0 x5_2)) 2) = 0
      rotate_left
      ·
       rw [if_neg c14] at H
       have c14b0 : ((Int.tmod (wrap64 (Int.tdiv a0 x5_2)) 2) == 0) = false := beq_eq_false_iff_ne.mpr c14
       have c14b1 : ((Int.tmod (wrap64 (Int.tdiv a0 x5_2)) 2) != 0) = true := bne_iff_ne.mpr c14
       obtain rfl := Option.some.inj H
       go_wp2
       go_ret
       exact ⟨by first | rfl | (simp; done) | (simp [*]; done), by repeat (first | exact Drawn0.refl _ | apply Drawn0.step)⟩
      rw [if_pos c14] at H
      have c14b0 : ((Int.tmod (wrap64 (Int.tdiv a0 x5_2)) 2) == 0) = true := beq_iff_eq.mpr c14
      have c14b1 : ((Int.tmod (wrap64 (Int.tdiv a0 x5_2)) 2) != 0) = false := bne_eq_false_iff_eq.mpr c14
      clear c14
      obtain rfl := Option.some.inj H
      go_wp2
      go_ret
      exact ⟨by first | rfl | (simp; done) | (simp [*]; done), by repeat (first | exact Drawn0.refl _ | apply Drawn0.step)⟩
     rw [if_pos c8] at H
     have c8b0 : decide ((Int.tmod a0 x5_2) < 0) = true := decide_eq_true c8
     clear c8
     by_cases c9 : (wrap64 ((Int.tmod a0 x5_2) + x5_2)) > (wrap64 (x5_2 - (wrap64 ((Int.tmod a0 x5_2) + x5_2))))
     ·
      rw [if_pos c9] at H
      have c9b0 : decide ((wrap64 (x5_2 - (wrap64 ((Int.tmod a0 x5_2) + x5_2)))) < (wrap64 ((Int.tmod a0 x5_2) + x5_2))) = true := decide_eq_true c9
      clear c9
      obtain rfl := Option.some.inj H
      go_wp2
      go_ret
      exact ⟨by first | rfl | (simp; done) | (simp [*]; done), by repeat (first | exact Drawn0.refl _ | apply Drawn0.step)⟩
     rw [if_neg c9] at H
     have c9b0 : decide ((wrap64 (x5_2 - (wrap64 ((Int.tmod a0 x5_2) + x5_2)))) < (wrap64 ((Int.tmod a0 x5_2) + x5_2))) = false := decide_eq_false c9
     clear c9
     by_cases c10 : (wrap64 ((Int.tmod a0 x5_2) + x5_2)) = (wrap64 (x5_2 - (wrap64 ((Int.tmod a0 x5_2) + x5_2))))
     rotate_left
     ·
      rw [if_neg c10] at H
      have c10b0 : ((wrap64 ((Int.tmod a0 x5_2) + x5_2)) == (wrap64 (x5_2 - (wrap64 ((Int.tmod a0 x5_2) + x5_2))))) = false := beq_eq_false_iff_ne.mpr c10
      have c10b1 : ((wrap64 ((Int.tmod a0 x5_2) + x5_2)) != (wrap64 (x5_2 - (wrap64 ((Int.tmod a0 x5_2) + x5_2))))) = true := bne_iff_ne.mpr c10
      obtain rfl := Option.some.inj H
      go_wp2
      go_ret
      exact ⟨by first | rfl | (simp; done) | (simp [*]; done), by repeat (first | exact Drawn0.refl _ | apply Drawn0.step)⟩
     rw [if_pos c10] at H
     have c10b0 : ((wrap64 ((Int.tmod a0 x5_2) + x5_2)) == (wrap64 (x5_2 - (wrap64 ((Int.tmod a0 x5_2) + x5_2))))) = true := beq_iff_eq.mpr c10
     have c10b1 : ((wrap64 ((Int.tmod a0 x5_2) + x5_2)) != (wrap64 (x5_2 - (wrap64 ((Int.tmod a0 x5_2) + x5_2))))) = false := bne_eq_false_iff_eq.mpr c10
     clear c10
     by_cases c11 : (Int.tmod (wrap64 ((wrap64 (Int.tdiv a0 x5_2)) - 1)) 2) = 0
     rotate_left
     ·
      rw [if_neg c11] at H
      have c11b0 : ((Int.tmod (wrap64 ((wrap64 (Int.tdiv a0 x5_2)) - 1)) 2) == 0) = false := beq_eq_false_iff_ne.mpr c11
      have c11b1 : ((Int.tmod (wrap64 ((wrap64 (Int.tdiv a0 x5_2)) - 1)) 2) != 0) = true := bne_iff_ne.mpr c11
      obtain rfl := Option.some.inj H
      go_wp2
      go_ret
      exact ⟨by first | rfl | (simp; done) | (simp [*]; done), by repeat (first | exact Drawn0.refl _ | apply Drawn0.step)⟩
     rw [if_pos c11] at H
     have c11b0 : ((Int.tmod (wrap64 ((wrap64 (Int.tdiv a0 x5_2)) - 1)) 2) == 0) = true := beq_iff_eq.mpr c11
     have c11b1 : ((Int.tmod (wrap64 ((wrap64 (Int.tdiv a0 x5_2)) - 1)) 2) != 0) = false := bne_eq_false_iff_eq.mpr c11
     clear c11
     obtain rfl := Option.some.inj H
     go_wp2
     go_ret
     exact ⟨by first | rfl | (simp; done) | (simp [*]; done), by repeat (first | exact Drawn0.refl _ | apply Drawn0.step)⟩
/-! ### pelotonref01_Scale: function 25 -/
def pelotonref01_Scale.f (k : Nat) (a0 : Int) (a1 : Int) (a2 : Int) (a3 : Int) (a4 : Int) : Option (Int) := (pelotonref01_Shift.f k (wrap64 ((wrap64 (a0)) * (wrap64 (a1)))) a2).bind fun t174 => ((pelotonref01_Near.f t174 a3 a4).bind fun t175 => (some t175))
theorem pelotonref01_Scale.mono : ∀ a0 a1 a2 a3 a4 k, LeO (pelotonref01_Scale.f k a0 a1 a2 a3 a4) (pelotonref01_Scale.f (k + 1) a0 a1 a2 a3 a4) := by
 intro a0 a1 a2 a3 a4 k
 unfold pelotonref01_Scale.f
 repeat' first
   | (with_reducible exact pelotonref01_Shift.mono _ _ _)
   | (with_reducible exact LeO.refl _)
   | (with_reducible exact LeO.none _)
   | (with_reducible refine LeO.ite ?_ ?_)
   | (with_reducible refine LeO.bind ?_ (fun _ => ?_))
   | exact pelotonref01_Shift.mono _ _ _
   | exact LeO.none _
   | refine LeO.ite ?_ ?_
   | refine LeO.bind ?_ (fun _ => ?_)
set_option maxHeartbeats 60000000 in
set_option maxRecDepth 100000 in
theorem pelotonref01_Scale.calls (k : Nat) (a0 : Int) (a1 : Int) (a2 : Int) (a3 : Int) (a4 : Int) (r : Int) (w : World) (h : pelotonref01_Scale.f k a0 a1 a2 a3 a4 = some r) :
  Calls Try.prog 25 #[.int .i32 a0, .int .i32 a1, .int .i64 a2, .int .i64 a3, .int .i64 a4] w fun e w' => e = .returned (.int .i64 r) ∧ Drawn0 w w' := by
 have H : ((pelotonref01_Shift.f k (wrap64 ((wrap64 (a0)) * (wrap64 (a1)))) a2).bind fun t174 => ((pelotonref01_Near.f t174 a3 a4).bind fun t175 => (some t175))) = some r := h
 clear h
 replace H := Option.bind_eq_some_iff.mp H
 obtain ⟨t174, A60, H⟩ := H
 replace H : ((pelotonref01_Near.f t174 a3 a4).bind fun t175 => (some t175)) = some r := H
 have A6 := Aside0.mk A60
 clear A60
 replace H := Option.bind_eq_some_iff.mp H
 obtain ⟨t175, A70, H⟩ := H
 replace H : (some t175) = some r := H
 have A7 := Aside0.mk A70
 clear A70
 obtain rfl := Option.some.inj H
 go_enter Try.func25, Try.ntmps25
 go_wp2_with (first | ((with_reducible refine gate_callee (f := 39) rfl ?_); refine goesL_ (some 17) rfl rfl Try.func39 (by kernel_rfl) rfl #[.int .i64 (wrap64 ((wrap64 (a0)) * (wrap64 (a1)))), .int .i64 a2] rfl (by (try simp only [l_4, l_5, l_6]); first | done | rfl | (simp only [l_7, l_8]; rfl)) ?_; (with_reducible refine (pelotonref01_Shift.calls k (wrap64 ((wrap64 (a0)) * (wrap64 (a1)))) a2 t174 _ A6.out).mono ?_); rintro e w' ⟨rfl, ⟨nd, rfl⟩⟩; refine ⟨_, rfl, ?_⟩) | ((with_reducible refine gate_callee (f := 38) rfl ?_); refine goesL_ (some 20) rfl rfl Try.func38 (by kernel_rfl) rfl #[.int .i64 t174, .int .i64 a3, .int .i64 a4] rfl (by (try simp only [l_4, l_5, l_6]); first | done | rfl | (simp only [l_7, l_8]; rfl)) ?_; (with_reducible refine (pelotonref01_Near.calls t174 a3 a4 t175 _ A7.out).mono ?_); rintro e w' ⟨rfl, ⟨nd, rfl⟩⟩; refine ⟨_, rfl, ?_⟩))
 go_ret
 exact ⟨by first | rfl | (simp; done) | (simp [*]; done), by repeat (first | exact Drawn0.refl _ | apply Drawn0.step)⟩

end Go.Proofs.Ytananmepljeldaa.QMatmulNarrows
