-- Written by a program of this session (a turned copy of the print) out of the translation. Lean checks it.
import Derived.Test.YtnkphgiodpledaaQMsgParsesx0
import Derived.Test.YtnkphgiodpledaaQMsgParsesx2
namespace Go.Proofs.Ytnkphgiodpledaa.QMsgParses
open Go.RowKit Go.Proofs.YtnkphgiodpledaaW.PrintWords Go.Proofs.YtnkphgiodpledaaW.PrintLast Go.Proofs.YtnkphgiodpledaaW.PrintMore
attribute [local go_sem] max2_int min2_int max_two min_two max_three min_three max_four min_four   -- for this text's walks alone
open Go.Proofs.YtnkphgiodpledaaW.PrintWords renaming below_alloc → b_a, pw_below_drewN → b_n, below_drew1 → b_d, below_set → b_s, blk_drewN → k_n, blk_drew → k_d, blk_alloc → k_a
open List renaming setIfInBounds_toArray → l_1, set_cons_zero → l_2, set_cons_succ → l_3, map_toArray → l_4, map_cons → l_5, map_nil → l_6, length_drop → l_7, length_take → l_8
set_option linter.unusedVariables false
set_option linter.unusedSimpArgs false

/-! ### pelotonref14_Size: function 41 -/
def pelotonref14_Size.j0 : Nat → List Int → Bool → Option (Int × Int)
 | 0, _, _ => none
 | k + 1, x0, x17 => if x17 = true then (some (0, 71)) else (if 2 < (x0.length : Int) then (if (rd x0 2) = 1 then (if 4 < (x0.length : Int) then (if 5 < (x0.length : Int) then (if 6 < (x0.length : Int) then (if 7 < (x0.length : Int) then (if (wrap64 ((wrap64 ((wrap64 ((wrap64 ((wrap64 ((wrap64 ((wrap64 (rd x0 4)) * 256)) + (wrap64 (rd x0 5)))) * 256)) + (wrap64 (rd x0 6)))) * 256)) + (wrap64 (rd x0 7)))) > 1048576 then (some (0, 140)) else (some (wrap64 ((wrap64 ((wrap64 ((wrap64 ((wrap64 ((wrap64 ((wrap64 ((wrap64 (rd x0 4)) * 256)) + (wrap64 (rd x0 5)))) * 256)) + (wrap64 (rd x0 6)))) * 256)) + (wrap64 (rd x0 7)))) + 12), 0))) else (none)) else (none)) else (none)) else (none)) else (some (0, 141))) else (none))
def pelotonref14_Size.f (k : Nat) (l0 : List Int) : Option (Int × Int) := if (l0.length : Int) < 12 then (some (0, 70)) else (if 0 < (l0.length : Int) then (if (rd l0 0) = 80 then (if 1 < (l0.length : Int) then (pelotonref14_Size.j0 k l0 ((rd l0 1) != 76)) else (none)) else (pelotonref14_Size.j0 k l0 true)) else (none))
theorem pelotonref14_Size.mono_l : ∀ k, (∀ y0 y1, LeO (pelotonref14_Size.j0 k y0 y1) (pelotonref14_Size.j0 (k + 1) y0 y1))
 | 0 => fun _ _ r h => by simp [pelotonref14_Size.j0] at h
 | k + 1 => by
  have ih0 := pelotonref14_Size.mono_l k
  ·
   intro y0 y1
   unfold pelotonref14_Size.j0
   repeat' first
   | (with_reducible exact ih0 _ _)
   | (with_reducible exact LeO.refl _)
   | (with_reducible exact LeO.none _)
   | (with_reducible refine LeO.ite ?_ ?_)
   | (with_reducible refine LeO.bind ?_ (fun _ => ?_))
   | exact ih0 _ _
   | exact LeO.none _
   | refine LeO.ite ?_ ?_
   | refine LeO.bind ?_ (fun _ => ?_)
theorem pelotonref14_Size.mono : ∀ a0 k, LeO (pelotonref14_Size.f k a0) (pelotonref14_Size.f (k + 1) a0) := by
 intro a0 k
 have ih0 := pelotonref14_Size.mono_l k
 unfold pelotonref14_Size.f
 repeat' first
   | (with_reducible exact ih0 _ _)
   | (with_reducible exact LeO.refl _)
   | (with_reducible exact LeO.none _)
   | (with_reducible refine LeO.ite ?_ ?_)
   | (with_reducible refine LeO.bind ?_ (fun _ => ?_))
   | exact ih0 _ _
   | exact LeO.none _
   | refine LeO.ite ?_ ?_
   | refine LeO.bind ?_ (fun _ => ?_)
set_option maxHeartbeats 60000000 in
set_option maxRecDepth 100000 in
theorem pelotonref14_Size.calls (k : Nat) (A0 : Option Addr) (c0 : Nat) (l0 : List Int) (r1 : Int) (r2 : Int) (w : World) (hr0 : Kd.C (Kd.int .u8) w A0 l0.length l0) (hc0 : l0.length ≤ c0) (h : pelotonref14_Size.f k l0 = some (r1, r2)) :
  Calls Try.prog 41 #[.slice A0 l0.length c0] w fun e w' => e = .returned (.tuple #[.int .i64 r1, .int .i64 r2]) ∧ Drawn0 w w' := by
 have HR0 := Aside0.mk hr0
 have HC0 := Aside0.mk hc0
 clear hr0 hc0
 have H : (if (l0.length : Int) < 12 then (some (0, 70)) else (if 0 < (l0.length : Int) then (if (rd l0 0) = 80 then (if 1 < (l0.length : Int) then (pelotonref14_Size.j0 k l0 ((rd l0 1) != 76)) else (none)) else (pelotonref14_Size.j0 k l0 true)) else (none))) = some (r1, r2) := h
 clear h
 by_cases c2 : (l0.length : Int) < 12
 ·
  rw [if_pos c2] at H
  have c2b0 : decide ((l0.length : Int) < 12) = true := decide_eq_true c2
  have c2b1 : decide (l0.length < 12) = true := decide_eq_true (by omega)
  clear c2
  simp only [Option.some.injEq, Prod.mk.injEq] at H
  obtain ⟨rfl, rfl⟩ := H
  go_enter Try.func41, Try.ntmps41
  go_wp2
  repeat (go_quiet (fail); try go_wp2)
  go_ret2
  exact ⟨by first | rfl | (simp; done) | (simp [*]; done), by repeat (first | exact Drawn0.refl _ | apply Drawn0.step)⟩
 rw [if_neg c2] at H
 have c2b0 : decide ((l0.length : Int) < 12) = false := decide_eq_false c2
 have c2b1 : decide (l0.length < 12) = false := decide_eq_false (by omega)
 clear c2
 have HC3 := Aside0.mk H
 clear H
 go_enter Try.func41, Try.ntmps41
 go_upto_region 3 with (fail)
 repeat (go_quiet (fail); go_upto_region 3 with (fail))
 go_cut [17] (fun v17 wc => ∃ (kq : Nat) (x17_2 : Bool), v17 = .bool x17_2 ∧ Aside0 (pelotonref14_Size.j0 kq l0 x17_2 = some (r1, r2)) ∧ Aside0 (kq ≤ k) ∧ Drawn0 w wc)
 case first =>
  have H := HC3.out
  clear HC3
  by_cases c4 : 0 < (l0.length : Int)
  rotate_left
  ·
   rw [if_neg c4] at H
   exact absurd H (by simp)
  rw [if_pos c4] at H
  have c4b0 : decide (0 < (l0.length : Int)) = true := decide_eq_true c4
  have c4b1 : decide (0 < l0.length) = true := decide_eq_true (by omega)
  clear c4
  (first | rw [c4b0] | (simp only [i64_w, i32_w]; rw [c4b0]) | skip)
  by_cases c5 : (rd l0 0) = 80
  rotate_left
  ·
   rw [if_neg c5] at H
   have c5b0 : ((rd l0 0) == 80) = false := beq_eq_false_iff_ne.mpr c5
   have c5b1 : ((rd l0 0) != 80) = true := bne_iff_ne.mpr c5
   have H' := Aside0.mk H
   clear H
   have p194 : 0 ≤ (0 : Int) := (by omega)
   have q194 : 0 < (l0.length : Int) := of_decide_eq_true (by first | (with_reducible assumption) | assumption)
   obtain ⟨ad194, e194, hx194_0⟩ := Kd.at_int HR0.out 0 p194 q194
   cases e194
   have qi194 : (0 < l0.length) = True := eq_true (by omega)
   (try rw [show ((0 : Int)).toNat = 0 from rfl] at hx194_0)
   (try rw [Addr.add_zero'] at hx194_0)
   replace p194 := eq_true p194
   replace q194 := eq_true q194
   go_wp2
   repeat (go_quiet (fail); try go_wp2)
   go_meet
   case rel => exact ⟨_, (true), (by first | rfl | (simp; done) | (simp [*]; done)), H', ⟨by first | exact Nat.le_refl _ | omega⟩, by repeat (first | exact Drawn0.refl _ | apply Drawn0.step)⟩
  rw [if_pos c5] at H
  have c5b0 : ((rd l0 0) == 80) = true := beq_iff_eq.mpr c5
  have c5b1 : ((rd l0 0) != 80) = false := bne_eq_false_iff_eq.mpr c5
  clear c5
  by_cases c6 : 1 < (l0.length : Int)
  rotate_left
  ·
   rw [if_neg c6] at H
   exact absurd H (by simp)
  rw [if_pos c6] at H
  have c6b0 : decide (1 < (l0.length : Int)) = true := decide_eq_true c6
  have c6b1 : decide (1 < l0.length) = true := decide_eq_true (by omega)
  clear c6
  have H' := Aside0.mk H
  clear H
  have p194 : 0 ≤ (0 : Int) := (by omega)
  have q194 : 0 < (l0.length : Int) := of_decide_eq_true (by first | (with_reducible assumption) | assumption)
  obtain ⟨ad194, e194, hx194_0⟩ := Kd.at_int HR0.out 0 p194 q194
  cases e194
  have qi194 : (0 < l0.length) = True := eq_true (by omega)
  (try rw [show ((0 : Int)).toNat = 0 from rfl] at hx194_0)
  (try rw [Addr.add_zero'] at hx194_0)
  replace p194 := eq_true p194
  replace q194 := eq_true q194
  have p195 : 0 ≤ (1 : Int) := (by omega)
  have q195 : 1 < (l0.length : Int) := of_decide_eq_true (by first | (with_reducible assumption) | assumption)
  obtain ⟨ad195, e195, hx195_0⟩ := Kd.at_int HR0.out 1 p195 q195
  obtain rfl : ad194 = ad195 := (by injection e195)
  (try simp only [show (1 : Int).toNat = 1 from rfl, Nat.reduceMul, Nat.reduceEqDiff, Go.Addr.add, ↓reduceIte] at hx195_0)
  have qi195 : (1 < l0.length) = True := eq_true (by omega)
  (try rw [show ((1 : Int)).toNat = 1 from rfl] at hx195_0)
  replace p195 := eq_true p195
  replace q195 := eq_true q195
  go_wp2
  repeat (go_quiet (fail); try go_wp2)
  go_meet
  case rel => exact ⟨_, (((rd l0 1) != 76)), (by first | rfl | (simp; done) | (simp [*]; done)), H', ⟨by first | exact Nat.le_refl _ | omega⟩, by repeat (first | exact Drawn0.refl _ | apply Drawn0.step)⟩
 case rest => as_aux_lemma =>
  clear HC3
  try clear p1
  try clear q1
  try clear hx1
  try clear qi1
  try clear c2
  try clear c2b0
  try clear c2b1
  try clear p2
  try clear c4
  try clear c4b0
  try clear c4b1
  try clear c5
  try clear c5b0
  try clear c5b1
  try clear c6
  try clear c6b0
  try clear c6b1
  try clear hx194_0
  try clear hx195_0
  try clear p194
  try clear p195
  try clear q194
  try clear q195
  obtain ⟨kq, x17_2, rfl, HA, HJ2, ⟨mc2, rfl⟩⟩ := hcut
  cases kq with
  | zero => exact absurd HA.out (by simp [pelotonref14_Size.j0])
  | succ kj2 =>
   have H := HA.out
   clear HA
   simp only [pelotonref14_Size.j0] at H
   by_cases c7 : x17_2 = true
   ·
    subst c7
    have H1 : (some (0, 71)) = some (r1, r2) := by rw [if_pos rfl] at H; exact H
    clear H
    have H := H1
    clear H1
    simp only [Option.some.injEq, Prod.mk.injEq] at H
    obtain ⟨rfl, rfl⟩ := H
    go_wp2
    repeat (go_quiet (fail); try go_wp2)
    go_ret2
    exact ⟨by first | rfl | (simp; done) | (simp [*]; done), by repeat (first | exact Drawn0.refl _ | apply Drawn0.step)⟩
   replace c7 := Bool.eq_false_iff.mpr c7
   subst c7
   have H1 : (if 2 < (l0.length : Int) then (if (rd l0 2) = 1 then (if 4 < (l0.length : Int) then (if 5 < (l0.length : Int) then (if 6 < (l0.length : Int) then (if 7 < (l0.length : Int) then (if (wrap64 ((wrap64 ((wrap64 ((wrap64 ((wrap64 ((wrap64 ((wrap64 (rd l0 4)) * 256)) + (wrap64 (rd l0 5)))) * 256)) + (wrap64 (rd l0 6)))) * 256)) + (wrap64 (rd l0 7)))) > 1048576 then (some (0, 140)) else (some (wrap64 ((wrap64 ((wrap64 ((wrap64 ((wrap64 ((wrap64 ((wrap64 ((wrap64 (rd l0 4)) * 256)) + (wrap64 (rd l0 5)))) * 256)) + (wrap64 (rd l0 6)))) * 256)) + (wrap64 (rd l0 7)))) + 12), 0))) else (none)) else (none)) else (none)) else (none)) else (some (0, 141))) else (none)) = some (r1, r2) := by rw [if_neg (show ¬ (false = true) by decide)] at H; exact H
   clear H
   have H := H1
   clear H1
   by_cases c8 : 2 < (l0.length : Int)
   rotate_left
   ·
    rw [if_neg c8] at H
    exact absurd H (by simp)

   rw [if_pos c8] at H
   have c8b0 : decide (2 < (l0.length : Int)) = true := decide_eq_true c8
   have c8b1 : decide (2 < l0.length) = true := decide_eq_true (by omega)
   clear c8
   by_cases c9 : (rd l0 2) = 1
   rotate_left
   ·
    rw [if_neg c9] at H
    have c9b0 : ((rd l0 2) == 1) = false := beq_eq_false_iff_ne.mpr c9
    have c9b1 : ((rd l0 2) != 1) = true := bne_iff_ne.mpr c9
    simp only [Option.some.injEq, Prod.mk.injEq] at H
    obtain ⟨rfl, rfl⟩ := H
    have p196 : 0 ≤ (2 : Int) := (by omega)
    have q196 : 2 < (l0.length : Int) := of_decide_eq_true (by first | (with_reducible assumption) | assumption)
    obtain ⟨ad196, e196, hx196_0⟩ := Kd.at_int HR0.out 2 p196 q196
    cases e196
    (try simp only [show (2 : Int).toNat = 2 from rfl, Nat.reduceMul, Nat.reduceEqDiff, Go.Addr.add, ↓reduceIte] at hx196_0)
    have qi196 : (2 < l0.length) = True := eq_true (by omega)
    (try rw [show ((2 : Int)).toNat = 2 from rfl] at hx196_0)
    replace p196 := eq_true p196
    replace q196 := eq_true q196
    go_wp2
    repeat (go_quiet (fail); try go_wp2)
    go_ret2
    exact ⟨by first | rfl | (simp; done) | (simp [*]; done), by repeat (first | exact Drawn0.refl _ | apply Drawn0.step)⟩
   rw [if_pos c9] at H
   have c9b0 : ((rd l0 2) == 1) = true := beq_iff_eq.mpr c9
   have c9b1 : ((rd l0 2) != 1) = false := bne_eq_false_iff_eq.mpr c9
   clear c9
   by_cases c10 : 4 < (l0.length : Int)
   rotate_left
   ·
    rw [if_neg c10] at H
    exact absurd H (by simp)
   rw [if_pos c10] at H
   have c10b0 : decide (4 < (l0.length : Int)) = true := decide_eq_true c10
   have c10b1 : decide (4 < l0.length) = true := decide_eq_true (by omega)
   clear c10
   by_cases c11 : 5 < (l0.length : Int)
   rotate_left
   ·
    rw [if_neg c11] at H
    exact absurd H (by simp)
   rw [if_pos c11] at H
   have c11b0 : decide (5 < (l0.length : Int)) = true := decide_eq_true c11
   have c11b1 : decide (5 < l0.length) = true := decide_eq_true (by omega)
   clear c11
   by_cases c12 : 6 < (l0.length : Int)
   rotate_left
   ·
    rw [if_neg c12] at H
    exact absurd H (by simp)
   rw [if_pos c12] at H
   have c12b0 : decide (6 < (l0.length : Int)) = true := decide_eq_true c12
   have c12b1 : decide (6 < l0.length) = true := decide_eq_true (by omega)
   clear c12
   by_cases c13 : 7 < (l0.length : Int)
   rotate_left
   ·
    rw [if_neg c13] at H
    exact absurd H (by simp)
   rw [if_pos c13] at H
   have c13b0 : decide (7 < (l0.length : Int)) = true := decide_eq_true c13
   have c13b1 : decide (7 < l0.length) = true := decide_eq_true (by omega)
   clear c13
   by_cases c14 : (wrap64 ((wrap64 ((wrap64 ((wrap64 ((wrap64 ((wrap64 ((wrap64 (rd l0 4)) * 256)) + (wrap64 (rd l0 5)))) * 256)) + (wrap64 (rd l0 6)))) * 256)) + (wrap64 (rd l0 7)))) > 1048576
   ·
    rw [if_pos c14] at H
    have c14b0 : decide (1048576 < (wrap64 ((wrap64 ((wrap64 ((wrap64 ((wrap64 ((wrap64 ((wrap64 (rd l0 4)) * 256)) + (wrap64 (rd l0 5)))) * 256)) + (wrap64 (rd l0 6)))) * 256)) + (wrap64 (rd l0 7))))) = true := decide_eq_true c14
    clear c14
    simp only [Option.some.injEq, Prod.mk.injEq] at H
    obtain ⟨rfl, rfl⟩ := H
    have p196 : 0 ≤ (2 : Int) := (by omega)
    have q196 : 2 < (l0.length : Int) := of_decide_eq_true (by first | (with_reducible assumption) | assumption)
    obtain ⟨ad196, e196, hx196_0⟩ := Kd.at_int HR0.out 2 p196 q196
    cases e196
    (try simp only [show (2 : Int).toNat = 2 from rfl, Nat.reduceMul, Nat.reduceEqDiff, Go.Addr.add, ↓reduceIte] at hx196_0)
    have qi196 : (2 < l0.length) = True := eq_true (by omega)
    (try rw [show ((2 : Int)).toNat = 2 from rfl] at hx196_0)
    replace p196 := eq_true p196
    replace q196 := eq_true q196
    have p197 : 0 ≤ (4 : Int) := (by omega)
    have q197 : 4 < (l0.length : Int) := of_decide_eq_true (by first | (with_reducible assumption) | assumption)
    obtain ⟨ad197, e197, hx197_0⟩ := Kd.at_int HR0.out 4 p197 q197
    obtain rfl : ad196 = ad197 := (by injection e197)
    (try simp only [show (4 : Int).toNat = 4 from rfl, Nat.reduceMul, Nat.reduceEqDiff, Go.Addr.add, ↓reduceIte] at hx197_0)
    have qi197 : (4 < l0.length) = True := eq_true (by omega)
    (try rw [show ((4 : Int)).toNat = 4 from rfl] at hx197_0)
    replace p197 := eq_true p197
    replace q197 := eq_true q197
    have p198 : 0 ≤ (5 : Int) := (by omega)
    have q198 : 5 < (l0.length : Int) := of_decide_eq_true (by first | (with_reducible assumption) | assumption)
    obtain ⟨ad198, e198, hx198_0⟩ := Kd.at_int HR0.out 5 p198 q198
    obtain rfl : ad196 = ad198 := (by injection e198)
    (try simp only [show (5 : Int).toNat = 5 from rfl, Nat.reduceMul, Nat.reduceEqDiff, Go.Addr.add, ↓reduceIte] at hx198_0)
    have qi198 : (5 < l0.length) = True := eq_true (by omega)
    (try rw [show ((5 : Int)).toNat = 5 from rfl] at hx198_0)
    replace p198 := eq_true p198
    replace q198 := eq_true q198
    have p199 : 0 ≤ (6 : Int) := (by omega)
    have q199 : 6 < (l0.length : Int) := of_decide_eq_true (by first | (with_reducible assumption) | assumption)
    obtain ⟨ad199, e199, hx199_0⟩ := Kd.at_int HR0.out 6 p199 q199
    obtain rfl : ad196 = ad199 := (by injection e199)
    (try simp only [show (6 : Int).toNat = 6 from rfl, Nat.reduceMul, Nat.reduceEqDiff, Go.Addr.add, ↓reduceIte] at hx199_0)
    have qi199 : (6 < l0.length) = True := eq_true (by omega)
    (try rw [show ((6 : Int)).toNat = 6 from rfl] at hx199_0)
    replace p199 := eq_true p199
    replace q199 := eq_true q199
    have p200 : 0 ≤ (7 : Int) := (by omega)
    have q200 : 7 < (l0.length : Int) := of_decide_eq_true (by first | (with_reducible assumption) | assumption)
    obtain ⟨ad200, e200, hx200_0⟩ := Kd.at_int HR0.out 7 p200 q200
    obtain rfl : ad196 = ad200 := (by injection e200)
    (try simp only [show (7 : Int).toNat = 7 from rfl, Nat.reduceMul, Nat.reduceEqDiff, Go.Addr.add, ↓reduceIte] at hx200_0)
    have qi200 : (7 < l0.length) = True := eq_true (by omega)
    (try rw [show ((7 : Int)).toNat = 7 from rfl] at hx200_0)
    replace p200 := eq_true p200
    replace q200 := eq_true q200
    go_wp2
    repeat (go_quiet (fail); try go_wp2)
    go_ret2
    exact ⟨by first | rfl | (simp; done) | (simp [*]; done), by repeat (first | exact Drawn0.refl _ | apply Drawn0.step)⟩
   rw [if_neg c14] at H
   have c14b0 : decide (1048576 < (wrap64 ((wrap64 ((wrap64 ((wrap64 ((wrap64 ((wrap64 ((wrap64 (rd l0 4)) * 256)) + (wrap64 (rd l0 5)))) * 256)) + (wrap64 (rd l0 6)))) * 256)) + (wrap64 (rd l0 7))))) = false := decide_eq_false c14
   clear c14
   simp only [Option.some.injEq, Prod.mk.injEq] at H
   obtain ⟨rfl, rfl⟩ := H
   have p196 : 0 ≤ (2 : Int) := (by omega)
   have q196 : 2 < (l0.length : Int) := of_decide_eq_true (by first | (with_reducible assumption) | assumption)
   obtain ⟨ad196, e196, hx196_0⟩ := Kd.at_int HR0.out 2 p196 q196
   cases e196
   (try simp only [show (2 : Int).toNat = 2 from rfl, Nat.reduceMul, Nat.reduceEqDiff, Go.Addr.add, ↓reduceIte] at hx196_0)
   have qi196 : (2 < l0.length) = True := eq_true (by omega)
   (try rw [show ((2 : Int)).toNat = 2 from rfl] at hx196_0)
   replace p196 := eq_true p196
   replace q196 := eq_true q196
   have p197 : 0 ≤ (4 : Int) := (by omega)
   have q197 : 4 < (l0.length : Int) := of_decide_eq_true (by first | (with_reducible assumption) | assumption)
   obtain ⟨ad197, e197, hx197_0⟩ := Kd.at_int HR0.out 4 p197 q197
   obtain rfl : ad196 = ad197 := (by injection e197)
   (try simp only [show (4 : Int).toNat = 4 from rfl, Nat.reduceMul, Nat.reduceEqDiff, Go.Addr.add, ↓reduceIte] at hx197_0)
   have qi197 : (4 < l0.length) = True := eq_true (by omega)
   (try rw [show ((4 : Int)).toNat = 4 from rfl] at hx197_0)
   replace p197 := eq_true p197
   replace q197 := eq_true q197
   have p198 : 0 ≤ (5 : Int) := (by omega)
   have q198 : 5 < (l0.length : Int) := of_decide_eq_true (by first | (with_reducible assumption) | assumption)
   obtain ⟨ad198, e198, hx198_0⟩ := Kd.at_int HR0.out 5 p198 q198
   obtain rfl : ad196 = ad198 := (by injection e198)
   (try simp only [show (5 : Int).toNat = 5 from rfl, Nat.reduceMul, Nat.reduceEqDiff, Go.Addr.add, ↓reduceIte] at hx198_0)
   have qi198 : (5 < l0.length) = True := eq_true (by omega)
   (try rw [show ((5 : Int)).toNat = 5 from rfl] at hx198_0)
   replace p198 := eq_true p198
   replace q198 := eq_true q198
   have p199 : 0 ≤ (6 : Int) := (by omega)
   have q199 : 6 < (l0.length : Int) := of_decide_eq_true (by first | (with_reducible assumption) | assumption)
   obtain ⟨ad199, e199, hx199_0⟩ := Kd.at_int HR0.out 6 p199 q199
   obtain rfl : ad196 = ad199 := (by injection e199)
   (try simp only [show (6 : Int).toNat = 6 from rfl, Nat.reduceMul, Nat.reduceEqDiff, Go.Addr.add, ↓reduceIte] at hx199_0)
   have qi199 : (6 < l0.length) = True := eq_true (by omega)
   (try rw [show ((6 : Int)).toNat = 6 from rfl] at hx199_0)
   replace p199 := eq_true p199
   replace q199 := eq_true q199
   have p200 : 0 ≤ (7 : Int) := (by omega)
   have q200 : 7 < (l0.length : Int) := of_decide_eq_true (by first | (with_reducible assumption) | assumption)
   obtain ⟨ad200, e200, hx200_0⟩ := Kd.at_int HR0.out 7 p200 q200
   obtain rfl : ad196 = ad200 := (by injection e200)
   (try simp only [show (7 : Int).toNat = 7 from rfl, Nat.reduceMul, Nat.reduceEqDiff, Go.Addr.add, ↓reduceIte] at hx200_0)
   have qi200 : (7 < l0.length) = True := eq_true (by omega)
   (try rw [show ((7 : Int)).toNat = 7 from rfl] at hx200_0)
   replace p200 := eq_true p200
   replace q200 := eq_true q200
   go_wp2
   repeat (go_quiet (fail); try go_wp2)
   go_ret2
   exact ⟨by first | rfl | (simp; done) | (simp [*]; done), by repeat (first | exact Drawn0.refl _ | apply Drawn0.step)⟩
/-! ### pelotonref14_Fault: function 31 -/
def pelotonref14_Fault.f (k : Nat) (l0 : List Int) : Option (Int) := (pelotonref14_Size.f k l0).bind fun bt201 => (if bt201.2 = 0 then (if (l0.length : Int) < bt201.1 then (some 70) else (if (l0.length : Int) > bt201.1 then (some 72) else (if 0 ≤ (wrap64 (bt201.1 - 4)) then (if (wrap64 (bt201.1 - 4)) ≤ (l0.length : Int) then ((pelotonref07_Sum.f k (l0.take ((wrap64 (bt201.1 - 4)) : Int).toNat)).bind fun t204 => ((pelotonref14_four.f t204).bind fun t205 => (if (strOfNums t205).toList = (strOfNums (l0.drop ((wrap64 (bt201.1 - 4)) : Int).toNat)).toList then (some 0) else (some 73)))) else (none)) else (none)))) else (some bt201.2))
theorem pelotonref14_Fault.mono : ∀ a0 k, LeO (pelotonref14_Fault.f k a0) (pelotonref14_Fault.f (k + 1) a0) := by
 intro a0 k
 unfold pelotonref14_Fault.f
 repeat' first
   | (with_reducible exact pelotonref07_Sum.mono _ _)
   | (with_reducible exact pelotonref14_Size.mono _ _)
   | (with_reducible exact LeO.refl _)
   | (with_reducible exact LeO.none _)
   | (with_reducible refine LeO.ite ?_ ?_)
   | (with_reducible refine LeO.bind ?_ (fun _ => ?_))
   | exact pelotonref07_Sum.mono _ _
   | exact pelotonref14_Size.mono _ _
   | exact LeO.none _
   | refine LeO.ite ?_ ?_
   | refine LeO.bind ?_ (fun _ => ?_)
def pelotonref14_Fault.T8 : Bool × List (List Nat × List Nat) := (true, [([], []), ([], []), ([1], [1]), ([0, 2], [0, 2]), ([3], [3]), ([4, 4], [4]), ([5], [5]), ([], []), ([], []), ([8], [8]), ([7, 9], [7, 9]), ([10], [10]), ([6, 11], [6, 11])])
def pelotonref14_Fault.B8 : List Nat := [0, 0, 2, 7, 15, 31, 63, 0, 0, 256, 896, 1920, 4095]
theorem pelotonref14_Fault.tab8 : rtab .any (opsOf Try.f31 8) = pelotonref14_Fault.T8 := by kernel_rfl
theorem pelotonref14_Fault.bits8 : waitsOk pelotonref14_Fault.T8.2 pelotonref14_Fault.B8 = true := by kernel_rfl
set_option maxHeartbeats 60000000 in
set_option maxRecDepth 100000 in
theorem pelotonref14_Fault.calls (k : Nat) (A0 : Option Addr) (c0 : Nat) (l0 : List Int) (r : Int) (w : World) (hr0 : Kd.C (Kd.int .u8) w A0 l0.length l0) (hc0 : l0.length ≤ c0) (h : pelotonref14_Fault.f k l0 = some r) :
  Calls Try.prog 31 #[.slice A0 l0.length c0] w fun e w' => e = .returned (.int .i64 r) ∧ Below w.heap.size w w' := by
 have HR0 := Aside0.mk hr0
 have HC0 := Aside0.mk hc0
 clear hr0 hc0
 have HB := Aside0.mk (Below.refl w.heap.size w)
 have H : ((pelotonref14_Size.f k l0).bind fun bt201 => (if bt201.2 = 0 then (if (l0.length : Int) < bt201.1 then (some 70) else (if (l0.length : Int) > bt201.1 then (some 72) else (if 0 ≤ (wrap64 (bt201.1 - 4)) then (if (wrap64 (bt201.1 - 4)) ≤ (l0.length : Int) then ((pelotonref07_Sum.f k (l0.take ((wrap64 (bt201.1 - 4)) : Int).toNat)).bind fun t204 => ((pelotonref14_four.f t204).bind fun t205 => (if (strOfNums t205).toList = (strOfNums (l0.drop ((wrap64 (bt201.1 - 4)) : Int).toNat)).toList then (some 0) else (some 73)))) else (none)) else (none)))) else (some bt201.2))) = some r := h
 clear h
 replace H := Option.bind_eq_some_iff.mp H
 obtain ⟨⟨t201, t202⟩, A20, H⟩ := H
 replace H : (if t202 = 0 then (if (l0.length : Int) < t201 then (some 70) else (if (l0.length : Int) > t201 then (some 72) else (if 0 ≤ (wrap64 (t201 - 4)) then (if (wrap64 (t201 - 4)) ≤ (l0.length : Int) then ((pelotonref07_Sum.f k (l0.take ((wrap64 (t201 - 4)) : Int).toNat)).bind fun t204 => ((pelotonref14_four.f t204).bind fun t205 => (if (strOfNums t205).toList = (strOfNums (l0.drop ((wrap64 (t201 - 4)) : Int).toNat)).toList then (some 0) else (some 73)))) else (none)) else (none)))) else (some t202)) = some r := H
 have A2 := Aside0.mk A20
 clear A20
 by_cases c3 : t202 = 0
 rotate_left
 ·
  rw [if_neg c3] at H
  have c3b0 : (t202 == 0) = false := beq_eq_false_iff_ne.mpr c3
  have c3b1 : (t202 != 0) = true := bne_iff_ne.mpr c3
  obtain rfl := Option.some.inj H
  go_enter Try.func31, Try.ntmps31
  go_wp2_with (first | ((with_reducible refine gate_callee (f := 41) rfl ?_); refine goesL_ (some 7) rfl rfl Try.func41 (by kernel_rfl) rfl #[.slice A0 l0.length c0] rfl (by (try simp only [l_4, l_5, l_6]); first | done | rfl | (simp only [l_7, l_8]; rfl)) ?_; (with_reducible refine (pelotonref14_Size.calls k _ _ l0 t201 t202 _ ?side1 ?side2 A2.out).mono ?_); (case side1 => repeat (first | exact HR0.out | (with_reducible refine Kd.C_alloc ?_ _) | (with_reducible refine Kd.C_drewN ?_ _) | (with_reducible refine Kd.C_drew ?_))); (case side2 => exact HC0.out); rintro e w' ⟨rfl, ⟨nd, rfl⟩⟩; refine ⟨_, rfl, ?_⟩))
  go_ret
  exact ⟨by first | rfl | (simp [errW_none, errW_some] <;> rfl) | (simp [*, errW_none, errW_some] <;> rfl), by repeat (first | (with_reducible first | exact HB.out | apply b_a | apply b_n | apply b_d) | exact HB.out)⟩

 rw [if_pos c3] at H
 have c3b0 : (t202 == 0) = true := beq_iff_eq.mpr c3
 have c3b1 : (t202 != 0) = false := bne_eq_false_iff_eq.mpr c3
 clear c3
 by_cases c4 : (l0.length : Int) < t201
 ·
  rw [if_pos c4] at H
  have c4b0 : decide ((l0.length : Int) < t201) = true := decide_eq_true c4
  clear c4
  obtain rfl := Option.some.inj H
  go_enter Try.func31, Try.ntmps31
  go_wp2_with (first | ((with_reducible refine gate_callee (f := 41) rfl ?_); refine goesL_ (some 7) rfl rfl Try.func41 (by kernel_rfl) rfl #[.slice A0 l0.length c0] rfl (by (try simp only [l_4, l_5, l_6]); first | done | rfl | (simp only [l_7, l_8]; rfl)) ?_; (with_reducible refine (pelotonref14_Size.calls k _ _ l0 t201 t202 _ ?side1 ?side2 A2.out).mono ?_); (case side1 => repeat (first | exact HR0.out | (with_reducible refine Kd.C_alloc ?_ _) | (with_reducible refine Kd.C_drewN ?_ _) | (with_reducible refine Kd.C_drew ?_))); (case side2 => exact HC0.out); rintro e w' ⟨rfl, ⟨nd, rfl⟩⟩; refine ⟨_, rfl, ?_⟩))
  go_ret
  exact ⟨by first | rfl | (simp [errW_none, errW_some] <;> rfl) | (simp [*, errW_none, errW_some] <;> rfl), by repeat (first | (with_reducible first | exact HB.out | apply b_a | apply b_n | apply b_d) | exact HB.out)⟩
 rw [if_neg c4] at H
 have c4b0 : decide ((l0.length : Int) < t201) = false := decide_eq_false c4
 clear c4
 by_cases c5 : (l0.length : Int) > t201
 ·
  rw [if_pos c5] at H
  have c5b0 : decide (t201 < (l0.length : Int)) = true := decide_eq_true c5
  clear c5
  obtain rfl := Option.some.inj H
  go_enter Try.func31, Try.ntmps31
  go_wp2_with (first | ((with_reducible refine gate_callee (f := 41) rfl ?_); refine goesL_ (some 7) rfl rfl Try.func41 (by kernel_rfl) rfl #[.slice A0 l0.length c0] rfl (by (try simp only [l_4, l_5, l_6]); first | done | rfl | (simp only [l_7, l_8]; rfl)) ?_; (with_reducible refine (pelotonref14_Size.calls k _ _ l0 t201 t202 _ ?side1 ?side2 A2.out).mono ?_); (case side1 => repeat (first | exact HR0.out | (with_reducible refine Kd.C_alloc ?_ _) | (with_reducible refine Kd.C_drewN ?_ _) | (with_reducible refine Kd.C_drew ?_))); (case side2 => exact HC0.out); rintro e w' ⟨rfl, ⟨nd, rfl⟩⟩; refine ⟨_, rfl, ?_⟩))
  go_ret
  exact ⟨by first | rfl | (simp [errW_none, errW_some] <;> rfl) | (simp [*, errW_none, errW_some] <;> rfl), by repeat (first | (with_reducible first | exact HB.out | apply b_a | apply b_n | apply b_d) | exact HB.out)⟩
 rw [if_neg c5] at H
 have c5b0 : decide (t201 < (l0.length : Int)) = false := decide_eq_false c5
 clear c5
 obtain ⟨ji6, hji6⟩ : ∃ j_ : Int, (wrap64 (t201 - 4)) = j_ := ⟨_, rfl⟩
 replace H : (if 0 ≤ (ji6) then (if (ji6) ≤ (l0.length : Int) then ((pelotonref07_Sum.f k (l0.take ((ji6) : Int).toNat)).bind fun t204 => ((pelotonref14_four.f t204).bind fun t205 => (if (strOfNums t205).toList = (strOfNums (l0.drop ((ji6) : Int).toNat)).toList then (some 0) else (some 73)))) else (none)) else (none)) = some r := by first | (rw [hji6] at H; exact H) | (simp only [hji6] at H ⊢; exact H)
 (try rw [hji6] at A2)
 have hji6w : (IntKind.i64.wrap (t201 - 4)) = ji6 := (i64_w _).trans hji6
 by_cases c7 : 0 ≤ (ji6)
 rotate_left
 ·
  rw [if_neg c7] at H
  exact absurd H (by simp)
 rw [if_pos c7] at H
 have c7b0 := eq_true c7
 have c7b1 : decide (0 ≤ (ji6)) = true := decide_eq_true c7
 clear c7
 by_cases c8 : (ji6) ≤ (l0.length : Int)
 rotate_left
 ·
  rw [if_neg c8] at H
  exact absurd H (by simp)
 rw [if_pos c8] at H
 have c8b0 := eq_true c8
 have c8b1 : decide ((ji6) ≤ (l0.length : Int)) = true := decide_eq_true c8
 clear c8
 replace H := Option.bind_eq_some_iff.mp H
 obtain ⟨t204, A90, H⟩ := H
 replace H : ((pelotonref14_four.f t204).bind fun t205 => (if (strOfNums t205).toList = (strOfNums (l0.drop ((ji6) : Int).toNat)).toList then (some 0) else (some 73))) = some r := H
 have A9 := Aside0.mk A90
 clear A90
 replace H := Option.bind_eq_some_iff.mp H
 obtain ⟨t205, A100, H⟩ := H
 replace H : (if (strOfNums t205).toList = (strOfNums (l0.drop ((ji6) : Int).toNat)).toList then (some 0) else (some 73)) = some r := H
 have A10 := Aside0.mk A100
 clear A100
 have c11b0 := eq_true (of_decide_eq_true (by first | (with_reducible assumption) | assumption) : 0 ≤ (ji6))
 have c12b0 := eq_true (of_decide_eq_true (by first | (with_reducible assumption) | assumption) : (ji6) ≤ (l0.length : Int))
 by_cases c13 : (strOfNums t205).toList = (strOfNums (l0.drop ((ji6) : Int).toNat)).toList
 rotate_left
 ·
  rw [if_neg c13] at H
  have c13b0 : ((strOfNums t205).toList == (strOfNums (l0.drop ((ji6) : Int).toNat)).toList) = false := beq_eq_false_iff_ne.mpr c13
  have c13b1 : ((strOfNums t205).toList != (strOfNums (l0.drop ((ji6) : Int).toNat)).toList) = true := bne_iff_ne.mpr c13
  obtain rfl := Option.some.inj H
  go_enter Try.func31, Try.ntmps31
  try go_wp2_with (first | ((with_reducible refine gate_callee (f := 41) rfl ?_); refine goesL_ (some 7) rfl rfl Try.func41 (by kernel_rfl) rfl #[.slice A0 l0.length c0] rfl (by (try simp only [l_4, l_5, l_6]); first | done | rfl | (simp only [l_7, l_8]; rfl)) ?_; (with_reducible refine (pelotonref14_Size.calls k _ _ l0 t201 t202 _ ?side1 ?side2 A2.out).mono ?_); (case side1 => repeat (first | exact HR0.out | (with_reducible refine Kd.C_alloc ?_ _) | (with_reducible refine Kd.C_drewN ?_ _) | (with_reducible refine Kd.C_drew ?_))); (case side2 => exact HC0.out); rintro e w' ⟨rfl, ⟨nd, rfl⟩⟩; refine ⟨_, rfl, ?_⟩))
  replace HB := Aside0.mk (b_d (b_n HB.out nd))
  obtain ⟨i022, hi022, _, hsz22, _⟩ := info_parts info5
  obtain ⟨hcut22, hA22, hC22⟩ := print_take_of (P := Try.prog) (Value.int .u8) 0 29 5 .i64 Try.underlying29 hi022 hsz22 A0 c0 l0 (ji6) (of_decide_eq_true (by first | (with_reducible assumption) | assumption)) (of_decide_eq_true (by first | (with_reducible assumption) | assumption)) HC0.out
  have HR203 := Aside0.mk (Kd.C_of_reads (h1 := fun _ => rfl) (hA22 _ (Kd.reads_of_C HR0.out)))
  have HC203 := Aside0.mk hC22
  clear hA22 hC22 hi022 hsz22
  obtain ⟨i023, hi023, _, hsz23, _⟩ := info_parts info5
  obtain ⟨A23, hcut23, hA23, hC23⟩ := print_drop_of (P := Try.prog) (Value.int .u8) 0 29 5 .i64 Try.underlying29 hi023 hsz23 A0 c0 l0 (ji6) (of_decide_eq_true (by first | (with_reducible assumption) | assumption)) (of_decide_eq_true (by first | (with_reducible assumption) | assumption)) HC0.out
  have HR208 := Aside0.mk (Kd.C_of_reads (h1 := fun _ => rfl) (hA23 _ (Kd.reads_of_C HR0.out)))
  have HC208 := Aside0.mk hC23
  clear hA23 hC23 hi023 hsz23
  refine start_ (n := 13) (S := fun w' => (convert 29 9 (.slice A23 (l0.length - (ji6).toNat) (c0 - (ji6).toNat))).run Try.prog w' = .ok (.string (strOfNums (l0.drop ((ji6) : Int).toNat))) w') (ds := []) #[false, false, false, false, false, false, false, false, false, false, false, false, false] (by kernel_rfl) rfl rfl (((by rw [← show (l0.drop ((ji6) : Int).toNat).length = (l0.length - (ji6).toNat) from l_7]; exact Kd.C_string (P := Try.prog) (A := A23) (c := (c0 - (ji6).toNat)) Try.underlying29 Try.underlying5 Try.underlying9 (by repeat (first | exact (Kd.C_below HR208.out HB.out) | (with_reducible refine Kd.C_alloc ?_ _) | (with_reducible refine Kd.C_drewN ?_ _) | (with_reducible refine Kd.C_drew ?_)))))) (fun hHeld => ?_); refine with_tabW pelotonref14_Fault.tab8 pelotonref14_Fault.bits8 (fun HT_ HW_ => ?_)
  generalize (World.drewN w nd).drew = w21 at HB HR203 HR208 hHeld ⊢
  refine pu_ (i := 0) (N := some 21) (bs_ 13 1) rfl rfl HT_ ?_
  refine pu_ (i := 1) (N := some 22) (bs_ 13 3) rfl rfl HT_ ?_
  refine pu_ (i := 2) (N := some 23) (bs_ 13 7) rfl rfl HT_ ?_
  refine pu_ (i := 3) (N := some 24) (bs_ 13 15) rfl rfl HT_ ?_
  refine pu_ (i := 7) (N := some 28) (bs_ 13 143) rfl rfl HT_ ?_
  refine pu_ (i := 8) (N := some 29) (bs_ 13 399) rfl rfl HT_ ?_
  refine pu_ (i := 9) (N := some 30) (bs_ 13 911) rfl rfl HT_ ?_
  refine pu_ (i := 10) (N := some 31) (bs_ 13 1935) rfl rfl HT_ ?_
  refine take_ (i := 11) (N := some 32) (v := ?_) (a' := ?_) (bs_ 13 3983) rfl rfl (take_ofW HT_.out HW_.out (by kernel_rfl)) (fun _ _ _ h => h) (Or.inl ⟨by rfl, ?_⟩) hHeld ?_ ?_
  rotate_left
  ·
   intro w' s0
   go_simp
   with_reducible rfl
  rotate_left
  ·
   simp only [Act.put, l_1, l_2, l_3, i64_w, i32_w]
   rfl
  refine one_ (i := 4) (N := some 25) (bs_ 13 3999) rfl rfl (one_of HT_.out (by kernel_rfl)) (by decide) (fun K hK => ?_)
  refine goes_ Try.func33 (by kernel_rfl) rfl #[.slice A0 (l0.take ((ji6) : Int).toNat).length c0] (by rfl) rfl rfl (by (try simp only [l_4, l_5, l_6]); first | done | (rw [show (l0.take ((ji6) : Int).toNat).length = (ji6).toNat from (by rw [l_8]; have h_ : ((ji6) : Int) ≤ (l0.length : Int) := of_decide_eq_true (by first | (with_reducible assumption) | assumption); omega)] <;> rfl) | (simp only [hji6]; rfl) | rfl | (simp only [l_7, l_8]; rfl)) ?_
  with_reducible refine (pelotonref07_Sum.calls k _ _ (l0.take ((ji6) : Int).toNat) t204 _ ?side1 ?side2 A9.out).mono ?_
  (case side1 => repeat (first | exact (Kd.C_below HR203.out HB.out) | (with_reducible refine Kd.C_alloc ?_ _) | (with_reducible refine Kd.C_drewN ?_ _) | (with_reducible refine Kd.C_drew ?_)))
  (case side2 => exact HC203.out)
  rintro e w' ⟨rfl, ⟨nd, rfl⟩⟩
  refine ⟨_, rfl, ?_⟩
  refine hK.out _ _ (((by rw [← show (l0.drop ((ji6) : Int).toNat).length = (l0.length - (ji6).toNat) from l_7]; exact Kd.C_string (P := Try.prog) (A := A23) (c := (c0 - (ji6).toNat)) Try.underlying29 Try.underlying5 Try.underlying9 (by repeat (first | exact (Kd.C_below HR208.out HB.out) | (with_reducible refine Kd.C_alloc ?_ _) | (with_reducible refine Kd.C_drewN ?_ _) | (with_reducible refine Kd.C_drew ?_)))))) (fun hHeld => ?_)
  clear hK K
  refine no_ (N := some 25) ?_
  refine one_ (i := 5) (N := some 26) (bs_ 13 4031) rfl rfl (one_of HT_.out (by kernel_rfl)) (by decide) (fun K hK => ?_)
  refine goes_ Try.func32 (by kernel_rfl) rfl #[.int .u32 t204] (by rfl) rfl rfl (by (try simp only [l_4, l_5, l_6]); first | done | rfl | (simp only [l_7, l_8]; rfl)) ?_
  with_reducible refine (pelotonref14_four.calls t204 t205 _ A10.out).mono ?_
  rintro e w24 ⟨v206, rfl, ho0, hb⟩
  refine ⟨_, rfl, ?_⟩
  have HO207 := Aside0.mk (Kd.R_lower ho0 (below_size (bw_ HB)))
  replace HB := Aside0.mk (below_step (bw_ HB) hb)
  (try clear hb)
  (try clear hb2)
  (try clear hk)
  (try clear hi)
  (try clear ho0)
  refine hK.out _ _ (((by rw [← show (l0.drop ((ji6) : Int).toNat).length = (l0.length - (ji6).toNat) from l_7]; exact Kd.C_string (P := Try.prog) (A := A23) (c := (c0 - (ji6).toNat)) Try.underlying29 Try.underlying5 Try.underlying9 (by repeat (first | exact (Kd.C_below HR208.out HB.out) | (with_reducible refine Kd.C_alloc ?_ _) | (with_reducible refine Kd.C_drewN ?_ _) | (with_reducible refine Kd.C_drew ?_)))))) (fun hHeld => ?_)
  clear hK K
  refine no_ (N := some 26) ?_
  refine one_ (i := 6) (N := some 27) (bs_ 13 4095) rfl rfl (one_of HT_.out (by kernel_rfl)) (by decide) (fun K hK => ?_)
  have hcv25 := own_string (P := Try.prog) Try.underlying29 Try.underlying5 Try.underlying9 (Kd.own_of_R HO207.out)
  refine value_ (w1 := ?_) (v := ?_) (by rfl) rfl ?_ ?_
  rotate_left 2
  ·
   go_simp
   constructor
   ·
    rfl
   ·
    rfl
  clear hcv25
  refine hK.out _ _ (((by rw [← show (l0.drop ((ji6) : Int).toNat).length = (l0.length - (ji6).toNat) from l_7]; exact Kd.C_string (P := Try.prog) (A := A23) (c := (c0 - (ji6).toNat)) Try.underlying29 Try.underlying5 Try.underlying9 (by repeat (first | exact (Kd.C_below HR208.out HB.out) | (with_reducible refine Kd.C_alloc ?_ _) | (with_reducible refine Kd.C_drewN ?_ _) | (with_reducible refine Kd.C_drew ?_)))))) (fun hHeld => ?_)
  clear hK K
  refine no_ (N := some 27) ?_
  refine pu_ (i := 12) (N := some 33) (bs_ 13 8191) rfl rfl HT_ ?_
  refine done_ (done_of HT_.out (by kernel_rfl)) ?_
  try go_wp2
  go_ret
  exact ⟨by first | rfl | (simp [errW_none, errW_some] <;> rfl) | (simp only [← hji6]; first | rfl | (simp [errW_none, errW_some] <;> rfl)) | (simp [*, errW_none, errW_some] <;> rfl), by repeat (first | (with_reducible first | exact HB.out | apply b_a | apply b_n | apply b_d) | exact HB.out)⟩
 rw [if_pos c13] at H
 have c13b0 : ((strOfNums t205).toList == (strOfNums (l0.drop ((ji6) : Int).toNat)).toList) = true := beq_iff_eq.mpr c13
 have c13b1 : ((strOfNums t205).toList != (strOfNums (l0.drop ((ji6) : Int).toNat)).toList) = false := bne_eq_false_iff_eq.mpr c13
 clear c13
 obtain rfl := Option.some.inj H
 go_enter Try.func31, Try.ntmps31
 try go_wp2_with (first | ((with_reducible refine gate_callee (f := 41) rfl ?_); refine goesL_ (some 7) rfl rfl Try.func41 (by kernel_rfl) rfl #[.slice A0 l0.length c0] rfl (by (try simp only [l_4, l_5, l_6]); first | done | rfl | (simp only [l_7, l_8]; rfl)) ?_; (with_reducible refine (pelotonref14_Size.calls k _ _ l0 t201 t202 _ ?side1 ?side2 A2.out).mono ?_); (case side1 => repeat (first | exact HR0.out | (with_reducible refine Kd.C_alloc ?_ _) | (with_reducible refine Kd.C_drewN ?_ _) | (with_reducible refine Kd.C_drew ?_))); (case side2 => exact HC0.out); rintro e w' ⟨rfl, ⟨nd, rfl⟩⟩; refine ⟨_, rfl, ?_⟩))
 replace HB := Aside0.mk (b_d (b_n HB.out nd))
 obtain ⟨i015, hi015, _, hsz15, _⟩ := info_parts info5
 obtain ⟨hcut15, hA15, hC15⟩ := print_take_of (P := Try.prog) (Value.int .u8) 0 29 5 .i64 Try.underlying29 hi015 hsz15 A0 c0 l0 (ji6) (of_decide_eq_true (by first | (with_reducible assumption) | assumption)) (of_decide_eq_true (by first | (with_reducible assumption) | assumption)) HC0.out
 have HR203 := Aside0.mk (Kd.C_of_reads (h1 := fun _ => rfl) (hA15 _ (Kd.reads_of_C HR0.out)))
 have HC203 := Aside0.mk hC15
 clear hA15 hC15 hi015 hsz15
 obtain ⟨i016, hi016, _, hsz16, _⟩ := info_parts info5
 obtain ⟨A16, hcut16, hA16, hC16⟩ := print_drop_of (P := Try.prog) (Value.int .u8) 0 29 5 .i64 Try.underlying29 hi016 hsz16 A0 c0 l0 (ji6) (of_decide_eq_true (by first | (with_reducible assumption) | assumption)) (of_decide_eq_true (by first | (with_reducible assumption) | assumption)) HC0.out
 have HR208 := Aside0.mk (Kd.C_of_reads (h1 := fun _ => rfl) (hA16 _ (Kd.reads_of_C HR0.out)))
 have HC208 := Aside0.mk hC16
 clear hA16 hC16 hi016 hsz16
 refine start_ (n := 13) (S := fun w' => (convert 29 9 (.slice A16 (l0.length - (ji6).toNat) (c0 - (ji6).toNat))).run Try.prog w' = .ok (.string (strOfNums (l0.drop ((ji6) : Int).toNat))) w') (ds := []) #[false, false, false, false, false, false, false, false, false, false, false, false, false] (by kernel_rfl) rfl rfl (((by rw [← show (l0.drop ((ji6) : Int).toNat).length = (l0.length - (ji6).toNat) from l_7]; exact Kd.C_string (P := Try.prog) (A := A16) (c := (c0 - (ji6).toNat)) Try.underlying29 Try.underlying5 Try.underlying9 (by repeat (first | exact (Kd.C_below HR208.out HB.out) | (with_reducible refine Kd.C_alloc ?_ _) | (with_reducible refine Kd.C_drewN ?_ _) | (with_reducible refine Kd.C_drew ?_)))))) (fun hHeld => ?_); refine with_tabW pelotonref14_Fault.tab8 pelotonref14_Fault.bits8 (fun HT_ HW_ => ?_)
 generalize (World.drewN w nd).drew = w14 at HB HR203 HR208 hHeld ⊢
 refine pu_ (i := 0) (N := some 21) (bs_ 13 1) rfl rfl HT_ ?_
 refine pu_ (i := 1) (N := some 22) (bs_ 13 3) rfl rfl HT_ ?_
 refine pu_ (i := 2) (N := some 23) (bs_ 13 7) rfl rfl HT_ ?_
 refine pu_ (i := 3) (N := some 24) (bs_ 13 15) rfl rfl HT_ ?_
 refine pu_ (i := 7) (N := some 28) (bs_ 13 143) rfl rfl HT_ ?_
 refine pu_ (i := 8) (N := some 29) (bs_ 13 399) rfl rfl HT_ ?_
 refine pu_ (i := 9) (N := some 30) (bs_ 13 911) rfl rfl HT_ ?_
 refine pu_ (i := 10) (N := some 31) (bs_ 13 1935) rfl rfl HT_ ?_
 refine take_ (i := 11) (N := some 32) (v := ?_) (a' := ?_) (bs_ 13 3983) rfl rfl (take_ofW HT_.out HW_.out (by kernel_rfl)) (fun _ _ _ h => h) (Or.inl ⟨by rfl, ?_⟩) hHeld ?_ ?_
 rotate_left
 ·
  intro w' s0
  go_simp
  with_reducible rfl
 rotate_left
 ·
  simp only [Act.put, l_1, l_2, l_3, i64_w, i32_w]
  rfl
 refine one_ (i := 4) (N := some 25) (bs_ 13 3999) rfl rfl (one_of HT_.out (by kernel_rfl)) (by decide) (fun K hK => ?_)
 refine goes_ Try.func33 (by kernel_rfl) rfl #[.slice A0 (l0.take ((ji6) : Int).toNat).length c0] (by rfl) rfl rfl (by (try simp only [l_4, l_5, l_6]); first | done | (rw [show (l0.take ((ji6) : Int).toNat).length = (ji6).toNat from (by rw [l_8]; have h_ : ((ji6) : Int) ≤ (l0.length : Int) := of_decide_eq_true (by first | (with_reducible assumption) | assumption); omega)] <;> rfl) | (simp only [hji6]; rfl) | rfl | (simp only [l_7, l_8]; rfl)) ?_
 with_reducible refine (pelotonref07_Sum.calls k _ _ (l0.take ((ji6) : Int).toNat) t204 _ ?side1 ?side2 A9.out).mono ?_
 (case side1 => repeat (first | exact (Kd.C_below HR203.out HB.out) | (with_reducible refine Kd.C_alloc ?_ _) | (with_reducible refine Kd.C_drewN ?_ _) | (with_reducible refine Kd.C_drew ?_)))
 (case side2 => exact HC203.out)
 rintro e w' ⟨rfl, ⟨nd, rfl⟩⟩
 refine ⟨_, rfl, ?_⟩
 refine hK.out _ _ (((by rw [← show (l0.drop ((ji6) : Int).toNat).length = (l0.length - (ji6).toNat) from l_7]; exact Kd.C_string (P := Try.prog) (A := A16) (c := (c0 - (ji6).toNat)) Try.underlying29 Try.underlying5 Try.underlying9 (by repeat (first | exact (Kd.C_below HR208.out HB.out) | (with_reducible refine Kd.C_alloc ?_ _) | (with_reducible refine Kd.C_drewN ?_ _) | (with_reducible refine Kd.C_drew ?_)))))) (fun hHeld => ?_)
 clear hK K
 refine no_ (N := some 25) ?_
 refine one_ (i := 5) (N := some 26) (bs_ 13 4031) rfl rfl (one_of HT_.out (by kernel_rfl)) (by decide) (fun K hK => ?_)
 refine goes_ Try.func32 (by kernel_rfl) rfl #[.int .u32 t204] (by rfl) rfl rfl (by (try simp only [l_4, l_5, l_6]); first | done | rfl | (simp only [l_7, l_8]; rfl)) ?_
 with_reducible refine (pelotonref14_four.calls t204 t205 _ A10.out).mono ?_
 rintro e w17 ⟨v206, rfl, ho0, hb⟩
 refine ⟨_, rfl, ?_⟩
 have HO207 := Aside0.mk (Kd.R_lower ho0 (below_size (bw_ HB)))
 replace HB := Aside0.mk (below_step (bw_ HB) hb)
 (try clear hb)
 (try clear hb2)
 (try clear hk)
 (try clear hi)
 (try clear ho0)
 refine hK.out _ _ (((by rw [← show (l0.drop ((ji6) : Int).toNat).length = (l0.length - (ji6).toNat) from l_7]; exact Kd.C_string (P := Try.prog) (A := A16) (c := (c0 - (ji6).toNat)) Try.underlying29 Try.underlying5 Try.underlying9 (by repeat (first | exact (Kd.C_below HR208.out HB.out) | (with_reducible refine Kd.C_alloc ?_ _) | (with_reducible refine Kd.C_drewN ?_ _) | (with_reducible refine Kd.C_drew ?_)))))) (fun hHeld => ?_)
 clear hK K
 refine no_ (N := some 26) ?_
 refine one_ (i := 6) (N := some 27) (bs_ 13 4095) rfl rfl (one_of HT_.out (by kernel_rfl)) (by decide) (fun K hK => ?_)
 have hcv18 := own_string (P := Try.prog) Try.underlying29 Try.underlying5 Try.underlying9 (Kd.own_of_R HO207.out)
 refine value_ (w1 := ?_) (v := ?_) (by rfl) rfl ?_ ?_
 rotate_left 2
 ·
  go_simp
  constructor
  ·
   rfl
  ·
   rfl
 clear hcv18
 refine hK.out _ _ (((by rw [← show (l0.drop ((ji6) : Int).toNat).length = (l0.length - (ji6).toNat) from l_7]; exact Kd.C_string (P := Try.prog) (A := A16) (c := (c0 - (ji6).toNat)) Try.underlying29 Try.underlying5 Try.underlying9 (by repeat (first | exact (Kd.C_below HR208.out HB.out) | (with_reducible refine Kd.C_alloc ?_ _) | (with_reducible refine Kd.C_drewN ?_ _) | (with_reducible refine Kd.C_drew ?_)))))) (fun hHeld => ?_)
 clear hK K
 refine no_ (N := some 27) ?_
 refine pu_ (i := 12) (N := some 33) (bs_ 13 8191) rfl rfl HT_ ?_
 refine done_ (done_of HT_.out (by kernel_rfl)) ?_
 try go_wp2
 go_ret
 exact ⟨by first | rfl | (simp [errW_none, errW_some] <;> rfl) | (simp only [← hji6]; first | rfl | (simp [errW_none, errW_some] <;> rfl)) | (simp [*, errW_none, errW_some] <;> rfl), by repeat (first | (with_reducible first | exact HB.out | apply b_a | apply b_n | apply b_d) | exact HB.out)⟩
end Go.Proofs.Ytnkphgiodpledaa.QMsgParses
