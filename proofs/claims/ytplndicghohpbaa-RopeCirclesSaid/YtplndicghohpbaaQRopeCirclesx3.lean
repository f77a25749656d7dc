-- Written by a program of this session (a turned copy of the print) out of the translation. Lean checks it.
import Derived.Test.YtplndicghohpbaaQRopeCirclesx0
import Derived.Test.YtplndicghohpbaaQRopeCirclesx1
import Derived.Test.YtplndicghohpbaaQRopeCirclesx2
namespace Go.Proofs.Ytplndicghohpbaa.QRopeCircles
open Go.RowKit Go.Proofs.YtplndicghohpbaaW.PrintWords Go.Proofs.YtplndicghohpbaaW.PrintLast Go.Proofs.YtplndicghohpbaaW.PrintMore
attribute [local go_sem] max2_int min2_int max_two min_two max_three min_three max_four min_four   -- for this text's walks alone
open Go.Proofs.YtplndicghohpbaaW.PrintWords renaming below_alloc → b_a, pw_below_drewN → b_n, below_drew1 → b_d, below_set → b_s, blk_drewN → k_n, blk_drew → k_d, blk_alloc → k_a
open List renaming setIfInBounds_toArray → l_1, set_cons_zero → l_2, set_cons_succ → l_3, map_toArray → l_4, map_cons → l_5, map_nil → l_6, length_drop → l_7, length_take → l_8
set_option linter.unusedVariables false
set_option linter.unusedSimpArgs false

/-! ### pelotonlaw06_RopeCircles: function 5 -/
def pelotonlaw06_RopeCircles.j0 : Nat → Int → List Int → Bool → Option (Bool)
 | 0, _, _, _ => none
 | k + 1, x0, x1, x23 => if x23 = true then ((pelotonlaw06_awake.f k).bind fun t143 => (some t143)) else ((rope_Sin.f k (Int.tmod x0 1000000)).bind fun t144 => ((rope_Cos.f k (Int.tmod x0 1000000)).bind fun t145 => ((rope_Turn.f k 0 x1).bind fun bt146 => (if (wrap64 ((wrap64 ((wrap64 ((wrap64 (t144)) * (wrap64 (t144)))) + (wrap64 ((wrap64 (t145)) * (wrap64 (t145)))))) - 268435456)) < 1048576 then (if (wrap64 ((wrap64 ((wrap64 ((wrap64 (t144)) * (wrap64 (t144)))) + (wrap64 ((wrap64 (t145)) * (wrap64 (t145)))))) - 268435456)) > (-1048576) then ((rope_Sin.f k (wrap64 ((Int.tmod x0 1000000) + 65536))).bind fun t150 => (if t150 = (wrap32 (wrap64 (t144))) then ((rope_Sin.f k (wrap64 (-(Int.tmod x0 1000000)))).bind fun t151 => (if t151 = (wrap32 (wrap64 (-(wrap64 (t144))))) then ((rope_Cos.f k (wrap64 (-(Int.tmod x0 1000000)))).bind fun t152 => (if t152 = (wrap32 (wrap64 (t145))) then (if bt146.2 = 0 then ((pelotonref04_Bytes.f k bt146.1 x1).bind fun t153 => (some t153)) else (some false)) else (some false))) else (some false))) else (some false))) else (some false)) else (some false)))))
def pelotonlaw06_RopeCircles.f (k : Nat) (a0 : Int) (l1 : List Int) : Option (Bool) := (pelotonlaw06_awake.f k).bind fun t142 => (if t142 = true then (if (l1.length : Int) > 300 then (pelotonlaw06_RopeCircles.j0 k a0 l1 true) else (pelotonlaw06_RopeCircles.j0 k a0 l1 (((l1.length : Int) % 2) != 0))) else (pelotonlaw06_RopeCircles.j0 k a0 l1 true))
theorem pelotonlaw06_RopeCircles.mono_l : ∀ k, (∀ y0 y1 y2, LeO (pelotonlaw06_RopeCircles.j0 k y0 y1 y2) (pelotonlaw06_RopeCircles.j0 (k + 1) y0 y1 y2))
 | 0 => fun _ _ _ r h => by simp [pelotonlaw06_RopeCircles.j0] at h
 | k + 1 => by
  have ih0 := pelotonlaw06_RopeCircles.mono_l k
  ·
   intro y0 y1 y2
   unfold pelotonlaw06_RopeCircles.j0
   repeat' first
   | (with_reducible exact ih0 _ _ _)
   | (with_reducible exact pelotonlaw06_awake.mono _)
   | (with_reducible exact pelotonref04_Bytes.mono _ _ _)
   | (with_reducible exact rope_Cos.mono _ _)
   | (with_reducible exact rope_Sin.mono _ _)
   | (with_reducible exact rope_Turn.mono _ _ _)
   | (with_reducible exact LeO.refl _)
   | (with_reducible exact LeO.none _)
   | (with_reducible refine LeO.ite ?_ ?_)
   | (with_reducible refine LeO.bind ?_ (fun _ => ?_))
   | exact ih0 _ _ _
   | exact pelotonlaw06_awake.mono _
   | exact pelotonref04_Bytes.mono _ _ _
   | exact rope_Cos.mono _ _
   | exact rope_Sin.mono _ _
   | exact rope_Turn.mono _ _ _
   | exact LeO.none _
   | refine LeO.ite ?_ ?_
   | refine LeO.bind ?_ (fun _ => ?_)
theorem pelotonlaw06_RopeCircles.mono : ∀ a0 a1 k, LeO (pelotonlaw06_RopeCircles.f k a0 a1) (pelotonlaw06_RopeCircles.f (k + 1) a0 a1) := by
 intro a0 a1 k
 have ih0 := pelotonlaw06_RopeCircles.mono_l k
 unfold pelotonlaw06_RopeCircles.f
 repeat' first
   | (with_reducible exact ih0 _ _ _)
   | (with_reducible exact pelotonlaw06_awake.mono _)
   | (with_reducible exact pelotonref04_Bytes.mono _ _ _)
   | (with_reducible exact rope_Cos.mono _ _)
   | (with_reducible exact rope_Sin.mono _ _)
   | (with_reducible exact rope_Turn.mono _ _ _)
   | (with_reducible exact LeO.refl _)
   | (with_reducible exact LeO.none _)
   | (with_reducible refine LeO.ite ?_ ?_)
   | (with_reducible refine LeO.bind ?_ (fun _ => ?_))
   | exact ih0 _ _ _
   | exact pelotonlaw06_awake.mono _
   | exact pelotonref04_Bytes.mono _ _ _
   | exact rope_Cos.mono _ _
   | exact rope_Sin.mono _ _
   | exact rope_Turn.mono _ _ _
   | exact LeO.none _
   | refine LeO.ite ?_ ?_
   | refine LeO.bind ?_ (fun _ => ?_)
set_option maxHeartbeats 60000000 in
set_option maxRecDepth 100000 in
theorem pelotonlaw06_RopeCircles.calls (k : Nat) (a0 : Int) (A1 : Option Addr) (c1 : Nat) (l1 : List Int) (r : Bool) (w : World) (hr1 : Kd.C (Kd.int .i8) w A1 l1.length l1) (hc1 : l1.length ≤ c1) (h : pelotonlaw06_RopeCircles.f k a0 l1 = some r) :
  Calls Try.prog 5 #[.int .i64 a0, .slice A1 l1.length c1] w fun e w' => e = .returned (.bool r) ∧ Below w.heap.size w w' := by
 have HR1 := Aside0.mk hr1
 have HC1 := Aside0.mk hc1
 clear hr1 hc1
 have HB := Aside0.mk (Below.refl w.heap.size w)
 have H : ((pelotonlaw06_awake.f k).bind fun t142 => (if t142 = true then (if (l1.length : Int) > 300 then (pelotonlaw06_RopeCircles.j0 k a0 l1 true) else (pelotonlaw06_RopeCircles.j0 k a0 l1 (((l1.length : Int) % 2) != 0))) else (pelotonlaw06_RopeCircles.j0 k a0 l1 true))) = some r := h
 clear h
 have HC3 := Aside0.mk H
 clear H
 go_enter Try.func5, Try.ntmps5
 go_upto_region 1 with (fail)
 go_cut [23] (fun v23 wc => ∃ (kq : Nat) (x23_2 : Bool), v23 = .bool x23_2 ∧ Aside0 (pelotonlaw06_RopeCircles.j0 kq a0 l1 x23_2 = some r) ∧ Aside0 (kq ≤ k) ∧ Aside0 (Below w.heap.size w wc))
 case first =>
  have H := HC3.out
  clear HC3
  replace H := Option.bind_eq_some_iff.mp H
  obtain ⟨t142, A40, H⟩ := H
  replace H : (if t142 = true then (if (l1.length : Int) > 300 then (pelotonlaw06_RopeCircles.j0 k a0 l1 true) else (pelotonlaw06_RopeCircles.j0 k a0 l1 (((l1.length : Int) % 2) != 0))) else (pelotonlaw06_RopeCircles.j0 k a0 l1 true)) = some r := H
  have A4 := Aside0.mk A40
  clear A40
  by_cases c5 : t142 = true
  rotate_left
  ·
   replace c5 := Bool.eq_false_iff.mpr c5
   subst c5
   have H1 : (pelotonlaw06_RopeCircles.j0 k a0 l1 true) = some r := by rw [if_neg (show ¬ (false = true) by decide)] at H; exact H
   clear H
   have H := H1
   clear H1
   have H' := Aside0.mk H
   clear H
   go_wp2_with (first | ((with_reducible refine gate_callee (f := 8) rfl ?_); refine goesL_ (some 11) rfl rfl Try.func8 (by kernel_rfl) rfl #[] rfl (by (try simp only [l_4, l_5, l_6]); first | done | rfl | (simp only [l_7, l_8]; rfl)) ?_; (with_reducible refine (pelotonlaw06_awake.calls k  false _ A4.out).mono ?_); rintro e w9 ⟨rfl, hb⟩; (try clear A4); refine ⟨_, rfl, ?_⟩; have n0_ := Aside0.mk (below_step (by repeat (first | (with_reducible first | exact HB.out | apply b_a | apply b_n | apply b_d) | exact HB.out)) hb); clear HB; have HB := n0_; clear n0_; (try clear hb); (try clear hb2); (try clear hk); (try clear hi)))
   go_meet
   case rel => exact ⟨_, (true), (by first | rfl | (simp; done) | (simp [*]; done)), H', ⟨by first | omega | exact Nat.le_refl _⟩, ⟨by repeat (first | (with_reducible first | exact HB.out | apply b_a | apply b_n | apply b_d) | exact HB.out)⟩⟩
  subst c5
  have H1 : (if (l1.length : Int) > 300 then (pelotonlaw06_RopeCircles.j0 k a0 l1 true) else (pelotonlaw06_RopeCircles.j0 k a0 l1 (((l1.length : Int) % 2) != 0))) = some r := by rw [if_pos rfl] at H; exact H
  clear H
  have H := H1
  clear H1
  by_cases c6 : (l1.length : Int) > 300
  ·
   rw [if_pos c6] at H
   have c6b0 : decide (300 < (l1.length : Int)) = true := decide_eq_true c6
   have c6b1 : decide (300 < l1.length) = true := decide_eq_true (by omega)
   clear c6
   (first | rw [c6b0] | (simp only [i64_w, i32_w]; rw [c6b0]) | skip)
   have H' := Aside0.mk H
   clear H
   go_wp2_with (first | ((with_reducible refine gate_callee (f := 8) rfl ?_); refine goesL_ (some 11) rfl rfl Try.func8 (by kernel_rfl) rfl #[] rfl (by (try simp only [l_4, l_5, l_6]); first | done | rfl | (simp only [l_7, l_8]; rfl)) ?_; (with_reducible refine (pelotonlaw06_awake.calls k  true _ A4.out).mono ?_); rintro e w7 ⟨rfl, hb⟩; (try clear A4); refine ⟨_, rfl, ?_⟩; have n0_ := Aside0.mk (below_step (by repeat (first | (with_reducible first | exact HB.out | apply b_a | apply b_n | apply b_d) | exact HB.out)) hb); clear HB; have HB := n0_; clear n0_; (try clear hb); (try clear hb2); (try clear hk); (try clear hi)))
   go_meet
   case rel => exact ⟨_, (true), (by first | rfl | (simp; done) | (simp [*]; done)), H', ⟨by first | omega | exact Nat.le_refl _⟩, ⟨by repeat (first | (with_reducible first | exact HB.out | apply b_a | apply b_n | apply b_d) | exact HB.out)⟩⟩
  rw [if_neg c6] at H
  have c6b0 : decide (300 < (l1.length : Int)) = false := decide_eq_false c6
  have c6b1 : decide (300 < l1.length) = false := decide_eq_false (by omega)
  clear c6
  (first | rw [c6b0] | (simp only [i64_w, i32_w]; rw [c6b0]) | skip)
  have H' := Aside0.mk H
  clear H
  go_wp2_with (first | ((with_reducible refine gate_callee (f := 8) rfl ?_); refine goesL_ (some 11) rfl rfl Try.func8 (by kernel_rfl) rfl #[] rfl (by (try simp only [l_4, l_5, l_6]); first | done | rfl | (simp only [l_7, l_8]; rfl)) ?_; (with_reducible refine (pelotonlaw06_awake.calls k  true _ A4.out).mono ?_); rintro e w8 ⟨rfl, hb⟩; (try clear A4); refine ⟨_, rfl, ?_⟩; have n0_ := Aside0.mk (below_step (by repeat (first | (with_reducible first | exact HB.out | apply b_a | apply b_n | apply b_d) | exact HB.out)) hb); clear HB; have HB := n0_; clear n0_; (try clear hb); (try clear hb2); (try clear hk); (try clear hi)))
  go_meet
  case rel => exact ⟨_, ((((l1.length : Int) % 2) != 0)), (by first | rfl | (simp; done) | (simp [*]; done)), H', ⟨by first | omega | exact Nat.le_refl _⟩, ⟨by repeat (first | (with_reducible first | exact HB.out | apply b_a | apply b_n | apply b_d) | exact HB.out)⟩⟩
 case rest => as_aux_lemma =>
  clear HC3
  try clear c1
  try clear p2
  try clear c5
  try clear c6
  try clear c6b0
  try clear c6b1
  try clear c8
  obtain ⟨kq, x23_2, rfl, HA, HJ2, HB⟩ := hcut
  cases kq with
  | zero => exact absurd HA.out (by simp [pelotonlaw06_RopeCircles.j0])
  | succ kj2 =>
   have H := HA.out
   clear HA
   simp only [pelotonlaw06_RopeCircles.j0] at H
   by_cases c10 : x23_2 = true
   ·
    subst c10
    have H1 : ((pelotonlaw06_awake.f kj2).bind fun t143 => (some t143)) = some r := by rw [if_pos rfl] at H; exact H
    clear H
    have H := H1
    clear H1
    replace H := Option.bind_eq_some_iff.mp H
    obtain ⟨t143, A110, H⟩ := H
    replace H : (some t143) = some r := H
    have A11 := Aside0.mk A110
    clear A110
    obtain rfl := Option.some.inj H
    go_wp2_with (first | ((with_reducible refine gate_callee (f := 8) rfl ?_); refine goesL_ (some 24) rfl rfl Try.func8 (by kernel_rfl) rfl #[] rfl (by (try simp only [l_4, l_5, l_6]); first | done | rfl | (simp only [l_7, l_8]; rfl)) ?_; (with_reducible refine (pelotonlaw06_awake.calls kj2  t143 _ A11.out).mono ?_); rintro e w12 ⟨rfl, hb⟩; (try clear A11); refine ⟨_, rfl, ?_⟩; have n0_ := Aside0.mk (below_step (by repeat (first | (with_reducible first | exact HB.out | apply b_a | apply b_n | apply b_d) | exact HB.out)) hb); clear HB; have HB := n0_; clear n0_; (try clear hb); (try clear hb2); (try clear hk); (try clear hi)))
    go_ret
    exact ⟨by first | rfl | (simp [errW_none, errW_some] <;> rfl) | (simp [*, errW_none, errW_some] <;> rfl), by repeat (first | (with_reducible first | exact HB.out | apply b_a | apply b_n | apply b_d) | exact HB.out)⟩
   replace c10 := Bool.eq_false_iff.mpr c10
   subst c10
   have H1 : ((rope_Sin.f kj2 (Int.tmod a0 1000000)).bind fun t144 => ((rope_Cos.f kj2 (Int.tmod a0 1000000)).bind fun t145 => ((rope_Turn.f kj2 0 l1).bind fun bt146 => (if (wrap64 ((wrap64 ((wrap64 ((wrap64 (t144)) * (wrap64 (t144)))) + (wrap64 ((wrap64 (t145)) * (wrap64 (t145)))))) - 268435456)) < 1048576 then (if (wrap64 ((wrap64 ((wrap64 ((wrap64 (t144)) * (wrap64 (t144)))) + (wrap64 ((wrap64 (t145)) * (wrap64 (t145)))))) - 268435456)) > (-1048576) then ((rope_Sin.f kj2 (wrap64 ((Int.tmod a0 1000000) + 65536))).bind fun t150 => (if t150 = (wrap32 (wrap64 (t144))) then ((rope_Sin.f kj2 (wrap64 (-(Int.tmod a0 1000000)))).bind fun t151 => (if t151 = (wrap32 (wrap64 (-(wrap64 (t144))))) then ((rope_Cos.f kj2 (wrap64 (-(Int.tmod a0 1000000)))).bind fun t152 => (if t152 = (wrap32 (wrap64 (t145))) then (if bt146.2 = 0 then ((pelotonref04_Bytes.f kj2 bt146.1 l1).bind fun t153 => (some t153)) else (some false)) else (some false))) else (some false))) else (some false))) else (some false)) else (some false))))) = some r := by rw [if_neg (show ¬ (false = true) by decide)] at H; exact H
   clear H
   have H := H1
   clear H1
   replace H := Option.bind_eq_some_iff.mp H
   obtain ⟨t144, A130, H⟩ := H
   replace H : ((rope_Cos.f kj2 (Int.tmod a0 1000000)).bind fun t145 => ((rope_Turn.f kj2 0 l1).bind fun bt146 => (if (wrap64 ((wrap64 ((wrap64 ((wrap64 (t144)) * (wrap64 (t144)))) + (wrap64 ((wrap64 (t145)) * (wrap64 (t145)))))) - 268435456)) < 1048576 then (if (wrap64 ((wrap64 ((wrap64 ((wrap64 (t144)) * (wrap64 (t144)))) + (wrap64 ((wrap64 (t145)) * (wrap64 (t145)))))) - 268435456)) > (-1048576) then ((rope_Sin.f kj2 (wrap64 ((Int.tmod a0 1000000) + 65536))).bind fun t150 => (if t150 = (wrap32 (wrap64 (t144))) then ((rope_Sin.f kj2 (wrap64 (-(Int.tmod a0 1000000)))).bind fun t151 => (if t151 = (wrap32 (wrap64 (-(wrap64 (t144))))) then ((rope_Cos.f kj2 (wrap64 (-(Int.tmod a0 1000000)))).bind fun t152 => (if t152 = (wrap32 (wrap64 (t145))) then (if bt146.2 = 0 then ((pelotonref04_Bytes.f kj2 bt146.1 l1).bind fun t153 => (some t153)) else (some false)) else (some false))) else (some false))) else (some false))) else (some false)) else (some false)))) = some r := H
   have A13 := Aside0.mk A130
   clear A130
   replace H := Option.bind_eq_some_iff.mp H
   obtain ⟨t145, A140, H⟩ := H
   replace H : ((rope_Turn.f kj2 0 l1).bind fun bt146 => (if (wrap64 ((wrap64 ((wrap64 ((wrap64 (t144)) * (wrap64 (t144)))) + (wrap64 ((wrap64 (t145)) * (wrap64 (t145)))))) - 268435456)) < 1048576 then (if (wrap64 ((wrap64 ((wrap64 ((wrap64 (t144)) * (wrap64 (t144)))) + (wrap64 ((wrap64 (t145)) * (wrap64 (t145)))))) - 268435456)) > (-1048576) then ((rope_Sin.f kj2 (wrap64 ((Int.tmod a0 1000000) + 65536))).bind fun t150 => (if t150 = (wrap32 (wrap64 (t144))) then ((rope_Sin.f kj2 (wrap64 (-(Int.tmod a0 1000000)))).bind fun t151 => (if t151 = (wrap32 (wrap64 (-(wrap64 (t144))))) then ((rope_Cos.f kj2 (wrap64 (-(Int.tmod a0 1000000)))).bind fun t152 => (if t152 = (wrap32 (wrap64 (t145))) then (if bt146.2 = 0 then ((pelotonref04_Bytes.f kj2 bt146.1 l1).bind fun t153 => (some t153)) else (some false)) else (some false))) else (some false))) else (some false))) else (some false)) else (some false))) = some r := H
   have A14 := Aside0.mk A140
   clear A140
   replace H := Option.bind_eq_some_iff.mp H
   obtain ⟨⟨t146, t147⟩, A150, H⟩ := H
   replace H : (if (wrap64 ((wrap64 ((wrap64 ((wrap64 (t144)) * (wrap64 (t144)))) + (wrap64 ((wrap64 (t145)) * (wrap64 (t145)))))) - 268435456)) < 1048576 then (if (wrap64 ((wrap64 ((wrap64 ((wrap64 (t144)) * (wrap64 (t144)))) + (wrap64 ((wrap64 (t145)) * (wrap64 (t145)))))) - 268435456)) > (-1048576) then ((rope_Sin.f kj2 (wrap64 ((Int.tmod a0 1000000) + 65536))).bind fun t150 => (if t150 = (wrap32 (wrap64 (t144))) then ((rope_Sin.f kj2 (wrap64 (-(Int.tmod a0 1000000)))).bind fun t151 => (if t151 = (wrap32 (wrap64 (-(wrap64 (t144))))) then ((rope_Cos.f kj2 (wrap64 (-(Int.tmod a0 1000000)))).bind fun t152 => (if t152 = (wrap32 (wrap64 (t145))) then (if t147 = 0 then ((pelotonref04_Bytes.f kj2 t146 l1).bind fun t153 => (some t153)) else (some false)) else (some false))) else (some false))) else (some false))) else (some false)) else (some false)) = some r := H
   have A15 := Aside0.mk A150
   clear A150
   by_cases c16 : (wrap64 ((wrap64 ((wrap64 ((wrap64 (t144)) * (wrap64 (t144)))) + (wrap64 ((wrap64 (t145)) * (wrap64 (t145)))))) - 268435456)) < 1048576
   rotate_left
   ·
    rw [if_neg c16] at H
    have c16b0 : decide ((wrap64 ((wrap64 ((wrap64 ((wrap64 (t144)) * (wrap64 (t144)))) + (wrap64 ((wrap64 (t145)) * (wrap64 (t145)))))) - 268435456)) < 1048576) = false := decide_eq_false c16
    clear c16
    obtain rfl := Option.some.inj H
    go_wp2_with (first | ((with_reducible refine gate_callee (f := 9) rfl ?_); refine goesL_ (some 28) rfl rfl Try.func9 (by kernel_rfl) rfl #[.int .i64 (Int.tmod a0 1000000)] rfl (by (try simp only [l_4, l_5, l_6]); first | done | rfl | (simp only [l_7, l_8]; rfl)) ?_; (with_reducible refine (rope_Sin.calls kj2 (Int.tmod a0 1000000) t144 _ A13.out).mono ?_); rintro e w57 ⟨rfl, hb⟩; (try clear A13); refine ⟨_, rfl, ?_⟩; have n0_ := Aside0.mk (below_step (by repeat (first | (with_reducible first | exact HB.out | apply b_a | apply b_n | apply b_d) | exact HB.out)) hb); clear HB; have HB := n0_; clear n0_; (try clear hb); (try clear hb2); (try clear hk); (try clear hi)) | ((with_reducible refine gate_callee (f := 11) rfl ?_); refine goesL_ (some 31) rfl rfl Try.func11 (by kernel_rfl) rfl #[.int .i64 (Int.tmod a0 1000000)] rfl (by (try simp only [l_4, l_5, l_6]); first | done | rfl | (simp only [l_7, l_8]; rfl)) ?_; (with_reducible refine (rope_Cos.calls kj2 (Int.tmod a0 1000000) t145 _ A14.out).mono ?_); rintro e w58 ⟨rfl, hb⟩; (try clear A14); refine ⟨_, rfl, ?_⟩; have n0_ := Aside0.mk (below_step (by repeat (first | (with_reducible first | exact HB.out | apply b_a | apply b_n | apply b_d) | exact HB.out)) hb); clear HB; have HB := n0_; clear n0_; (try clear hb); (try clear hb2); (try clear hk); (try clear hi)) | ((with_reducible refine gate_callee (f := 15) rfl ?_); refine goesL_ (some 43) rfl rfl Try.func15 (by kernel_rfl) rfl #[.int .i64 0, .slice A1 l1.length c1] rfl (by (try simp only [l_4, l_5, l_6]); first | done | rfl | (simp only [l_7, l_8]; rfl)) ?_; (with_reducible refine (rope_Turn.calls kj2 0 _ _ l1 t146 t147 _ ?side1 ?side2 A15.out).mono ?_); (case side1 => repeat (first | exact (Kd.C_below HR1.out HB.out) | (with_reducible refine Kd.C_alloc ?_ _) | (with_reducible refine Kd.C_drewN ?_ _) | (with_reducible refine Kd.C_drew ?_))); (case side2 => exact HC1.out); rintro e w59 ⟨v148, rfl, ho0, hb⟩; (try clear A15); refine ⟨_, rfl, ?_⟩; have n0_ := Aside0.mk (Kd.R_lower ho0 (below_size (by repeat (first | (with_reducible first | exact HB.out | apply b_a | apply b_n | apply b_d) | exact HB.out)))); have n1_ := Aside0.mk (below_step (by repeat (first | (with_reducible first | exact HB.out | apply b_a | apply b_n | apply b_d) | exact HB.out)) hb); clear HB; have HO149 := n0_; have HB := n1_; clear n0_ n1_; (try clear hb); (try clear hb2); (try clear hk); (try clear hi); (try clear ho0)))
    go_ret
    exact ⟨by first | rfl | (simp [errW_none, errW_some] <;> rfl) | (simp [*, errW_none, errW_some] <;> rfl), by repeat (first | (with_reducible first | exact HB.out | apply b_a | apply b_n | apply b_d) | exact HB.out)⟩

   rw [if_pos c16] at H
   have c16b0 : decide ((wrap64 ((wrap64 ((wrap64 ((wrap64 (t144)) * (wrap64 (t144)))) + (wrap64 ((wrap64 (t145)) * (wrap64 (t145)))))) - 268435456)) < 1048576) = true := decide_eq_true c16
   clear c16
   by_cases c17 : (wrap64 ((wrap64 ((wrap64 ((wrap64 (t144)) * (wrap64 (t144)))) + (wrap64 ((wrap64 (t145)) * (wrap64 (t145)))))) - 268435456)) > (-1048576)
   rotate_left
   ·
    rw [if_neg c17] at H
    have c17b0 : decide ((-1048576) < (wrap64 ((wrap64 ((wrap64 ((wrap64 (t144)) * (wrap64 (t144)))) + (wrap64 ((wrap64 (t145)) * (wrap64 (t145)))))) - 268435456))) = false := decide_eq_false c17
    clear c17
    obtain rfl := Option.some.inj H
    go_wp2_with (first | ((with_reducible refine gate_callee (f := 9) rfl ?_); refine goesL_ (some 28) rfl rfl Try.func9 (by kernel_rfl) rfl #[.int .i64 (Int.tmod a0 1000000)] rfl (by (try simp only [l_4, l_5, l_6]); first | done | rfl | (simp only [l_7, l_8]; rfl)) ?_; (with_reducible refine (rope_Sin.calls kj2 (Int.tmod a0 1000000) t144 _ A13.out).mono ?_); rintro e w54 ⟨rfl, hb⟩; (try clear A13); refine ⟨_, rfl, ?_⟩; have n0_ := Aside0.mk (below_step (by repeat (first | (with_reducible first | exact HB.out | apply b_a | apply b_n | apply b_d) | exact HB.out)) hb); clear HB; have HB := n0_; clear n0_; (try clear hb); (try clear hb2); (try clear hk); (try clear hi)) | ((with_reducible refine gate_callee (f := 11) rfl ?_); refine goesL_ (some 31) rfl rfl Try.func11 (by kernel_rfl) rfl #[.int .i64 (Int.tmod a0 1000000)] rfl (by (try simp only [l_4, l_5, l_6]); first | done | rfl | (simp only [l_7, l_8]; rfl)) ?_; (with_reducible refine (rope_Cos.calls kj2 (Int.tmod a0 1000000) t145 _ A14.out).mono ?_); rintro e w55 ⟨rfl, hb⟩; (try clear A14); refine ⟨_, rfl, ?_⟩; have n0_ := Aside0.mk (below_step (by repeat (first | (with_reducible first | exact HB.out | apply b_a | apply b_n | apply b_d) | exact HB.out)) hb); clear HB; have HB := n0_; clear n0_; (try clear hb); (try clear hb2); (try clear hk); (try clear hi)) | ((with_reducible refine gate_callee (f := 15) rfl ?_); refine goesL_ (some 43) rfl rfl Try.func15 (by kernel_rfl) rfl #[.int .i64 0, .slice A1 l1.length c1] rfl (by (try simp only [l_4, l_5, l_6]); first | done | rfl | (simp only [l_7, l_8]; rfl)) ?_; (with_reducible refine (rope_Turn.calls kj2 0 _ _ l1 t146 t147 _ ?side1 ?side2 A15.out).mono ?_); (case side1 => repeat (first | exact (Kd.C_below HR1.out HB.out) | (with_reducible refine Kd.C_alloc ?_ _) | (with_reducible refine Kd.C_drewN ?_ _) | (with_reducible refine Kd.C_drew ?_))); (case side2 => exact HC1.out); rintro e w56 ⟨v148, rfl, ho0, hb⟩; (try clear A15); refine ⟨_, rfl, ?_⟩; have n0_ := Aside0.mk (Kd.R_lower ho0 (below_size (by repeat (first | (with_reducible first | exact HB.out | apply b_a | apply b_n | apply b_d) | exact HB.out)))); have n1_ := Aside0.mk (below_step (by repeat (first | (with_reducible first | exact HB.out | apply b_a | apply b_n | apply b_d) | exact HB.out)) hb); clear HB; have HO149 := n0_; have HB := n1_; clear n0_ n1_; (try clear hb); (try clear hb2); (try clear hk); (try clear hi); (try clear ho0)))
    go_ret
    exact ⟨by first | rfl | (simp [errW_none, errW_some] <;> rfl) | (simp [*, errW_none, errW_some] <;> rfl), by repeat (first | (with_reducible first | exact HB.out | apply b_a | apply b_n | apply b_d) | exact HB.out)⟩
   rw [if_pos c17] at H
   have c17b0 : decide ((-1048576) < (wrap64 ((wrap64 ((wrap64 ((wrap64 (t144)) * (wrap64 (t144)))) + (wrap64 ((wrap64 (t145)) * (wrap64 (t145)))))) - 268435456))) = true := decide_eq_true c17
   clear c17
   replace H := Option.bind_eq_some_iff.mp H
   obtain ⟨t150, A180, H⟩ := H
   replace H : (if t150 = (wrap32 (wrap64 (t144))) then ((rope_Sin.f kj2 (wrap64 (-(Int.tmod a0 1000000)))).bind fun t151 => (if t151 = (wrap32 (wrap64 (-(wrap64 (t144))))) then ((rope_Cos.f kj2 (wrap64 (-(Int.tmod a0 1000000)))).bind fun t152 => (if t152 = (wrap32 (wrap64 (t145))) then (if t147 = 0 then ((pelotonref04_Bytes.f kj2 t146 l1).bind fun t153 => (some t153)) else (some false)) else (some false))) else (some false))) else (some false)) = some r := H
   have A18 := Aside0.mk A180
   clear A180
   by_cases c19 : t150 = (wrap32 (wrap64 (t144)))
   rotate_left
   ·
    rw [if_neg c19] at H
    have c19b0 : (t150 == (wrap32 (wrap64 (t144)))) = false := beq_eq_false_iff_ne.mpr c19
    have c19b1 : (t150 != (wrap32 (wrap64 (t144)))) = true := bne_iff_ne.mpr c19
    obtain rfl := Option.some.inj H
    go_wp2_with (first | ((with_reducible refine gate_callee (f := 9) rfl ?_); refine goesL_ (some 28) rfl rfl Try.func9 (by kernel_rfl) rfl #[.int .i64 (Int.tmod a0 1000000)] rfl (by (try simp only [l_4, l_5, l_6]); first | done | rfl | (simp only [l_7, l_8]; rfl)) ?_; (with_reducible refine (rope_Sin.calls kj2 (Int.tmod a0 1000000) t144 _ A13.out).mono ?_); rintro e w50 ⟨rfl, hb⟩; (try clear A13); refine ⟨_, rfl, ?_⟩; have n0_ := Aside0.mk (below_step (by repeat (first | (with_reducible first | exact HB.out | apply b_a | apply b_n | apply b_d) | exact HB.out)) hb); clear HB; have HB := n0_; clear n0_; (try clear hb); (try clear hb2); (try clear hk); (try clear hi)) | ((with_reducible refine gate_callee (f := 11) rfl ?_); refine goesL_ (some 31) rfl rfl Try.func11 (by kernel_rfl) rfl #[.int .i64 (Int.tmod a0 1000000)] rfl (by (try simp only [l_4, l_5, l_6]); first | done | rfl | (simp only [l_7, l_8]; rfl)) ?_; (with_reducible refine (rope_Cos.calls kj2 (Int.tmod a0 1000000) t145 _ A14.out).mono ?_); rintro e w51 ⟨rfl, hb⟩; (try clear A14); refine ⟨_, rfl, ?_⟩; have n0_ := Aside0.mk (below_step (by repeat (first | (with_reducible first | exact HB.out | apply b_a | apply b_n | apply b_d) | exact HB.out)) hb); clear HB; have HB := n0_; clear n0_; (try clear hb); (try clear hb2); (try clear hk); (try clear hi)) | ((with_reducible refine gate_callee (f := 15) rfl ?_); refine goesL_ (some 43) rfl rfl Try.func15 (by kernel_rfl) rfl #[.int .i64 0, .slice A1 l1.length c1] rfl (by (try simp only [l_4, l_5, l_6]); first | done | rfl | (simp only [l_7, l_8]; rfl)) ?_; (with_reducible refine (rope_Turn.calls kj2 0 _ _ l1 t146 t147 _ ?side1 ?side2 A15.out).mono ?_); (case side1 => repeat (first | exact (Kd.C_below HR1.out HB.out) | (with_reducible refine Kd.C_alloc ?_ _) | (with_reducible refine Kd.C_drewN ?_ _) | (with_reducible refine Kd.C_drew ?_))); (case side2 => exact HC1.out); rintro e w52 ⟨v148, rfl, ho0, hb⟩; (try clear A15); refine ⟨_, rfl, ?_⟩; have n0_ := Aside0.mk (Kd.R_lower ho0 (below_size (by repeat (first | (with_reducible first | exact HB.out | apply b_a | apply b_n | apply b_d) | exact HB.out)))); have n1_ := Aside0.mk (below_step (by repeat (first | (with_reducible first | exact HB.out | apply b_a | apply b_n | apply b_d) | exact HB.out)) hb); clear HB; have HO149 := n0_; have HB := n1_; clear n0_ n1_; (try clear hb); (try clear hb2); (try clear hk); (try clear hi); (try clear ho0)) | (go_at_call 9; (with_reducible refine (rope_Sin.calls kj2 (wrap64 ((Int.tmod a0 1000000) + 65536)) t150 _ A18.out).mono ?_); rintro e w53 ⟨rfl, hb⟩; (try clear A18); have n0_ := Aside0.mk (Kd.R_below (by (with_reducible repeat (first | apply Kd.R_alloc | apply Kd.R_drewN | apply Kd.R_drew)); exact HO149.out) hb); have n1_ := Aside0.mk (below_step (by repeat (first | (with_reducible first | exact HB.out | apply b_a | apply b_n | apply b_d) | exact HB.out)) hb); clear HO149; clear HB; have HO149 := n0_; have HB := n1_; clear n0_ n1_; (try clear hb); (try clear hb2); (try clear hk); (try clear hi)))
    go_ret
    exact ⟨by first | rfl | (simp [errW_none, errW_some] <;> rfl) | (simp [*, errW_none, errW_some] <;> rfl), by repeat (first | (with_reducible first | exact HB.out | apply b_a | apply b_n | apply b_d) | exact HB.out)⟩
   rw [if_pos c19] at H
   have c19b0 : (t150 == (wrap32 (wrap64 (t144)))) = true := beq_iff_eq.mpr c19
   have c19b1 : (t150 != (wrap32 (wrap64 (t144)))) = false := bne_eq_false_iff_eq.mpr c19
   clear c19
   replace H := Option.bind_eq_some_iff.mp H
   obtain ⟨t151, A200, H⟩ := H
   replace H : (if t151 = (wrap32 (wrap64 (-(wrap64 (t144))))) then ((rope_Cos.f kj2 (wrap64 (-(Int.tmod a0 1000000)))).bind fun t152 => (if t152 = (wrap32 (wrap64 (t145))) then (if t147 = 0 then ((pelotonref04_Bytes.f kj2 t146 l1).bind fun t153 => (some t153)) else (some false)) else (some false))) else (some false)) = some r := H
   have A20 := Aside0.mk A200
   clear A200
   by_cases c21 : t151 = (wrap32 (wrap64 (-(wrap64 (t144)))))
   rotate_left
   ·
    rw [if_neg c21] at H
    have c21b0 : (t151 == (wrap32 (wrap64 (-(wrap64 (t144)))))) = false := beq_eq_false_iff_ne.mpr c21
    have c21b1 : (t151 != (wrap32 (wrap64 (-(wrap64 (t144)))))) = true := bne_iff_ne.mpr c21
    obtain rfl := Option.some.inj H
    go_wp2_with (first | ((with_reducible refine gate_callee (f := 9) rfl ?_); refine goesL_ (some 28) rfl rfl Try.func9 (by kernel_rfl) rfl #[.int .i64 (Int.tmod a0 1000000)] rfl (by (try simp only [l_4, l_5, l_6]); first | done | rfl | (simp only [l_7, l_8]; rfl)) ?_; (with_reducible refine (rope_Sin.calls kj2 (Int.tmod a0 1000000) t144 _ A13.out).mono ?_); rintro e w45 ⟨rfl, hb⟩; (try clear A13); refine ⟨_, rfl, ?_⟩; have n0_ := Aside0.mk (below_step (by repeat (first | (with_reducible first | exact HB.out | apply b_a | apply b_n | apply b_d) | exact HB.out)) hb); clear HB; have HB := n0_; clear n0_; (try clear hb); (try clear hb2); (try clear hk); (try clear hi)) | ((with_reducible refine gate_callee (f := 11) rfl ?_); refine goesL_ (some 31) rfl rfl Try.func11 (by kernel_rfl) rfl #[.int .i64 (Int.tmod a0 1000000)] rfl (by (try simp only [l_4, l_5, l_6]); first | done | rfl | (simp only [l_7, l_8]; rfl)) ?_; (with_reducible refine (rope_Cos.calls kj2 (Int.tmod a0 1000000) t145 _ A14.out).mono ?_); rintro e w46 ⟨rfl, hb⟩; (try clear A14); refine ⟨_, rfl, ?_⟩; have n0_ := Aside0.mk (below_step (by repeat (first | (with_reducible first | exact HB.out | apply b_a | apply b_n | apply b_d) | exact HB.out)) hb); clear HB; have HB := n0_; clear n0_; (try clear hb); (try clear hb2); (try clear hk); (try clear hi)) | ((with_reducible refine gate_callee (f := 15) rfl ?_); refine goesL_ (some 43) rfl rfl Try.func15 (by kernel_rfl) rfl #[.int .i64 0, .slice A1 l1.length c1] rfl (by (try simp only [l_4, l_5, l_6]); first | done | rfl | (simp only [l_7, l_8]; rfl)) ?_; (with_reducible refine (rope_Turn.calls kj2 0 _ _ l1 t146 t147 _ ?side1 ?side2 A15.out).mono ?_); (case side1 => repeat (first | exact (Kd.C_below HR1.out HB.out) | (with_reducible refine Kd.C_alloc ?_ _) | (with_reducible refine Kd.C_drewN ?_ _) | (with_reducible refine Kd.C_drew ?_))); (case side2 => exact HC1.out); rintro e w47 ⟨v148, rfl, ho0, hb⟩; (try clear A15); refine ⟨_, rfl, ?_⟩; have n0_ := Aside0.mk (Kd.R_lower ho0 (below_size (by repeat (first | (with_reducible first | exact HB.out | apply b_a | apply b_n | apply b_d) | exact HB.out)))); have n1_ := Aside0.mk (below_step (by repeat (first | (with_reducible first | exact HB.out | apply b_a | apply b_n | apply b_d) | exact HB.out)) hb); clear HB; have HO149 := n0_; have HB := n1_; clear n0_ n1_; (try clear hb); (try clear hb2); (try clear hk); (try clear hi); (try clear ho0)) | (go_at_call 9; (with_reducible refine (rope_Sin.calls kj2 (wrap64 ((Int.tmod a0 1000000) + 65536)) t150 _ A18.out).mono ?_); rintro e w48 ⟨rfl, hb⟩; (try clear A18); have n0_ := Aside0.mk (Kd.R_below (by (with_reducible repeat (first | apply Kd.R_alloc | apply Kd.R_drewN | apply Kd.R_drew)); exact HO149.out) hb); have n1_ := Aside0.mk (below_step (by repeat (first | (with_reducible first | exact HB.out | apply b_a | apply b_n | apply b_d) | exact HB.out)) hb); clear HO149; clear HB; have HO149 := n0_; have HB := n1_; clear n0_ n1_; (try clear hb); (try clear hb2); (try clear hk); (try clear hi)) | (go_at_call 9; (with_reducible refine (rope_Sin.calls kj2 (wrap64 (-(Int.tmod a0 1000000))) t151 _ A20.out).mono ?_); rintro e w49 ⟨rfl, hb⟩; (try clear A20); have n0_ := Aside0.mk (Kd.R_below (by (with_reducible repeat (first | apply Kd.R_alloc | apply Kd.R_drewN | apply Kd.R_drew)); exact HO149.out) hb); have n1_ := Aside0.mk (below_step (by repeat (first | (with_reducible first | exact HB.out | apply b_a | apply b_n | apply b_d) | exact HB.out)) hb); clear HO149; clear HB; have HO149 := n0_; have HB := n1_; clear n0_ n1_; (try clear hb); (try clear hb2); (try clear hk); (try clear hi)))
    go_ret
    exact ⟨by first | rfl | (simp [errW_none, errW_some] <;> rfl) | (simp [*, errW_none, errW_some] <;> rfl), by repeat (first | (with_reducible first | exact HB.out | apply b_a | apply b_n | apply b_d) | exact HB.out)⟩
   rw [if_pos c21] at H
   have c21b0 : (t151 == (wrap32 (wrap64 (-(wrap64 (t144)))))) = true := beq_iff_eq.mpr c21
   have c21b1 : (t151 != (wrap32 (wrap64 (-(wrap64 (t144)))))) = false := bne_eq_false_iff_eq.mpr c21
   clear c21
   replace H := Option.bind_eq_some_iff.mp H
   obtain ⟨t152, A220, H⟩ := H
   replace H : (if t152 = (wrap32 (wrap64 (t145))) then (if t147 = 0 then ((pelotonref04_Bytes.f kj2 t146 l1).bind fun t153 => (some t153)) else (some false)) else (some false)) = some r := H
   have A22 := Aside0.mk A220
   clear A220
   by_cases c23 : t152 = (wrap32 (wrap64 (t145)))
   rotate_left
   ·
    rw [if_neg c23] at H
    have c23b0 : (t152 == (wrap32 (wrap64 (t145)))) = false := beq_eq_false_iff_ne.mpr c23
    have c23b1 : (t152 != (wrap32 (wrap64 (t145)))) = true := bne_iff_ne.mpr c23
    obtain rfl := Option.some.inj H
    go_wp2_with (first | ((with_reducible refine gate_callee (f := 9) rfl ?_); refine goesL_ (some 28) rfl rfl Try.func9 (by kernel_rfl) rfl #[.int .i64 (Int.tmod a0 1000000)] rfl (by (try simp only [l_4, l_5, l_6]); first | done | rfl | (simp only [l_7, l_8]; rfl)) ?_; (with_reducible refine (rope_Sin.calls kj2 (Int.tmod a0 1000000) t144 _ A13.out).mono ?_); rintro e w39 ⟨rfl, hb⟩; (try clear A13); refine ⟨_, rfl, ?_⟩; have n0_ := Aside0.mk (below_step (by repeat (first | (with_reducible first | exact HB.out | apply b_a | apply b_n | apply b_d) | exact HB.out)) hb); clear HB; have HB := n0_; clear n0_; (try clear hb); (try clear hb2); (try clear hk); (try clear hi)) | ((with_reducible refine gate_callee (f := 11) rfl ?_); refine goesL_ (some 31) rfl rfl Try.func11 (by kernel_rfl) rfl #[.int .i64 (Int.tmod a0 1000000)] rfl (by (try simp only [l_4, l_5, l_6]); first | done | rfl | (simp only [l_7, l_8]; rfl)) ?_; (with_reducible refine (rope_Cos.calls kj2 (Int.tmod a0 1000000) t145 _ A14.out).mono ?_); rintro e w40 ⟨rfl, hb⟩; (try clear A14); refine ⟨_, rfl, ?_⟩; have n0_ := Aside0.mk (below_step (by repeat (first | (with_reducible first | exact HB.out | apply b_a | apply b_n | apply b_d) | exact HB.out)) hb); clear HB; have HB := n0_; clear n0_; (try clear hb); (try clear hb2); (try clear hk); (try clear hi)) | ((with_reducible refine gate_callee (f := 15) rfl ?_); refine goesL_ (some 43) rfl rfl Try.func15 (by kernel_rfl) rfl #[.int .i64 0, .slice A1 l1.length c1] rfl (by (try simp only [l_4, l_5, l_6]); first | done | rfl | (simp only [l_7, l_8]; rfl)) ?_; (with_reducible refine (rope_Turn.calls kj2 0 _ _ l1 t146 t147 _ ?side1 ?side2 A15.out).mono ?_); (case side1 => repeat (first | exact (Kd.C_below HR1.out HB.out) | (with_reducible refine Kd.C_alloc ?_ _) | (with_reducible refine Kd.C_drewN ?_ _) | (with_reducible refine Kd.C_drew ?_))); (case side2 => exact HC1.out); rintro e w41 ⟨v148, rfl, ho0, hb⟩; (try clear A15); refine ⟨_, rfl, ?_⟩; have n0_ := Aside0.mk (Kd.R_lower ho0 (below_size (by repeat (first | (with_reducible first | exact HB.out | apply b_a | apply b_n | apply b_d) | exact HB.out)))); have n1_ := Aside0.mk (below_step (by repeat (first | (with_reducible first | exact HB.out | apply b_a | apply b_n | apply b_d) | exact HB.out)) hb); clear HB; have HO149 := n0_; have HB := n1_; clear n0_ n1_; (try clear hb); (try clear hb2); (try clear hk); (try clear hi); (try clear ho0)) | (go_at_call 9; (with_reducible refine (rope_Sin.calls kj2 (wrap64 ((Int.tmod a0 1000000) + 65536)) t150 _ A18.out).mono ?_); rintro e w42 ⟨rfl, hb⟩; (try clear A18); have n0_ := Aside0.mk (Kd.R_below (by (with_reducible repeat (first | apply Kd.R_alloc | apply Kd.R_drewN | apply Kd.R_drew)); exact HO149.out) hb); have n1_ := Aside0.mk (below_step (by repeat (first | (with_reducible first | exact HB.out | apply b_a | apply b_n | apply b_d) | exact HB.out)) hb); clear HO149; clear HB; have HO149 := n0_; have HB := n1_; clear n0_ n1_; (try clear hb); (try clear hb2); (try clear hk); (try clear hi)) | (go_at_call 9; (with_reducible refine (rope_Sin.calls kj2 (wrap64 (-(Int.tmod a0 1000000))) t151 _ A20.out).mono ?_); rintro e w43 ⟨rfl, hb⟩; (try clear A20); have n0_ := Aside0.mk (Kd.R_below (by (with_reducible repeat (first | apply Kd.R_alloc | apply Kd.R_drewN | apply Kd.R_drew)); exact HO149.out) hb); have n1_ := Aside0.mk (below_step (by repeat (first | (with_reducible first | exact HB.out | apply b_a | apply b_n | apply b_d) | exact HB.out)) hb); clear HO149; clear HB; have HO149 := n0_; have HB := n1_; clear n0_ n1_; (try clear hb); (try clear hb2); (try clear hk); (try clear hi)) | (go_at_call 11; (with_reducible refine (rope_Cos.calls kj2 (wrap64 (-(Int.tmod a0 1000000))) t152 _ A22.out).mono ?_); rintro e w44 ⟨rfl, hb⟩; (try clear A22); have n0_ := Aside0.mk (Kd.R_below (by (with_reducible repeat (first | apply Kd.R_alloc | apply Kd.R_drewN | apply Kd.R_drew)); exact HO149.out) hb); have n1_ := Aside0.mk (below_step (by repeat (first | (with_reducible first | exact HB.out | apply b_a | apply b_n | apply b_d) | exact HB.out)) hb); clear HO149; clear HB; have HO149 := n0_; have HB := n1_; clear n0_ n1_; (try clear hb); (try clear hb2); (try clear hk); (try clear hi)))
    go_ret
    exact ⟨by first | rfl | (simp [errW_none, errW_some] <;> rfl) | (simp [*, errW_none, errW_some] <;> rfl), by repeat (first | (with_reducible first | exact HB.out | apply b_a | apply b_n | apply b_d) | exact HB.out)⟩
   rw [if_pos c23] at H
   have c23b0 : (t152 == (wrap32 (wrap64 (t145)))) = true := beq_iff_eq.mpr c23
   have c23b1 : (t152 != (wrap32 (wrap64 (t145)))) = false := bne_eq_false_iff_eq.mpr c23
   clear c23
   by_cases c24 : t147 = 0
   rotate_left
   ·
    rw [if_neg c24] at H
    have c24b0 : (t147 == 0) = false := beq_eq_false_iff_ne.mpr c24
    have c24b1 : (t147 != 0) = true := bne_iff_ne.mpr c24
    obtain rfl := Option.some.inj H
    go_wp2_with (first | ((with_reducible refine gate_callee (f := 9) rfl ?_); refine goesL_ (some 28) rfl rfl Try.func9 (by kernel_rfl) rfl #[.int .i64 (Int.tmod a0 1000000)] rfl (by (try simp only [l_4, l_5, l_6]); first | done | rfl | (simp only [l_7, l_8]; rfl)) ?_; (with_reducible refine (rope_Sin.calls kj2 (Int.tmod a0 1000000) t144 _ A13.out).mono ?_); rintro e w33 ⟨rfl, hb⟩; (try clear A13); refine ⟨_, rfl, ?_⟩; have n0_ := Aside0.mk (below_step (by repeat (first | (with_reducible first | exact HB.out | apply b_a | apply b_n | apply b_d) | exact HB.out)) hb); clear HB; have HB := n0_; clear n0_; (try clear hb); (try clear hb2); (try clear hk); (try clear hi)) | ((with_reducible refine gate_callee (f := 11) rfl ?_); refine goesL_ (some 31) rfl rfl Try.func11 (by kernel_rfl) rfl #[.int .i64 (Int.tmod a0 1000000)] rfl (by (try simp only [l_4, l_5, l_6]); first | done | rfl | (simp only [l_7, l_8]; rfl)) ?_; (with_reducible refine (rope_Cos.calls kj2 (Int.tmod a0 1000000) t145 _ A14.out).mono ?_); rintro e w34 ⟨rfl, hb⟩; (try clear A14); refine ⟨_, rfl, ?_⟩; have n0_ := Aside0.mk (below_step (by repeat (first | (with_reducible first | exact HB.out | apply b_a | apply b_n | apply b_d) | exact HB.out)) hb); clear HB; have HB := n0_; clear n0_; (try clear hb); (try clear hb2); (try clear hk); (try clear hi)) | ((with_reducible refine gate_callee (f := 15) rfl ?_); refine goesL_ (some 43) rfl rfl Try.func15 (by kernel_rfl) rfl #[.int .i64 0, .slice A1 l1.length c1] rfl (by (try simp only [l_4, l_5, l_6]); first | done | rfl | (simp only [l_7, l_8]; rfl)) ?_; (with_reducible refine (rope_Turn.calls kj2 0 _ _ l1 t146 t147 _ ?side1 ?side2 A15.out).mono ?_); (case side1 => repeat (first | exact (Kd.C_below HR1.out HB.out) | (with_reducible refine Kd.C_alloc ?_ _) | (with_reducible refine Kd.C_drewN ?_ _) | (with_reducible refine Kd.C_drew ?_))); (case side2 => exact HC1.out); rintro e w35 ⟨v148, rfl, ho0, hb⟩; (try clear A15); refine ⟨_, rfl, ?_⟩; have n0_ := Aside0.mk (Kd.R_lower ho0 (below_size (by repeat (first | (with_reducible first | exact HB.out | apply b_a | apply b_n | apply b_d) | exact HB.out)))); have n1_ := Aside0.mk (below_step (by repeat (first | (with_reducible first | exact HB.out | apply b_a | apply b_n | apply b_d) | exact HB.out)) hb); clear HB; have HO149 := n0_; have HB := n1_; clear n0_ n1_; (try clear hb); (try clear hb2); (try clear hk); (try clear hi); (try clear ho0)) | (go_at_call 9; (with_reducible refine (rope_Sin.calls kj2 (wrap64 ((Int.tmod a0 1000000) + 65536)) t150 _ A18.out).mono ?_); rintro e w36 ⟨rfl, hb⟩; (try clear A18); have n0_ := Aside0.mk (Kd.R_below (by (with_reducible repeat (first | apply Kd.R_alloc | apply Kd.R_drewN | apply Kd.R_drew)); exact HO149.out) hb); have n1_ := Aside0.mk (below_step (by repeat (first | (with_reducible first | exact HB.out | apply b_a | apply b_n | apply b_d) | exact HB.out)) hb); clear HO149; clear HB; have HO149 := n0_; have HB := n1_; clear n0_ n1_; (try clear hb); (try clear hb2); (try clear hk); (try clear hi)) | (go_at_call 9; (with_reducible refine (rope_Sin.calls kj2 (wrap64 (-(Int.tmod a0 1000000))) t151 _ A20.out).mono ?_); rintro e w37 ⟨rfl, hb⟩; (try clear A20); have n0_ := Aside0.mk (Kd.R_below (by (with_reducible repeat (first | apply Kd.R_alloc | apply Kd.R_drewN | apply Kd.R_drew)); exact HO149.out) hb); have n1_ := Aside0.mk (below_step (by repeat (first | (with_reducible first | exact HB.out | apply b_a | apply b_n | apply b_d) | exact HB.out)) hb); clear HO149; clear HB; have HO149 := n0_; have HB := n1_; clear n0_ n1_; (try clear hb); (try clear hb2); (try clear hk); (try clear hi)) | (go_at_call 11; (with_reducible refine (rope_Cos.calls kj2 (wrap64 (-(Int.tmod a0 1000000))) t152 _ A22.out).mono ?_); rintro e w38 ⟨rfl, hb⟩; (try clear A22); have n0_ := Aside0.mk (Kd.R_below (by (with_reducible repeat (first | apply Kd.R_alloc | apply Kd.R_drewN | apply Kd.R_drew)); exact HO149.out) hb); have n1_ := Aside0.mk (below_step (by repeat (first | (with_reducible first | exact HB.out | apply b_a | apply b_n | apply b_d) | exact HB.out)) hb); clear HO149; clear HB; have HO149 := n0_; have HB := n1_; clear n0_ n1_; (try clear hb); (try clear hb2); (try clear hk); (try clear hi)))
    go_ret
    exact ⟨by first | rfl | (simp [errW_none, errW_some] <;> rfl) | (simp [*, errW_none, errW_some] <;> rfl), by repeat (first | (with_reducible first | exact HB.out | apply b_a | apply b_n | apply b_d) | exact HB.out)⟩
   rw [if_pos c24] at H
   have c24b0 : (t147 == 0) = true := beq_iff_eq.mpr c24
   have c24b1 : (t147 != 0) = false := bne_eq_false_iff_eq.mpr c24
   clear c24
   replace H := Option.bind_eq_some_iff.mp H
   obtain ⟨t153, A250, H⟩ := H
   replace H : (some t153) = some r := H
   have A25 := Aside0.mk A250
   clear A250
   obtain rfl := Option.some.inj H
   go_wp2_with (first | ((with_reducible refine gate_callee (f := 9) rfl ?_); refine goesL_ (some 28) rfl rfl Try.func9 (by kernel_rfl) rfl #[.int .i64 (Int.tmod a0 1000000)] rfl (by (try simp only [l_4, l_5, l_6]); first | done | rfl | (simp only [l_7, l_8]; rfl)) ?_; (with_reducible refine (rope_Sin.calls kj2 (Int.tmod a0 1000000) t144 _ A13.out).mono ?_); rintro e w26 ⟨rfl, hb⟩; (try clear A13); refine ⟨_, rfl, ?_⟩; have n0_ := Aside0.mk (below_step (by repeat (first | (with_reducible first | exact HB.out | apply b_a | apply b_n | apply b_d) | exact HB.out)) hb); clear HB; have HB := n0_; clear n0_; (try clear hb); (try clear hb2); (try clear hk); (try clear hi)) | ((with_reducible refine gate_callee (f := 11) rfl ?_); refine goesL_ (some 31) rfl rfl Try.func11 (by kernel_rfl) rfl #[.int .i64 (Int.tmod a0 1000000)] rfl (by (try simp only [l_4, l_5, l_6]); first | done | rfl | (simp only [l_7, l_8]; rfl)) ?_; (with_reducible refine (rope_Cos.calls kj2 (Int.tmod a0 1000000) t145 _ A14.out).mono ?_); rintro e w27 ⟨rfl, hb⟩; (try clear A14); refine ⟨_, rfl, ?_⟩; have n0_ := Aside0.mk (below_step (by repeat (first | (with_reducible first | exact HB.out | apply b_a | apply b_n | apply b_d) | exact HB.out)) hb); clear HB; have HB := n0_; clear n0_; (try clear hb); (try clear hb2); (try clear hk); (try clear hi)) | ((with_reducible refine gate_callee (f := 15) rfl ?_); refine goesL_ (some 43) rfl rfl Try.func15 (by kernel_rfl) rfl #[.int .i64 0, .slice A1 l1.length c1] rfl (by (try simp only [l_4, l_5, l_6]); first | done | rfl | (simp only [l_7, l_8]; rfl)) ?_; (with_reducible refine (rope_Turn.calls kj2 0 _ _ l1 t146 t147 _ ?side1 ?side2 A15.out).mono ?_); (case side1 => repeat (first | exact (Kd.C_below HR1.out HB.out) | (with_reducible refine Kd.C_alloc ?_ _) | (with_reducible refine Kd.C_drewN ?_ _) | (with_reducible refine Kd.C_drew ?_))); (case side2 => exact HC1.out); rintro e w28 ⟨v148, rfl, ho0, hb⟩; (try clear A15); refine ⟨_, rfl, ?_⟩; have n0_ := Aside0.mk (Kd.R_lower ho0 (below_size (by repeat (first | (with_reducible first | exact HB.out | apply b_a | apply b_n | apply b_d) | exact HB.out)))); have n1_ := Aside0.mk (below_step (by repeat (first | (with_reducible first | exact HB.out | apply b_a | apply b_n | apply b_d) | exact HB.out)) hb); clear HB; have HO149 := n0_; have HB := n1_; clear n0_ n1_; (try clear hb); (try clear hb2); (try clear hk); (try clear hi); (try clear ho0)) | (go_at_call 9; (with_reducible refine (rope_Sin.calls kj2 (wrap64 ((Int.tmod a0 1000000) + 65536)) t150 _ A18.out).mono ?_); rintro e w29 ⟨rfl, hb⟩; (try clear A18); have n0_ := Aside0.mk (Kd.R_below (by (with_reducible repeat (first | apply Kd.R_alloc | apply Kd.R_drewN | apply Kd.R_drew)); exact HO149.out) hb); have n1_ := Aside0.mk (below_step (by repeat (first | (with_reducible first | exact HB.out | apply b_a | apply b_n | apply b_d) | exact HB.out)) hb); clear HO149; clear HB; have HO149 := n0_; have HB := n1_; clear n0_ n1_; (try clear hb); (try clear hb2); (try clear hk); (try clear hi)) | (go_at_call 9; (with_reducible refine (rope_Sin.calls kj2 (wrap64 (-(Int.tmod a0 1000000))) t151 _ A20.out).mono ?_); rintro e w30 ⟨rfl, hb⟩; (try clear A20); have n0_ := Aside0.mk (Kd.R_below (by (with_reducible repeat (first | apply Kd.R_alloc | apply Kd.R_drewN | apply Kd.R_drew)); exact HO149.out) hb); have n1_ := Aside0.mk (below_step (by repeat (first | (with_reducible first | exact HB.out | apply b_a | apply b_n | apply b_d) | exact HB.out)) hb); clear HO149; clear HB; have HO149 := n0_; have HB := n1_; clear n0_ n1_; (try clear hb); (try clear hb2); (try clear hk); (try clear hi)) | (go_at_call 11; (with_reducible refine (rope_Cos.calls kj2 (wrap64 (-(Int.tmod a0 1000000))) t152 _ A22.out).mono ?_); rintro e w31 ⟨rfl, hb⟩; (try clear A22); have n0_ := Aside0.mk (Kd.R_below (by (with_reducible repeat (first | apply Kd.R_alloc | apply Kd.R_drewN | apply Kd.R_drew)); exact HO149.out) hb); have n1_ := Aside0.mk (below_step (by repeat (first | (with_reducible first | exact HB.out | apply b_a | apply b_n | apply b_d) | exact HB.out)) hb); clear HO149; clear HB; have HO149 := n0_; have HB := n1_; clear n0_ n1_; (try clear hb); (try clear hb2); (try clear hk); (try clear hi); obtain ⟨Ao32, co32, eo32⟩ := Kd.R_slice HO149.out; subst eo32) | (go_at_call 16; (with_reducible refine (pelotonref04_Bytes.calls kj2 _ _ t146 _ _ l1 t153 _ ?side1 ?side2 ?side3 ?side4 A25.out).mono ?_); (case side1 => repeat (first | exact (Kd.R_reads' HO149.out).2.2 | (with_reducible refine Kd.C_alloc ?_ _) | (with_reducible refine Kd.C_drewN ?_ _) | (with_reducible refine Kd.C_drew ?_))); (case side2 => exact (Kd.R_reads' HO149.out).2.1); (case side3 => repeat (first | exact (Kd.C_below HR1.out HB.out) | (with_reducible refine Kd.C_alloc ?_ _) | (with_reducible refine Kd.C_drewN ?_ _) | (with_reducible refine Kd.C_drew ?_))); (case side4 => exact HC1.out); rintro e w' ⟨rfl, ⟨nd, rfl⟩⟩))
   go_ret
   exact ⟨by first | rfl | (simp [errW_none, errW_some] <;> rfl) | (simp [*, errW_none, errW_some] <;> rfl), by repeat (first | (with_reducible first | exact HB.out | apply b_a | apply b_n | apply b_d) | exact HB.out)⟩
/-- THE ONE PURE STATEMENT of pelotonlaw06_RopeCircles. -/
def pelotonlaw06_RopeCircles.Pure : Prop := ∀ (a0 : Int) (l1 : List Int), ((Lit.int .i64 a0).wf = true) → (l1.length ≤ maxLen ∧ ∀ y0 ∈ l1, (Lit.int .i8 y0).wf = true) → ∃ k, pelotonlaw06_RopeCircles.f k a0 l1 = some true

end Go.Proofs.Ytplndicghohpbaa.QRopeCircles
