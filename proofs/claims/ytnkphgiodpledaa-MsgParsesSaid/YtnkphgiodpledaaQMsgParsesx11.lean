-- Written by a program of this session (a turned copy of the print) out of the translation. Lean checks it.
import Derived.Test.YtnkphgiodpledaaQMsgParsesx0
import Derived.Test.YtnkphgiodpledaaQMsgParsesx3
import Derived.Test.YtnkphgiodpledaaQMsgParsesx4
import Derived.Test.YtnkphgiodpledaaQMsgParsesx5
import Derived.Test.YtnkphgiodpledaaQMsgParsesx8
import Derived.Test.YtnkphgiodpledaaQMsgParsesx10
namespace Go.Proofs.Ytnkphgiodpledaa.QMsgParses
open Go.RowKit Go.Proofs.YtnkphgiodpledaaW.PrintWords Go.Proofs.YtnkphgiodpledaaW.PrintLast Go.Proofs.YtnkphgiodpledaaW.PrintMore
attribute [local go_sem] max2_int min2_int max_two min_two max_three min_three max_four min_four   -- for this text's walks alone
open Go.Proofs.YtnkphgiodpledaaW.PrintWords renaming below_alloc → b_a, pw_below_drewN → b_n, below_drew1 → b_d, below_set → b_s, blk_drewN → k_n, blk_drew → k_d, blk_alloc → k_a
open List renaming setIfInBounds_toArray → l_1, set_cons_zero → l_2, set_cons_succ → l_3, map_toArray → l_4, map_cons → l_5, map_nil → l_6, length_drop → l_7, length_take → l_8
set_option linter.unusedVariables false
set_option linter.unusedSimpArgs false

/-! ### pelotonlaw15_MsgParses: function 5 -/
def pelotonlaw15_MsgParses.j0 : Nat → List Int → Bool → Option (Bool)
 | 0, _, _ => none
 | k + 1, x0, x12 => if x12 = true then ((pelotonlaw15_awake.f k).bind fun t241 => (some t241)) else ((some (([] : List Int) : List Int)).bind fun y242 => (if y242.length + x0.length < 140737488355328 then ((msg_Parse.f k (y242 ++ x0)).bind fun bt248 => ((pelotonref15_Fault.f k x0).bind fun t261 => (if bt248.2.2.2.2.2.2.2.2.2 = t261 then (if t261 = 0 then ((pelotonref15_Right.f k bt248.1 bt248.2.1 bt248.2.2.1 bt248.2.2.2.1 bt248.2.2.2.2.1 bt248.2.2.2.2.2.1 bt248.2.2.2.2.2.2.1 bt248.2.2.2.2.2.2.2.1 bt248.2.2.2.2.2.2.2.2.1).bind fun t262 => (if t262 = true then ((pelotonref15_Bytes.f k bt248.1 bt248.2.1 bt248.2.2.1 bt248.2.2.2.1 bt248.2.2.2.2.1 bt248.2.2.2.2.2.1 bt248.2.2.2.2.2.2.1 bt248.2.2.2.2.2.2.2.1 bt248.2.2.2.2.2.2.2.2.1).bind fun t263 => (some ((strOfNums t263).toList == (strOfNums x0).toList))) else (some false))) else ((pelotonref15_Same.f k bt248.1 bt248.2.1 bt248.2.2.1 bt248.2.2.2.1 bt248.2.2.2.2.1 bt248.2.2.2.2.2.1 bt248.2.2.2.2.2.2.1 bt248.2.2.2.2.2.2.2.1 bt248.2.2.2.2.2.2.2.2.1 0 0 0 0 0 0 0 0 ([] : List Int)).bind fun t266 => (some t266))) else (some false)))) else (none)))
def pelotonlaw15_MsgParses.f (k : Nat) (l0 : List Int) : Option (Bool) := (pelotonlaw15_awake.f k).bind fun t240 => (if t240 = true then (pelotonlaw15_MsgParses.j0 k l0 (decide ((l0.length : Int) > 3000))) else (pelotonlaw15_MsgParses.j0 k l0 true))
theorem pelotonlaw15_MsgParses.mono_l : ∀ k, (∀ y0 y1, LeO (pelotonlaw15_MsgParses.j0 k y0 y1) (pelotonlaw15_MsgParses.j0 (k + 1) y0 y1))
 | 0 => fun _ _ r h => by simp [pelotonlaw15_MsgParses.j0] at h
 | k + 1 => by
  have ih0 := pelotonlaw15_MsgParses.mono_l k
  ·
   intro y0 y1
   unfold pelotonlaw15_MsgParses.j0
   repeat' first
   | (with_reducible exact ih0 _ _)
   | (with_reducible exact msg_Parse.mono _ _)
   | (with_reducible exact pelotonlaw15_awake.mono _)
   | (with_reducible exact pelotonref15_Bytes.mono _ _ _ _ _ _ _ _ _ _)
   | (with_reducible exact pelotonref15_Fault.mono _ _)
   | (with_reducible exact pelotonref15_Right.mono _ _ _ _ _ _ _ _ _ _)
   | (with_reducible exact pelotonref15_Same.mono _ _ _ _ _ _ _ _ _ _ _ _ _ _ _ _ _ _ _)
   | (with_reducible exact LeO.refl _)
   | (with_reducible exact LeO.none _)
   | (with_reducible refine LeO.ite ?_ ?_)
   | (with_reducible refine LeO.bind ?_ (fun _ => ?_))
   | exact ih0 _ _
   | exact msg_Parse.mono _ _
   | exact pelotonlaw15_awake.mono _
   | exact pelotonref15_Bytes.mono _ _ _ _ _ _ _ _ _ _
   | exact pelotonref15_Fault.mono _ _
   | exact pelotonref15_Right.mono _ _ _ _ _ _ _ _ _ _
   | exact pelotonref15_Same.mono _ _ _ _ _ _ _ _ _ _ _ _ _ _ _ _ _ _ _
   | exact LeO.none _
   | refine LeO.ite ?_ ?_
   | refine LeO.bind ?_ (fun _ => ?_)
theorem pelotonlaw15_MsgParses.mono : ∀ a0 k, LeO (pelotonlaw15_MsgParses.f k a0) (pelotonlaw15_MsgParses.f (k + 1) a0) := by
 intro a0 k
 have ih0 := pelotonlaw15_MsgParses.mono_l k
 unfold pelotonlaw15_MsgParses.f
 repeat' first
   | (with_reducible exact ih0 _ _)
   | (with_reducible exact msg_Parse.mono _ _)
   | (with_reducible exact pelotonlaw15_awake.mono _)
   | (with_reducible exact pelotonref15_Bytes.mono _ _ _ _ _ _ _ _ _ _)
   | (with_reducible exact pelotonref15_Fault.mono _ _)
   | (with_reducible exact pelotonref15_Right.mono _ _ _ _ _ _ _ _ _ _)
   | (with_reducible exact pelotonref15_Same.mono _ _ _ _ _ _ _ _ _ _ _ _ _ _ _ _ _ _ _)
   | (with_reducible exact LeO.refl _)
   | (with_reducible exact LeO.none _)
   | (with_reducible refine LeO.ite ?_ ?_)
   | (with_reducible refine LeO.bind ?_ (fun _ => ?_))
   | exact ih0 _ _
   | exact msg_Parse.mono _ _
   | exact pelotonlaw15_awake.mono _
   | exact pelotonref15_Bytes.mono _ _ _ _ _ _ _ _ _ _
   | exact pelotonref15_Fault.mono _ _
   | exact pelotonref15_Right.mono _ _ _ _ _ _ _ _ _ _
   | exact pelotonref15_Same.mono _ _ _ _ _ _ _ _ _ _ _ _ _ _ _ _ _ _ _
   | exact LeO.none _
   | refine LeO.ite ?_ ?_
   | refine LeO.bind ?_ (fun _ => ?_)
def pelotonlaw15_MsgParses.T9 : Bool × List (List Nat × List Nat) := (true, [([], []), ([0], [0]), ([1, 1], [1]), ([2], [2]), ([3, 2, 2], [2, 3]), ([4, 2], [2, 4]), ([2], [2]), ([6, 2], [2, 6]), ([5, 7, 2], [2, 5, 7]), ([2, 8], [2, 8]), ([9, 4, 0, 1, 2, 3, 4, 5, 6, 7, 8, 9], [9])])
def pelotonlaw15_MsgParses.B9 : List Nat := [0, 1, 3, 7, 15, 31, 7, 71, 255, 511, 1023]
theorem pelotonlaw15_MsgParses.tab9 : rtab .any (opsOf Try.f5 9) = pelotonlaw15_MsgParses.T9 := by kernel_rfl
theorem pelotonlaw15_MsgParses.bits9 : waitsOk pelotonlaw15_MsgParses.T9.2 pelotonlaw15_MsgParses.B9 = true := by kernel_rfl
set_option maxHeartbeats 60000000 in
set_option maxRecDepth 100000 in
theorem pelotonlaw15_MsgParses.calls (k : Nat) (A0 : Option Addr) (c0 : Nat) (l0 : List Int) (r : Bool) (w : World) (hr0 : Kd.C (Kd.int .u8) w A0 l0.length l0) (hc0 : l0.length ≤ c0) (h : pelotonlaw15_MsgParses.f k l0 = some r) :
  Calls Try.prog 5 #[.slice A0 l0.length c0] w fun e w' => e = .returned (.bool r) ∧ Below w.heap.size w w' := by
 have hu24 := Try.underlying24
 have HR0 := Aside0.mk hr0
 have HC0 := Aside0.mk hc0
 clear hr0 hc0
 have HB := Aside0.mk (Below.refl w.heap.size w)
 have H : ((pelotonlaw15_awake.f k).bind fun t240 => (if t240 = true then (pelotonlaw15_MsgParses.j0 k l0 (decide ((l0.length : Int) > 3000))) else (pelotonlaw15_MsgParses.j0 k l0 true))) = some r := h
 clear h
 have HC2 := Aside0.mk H
 clear H
 go_enter Try.func5, Try.ntmps5
 go_upto_region 1 with (fail)
 go_cut [12] (fun v12 wc => ∃ (kq : Nat) (x12_1 : Bool), v12 = .bool x12_1 ∧ Aside0 (pelotonlaw15_MsgParses.j0 kq l0 x12_1 = some r) ∧ Aside0 (kq ≤ k) ∧ Aside0 (Below w.heap.size w wc))
 case first =>
  have H := HC2.out
  clear HC2
  replace H := Option.bind_eq_some_iff.mp H
  obtain ⟨t240, A30, H⟩ := H
  replace H : (if t240 = true then (pelotonlaw15_MsgParses.j0 k l0 (decide ((l0.length : Int) > 3000))) else (pelotonlaw15_MsgParses.j0 k l0 true)) = some r := H
  have A3 := Aside0.mk A30
  clear A30
  by_cases c4 : t240 = true
  ·
   subst c4
   have H1 : (pelotonlaw15_MsgParses.j0 k l0 (decide ((l0.length : Int) > 3000))) = some r := by rw [if_pos rfl] at H; exact H
   clear H
   have H := H1
   clear H1
   have H' := Aside0.mk H
   clear H
   go_wp2_with (first | ((with_reducible refine gate_callee (f := 7) rfl ?_); refine goesL_ (some 6) rfl rfl Try.func7 (by kernel_rfl) rfl #[] rfl (by (try simp only [l_4, l_5, l_6]); first | done | rfl | (simp only [l_7, l_8]; rfl)) ?_; (with_reducible refine (pelotonlaw15_awake.calls k  true _ A3.out).mono ?_); rintro e w5 ⟨rfl, hb⟩; (try clear A3); refine ⟨_, rfl, ?_⟩; replace HB := Aside0.mk (below_step (bw_ HB) hb); (try clear hb); (try clear hb2); (try clear hk); (try clear hi)))
   go_meet
   case rel => exact ⟨_, (decide ((l0.length : Int) > 3000)), (by first | rfl | (simp; done) | (simp [*]; done)), H', ⟨by first | exact Nat.le_refl _ | omega⟩, ⟨by repeat (first | (with_reducible first | exact HB.out | apply b_a | apply b_n | apply b_d) | exact HB.out)⟩⟩
  replace c4 := Bool.eq_false_iff.mpr c4
  subst c4
  have H1 : (pelotonlaw15_MsgParses.j0 k l0 true) = some r := by rw [if_neg (show ¬ (false = true) by decide)] at H; exact H
  clear H
  have H := H1
  clear H1
  have H' := Aside0.mk H
  clear H
  go_wp2_with (first | ((with_reducible refine gate_callee (f := 7) rfl ?_); refine goesL_ (some 6) rfl rfl Try.func7 (by kernel_rfl) rfl #[] rfl (by (try simp only [l_4, l_5, l_6]); first | done | rfl | (simp only [l_7, l_8]; rfl)) ?_; (with_reducible refine (pelotonlaw15_awake.calls k  false _ A3.out).mono ?_); rintro e w6 ⟨rfl, hb⟩; (try clear A3); refine ⟨_, rfl, ?_⟩; replace HB := Aside0.mk (below_step (bw_ HB) hb); (try clear hb); (try clear hb2); (try clear hk); (try clear hi)))
  go_meet
  case rel => exact ⟨_, (true), (by first | rfl | (simp; done) | (simp [*]; done)), H', ⟨by first | exact Nat.le_refl _ | omega⟩, ⟨by repeat (first | (with_reducible first | exact HB.out | apply b_a | apply b_n | apply b_d) | exact HB.out)⟩⟩
 case rest => as_aux_lemma =>
  clear HC2
  try clear p2
  try clear c4
  try clear c5
  obtain ⟨kq, x12_1, rfl, HA, HJ1, HB⟩ := hcut
  cases kq with
  | zero => exact absurd HA.out (by simp [pelotonlaw15_MsgParses.j0])
  | succ kj1 =>
   have H := HA.out
   clear HA
   simp only [pelotonlaw15_MsgParses.j0] at H
   by_cases c7 : x12_1 = true
   ·
    subst c7
    have H1 : ((pelotonlaw15_awake.f kj1).bind fun t241 => (some t241)) = some r := by rw [if_pos rfl] at H; exact H
    clear H
    have H := H1
    clear H1
    replace H := Option.bind_eq_some_iff.mp H
    obtain ⟨t241, A80, H⟩ := H
    replace H : (some t241) = some r := H
    have A8 := Aside0.mk A80
    clear A80
    obtain rfl := Option.some.inj H
    go_wp2_with (first | ((with_reducible refine gate_callee (f := 7) rfl ?_); refine goesL_ (some 13) rfl rfl Try.func7 (by kernel_rfl) rfl #[] rfl (by (try simp only [l_4, l_5, l_6]); first | done | rfl | (simp only [l_7, l_8]; rfl)) ?_; (with_reducible refine (pelotonlaw15_awake.calls kj1  t241 _ A8.out).mono ?_); rintro e w9 ⟨rfl, hb⟩; (try clear A8); refine ⟨_, rfl, ?_⟩; replace HB := Aside0.mk (below_step (bw_ HB) hb); (try clear hb); (try clear hb2); (try clear hk); (try clear hi)))
    go_ret
    exact ⟨by first | rfl | (simp [errW_none, errW_some] <;> rfl) | (simp [*, errW_none, errW_some] <;> rfl), by repeat (first | (with_reducible first | exact HB.out | apply b_a | apply b_n | apply b_d) | exact HB.out)⟩
   replace c7 := Bool.eq_false_iff.mpr c7
   subst c7
   have H1 : ((some (([] : List Int) : List Int)).bind fun y242 => (if y242.length + l0.length < 140737488355328 then ((msg_Parse.f kj1 (y242 ++ l0)).bind fun bt248 => ((pelotonref15_Fault.f kj1 l0).bind fun t261 => (if bt248.2.2.2.2.2.2.2.2.2 = t261 then (if t261 = 0 then ((pelotonref15_Right.f kj1 bt248.1 bt248.2.1 bt248.2.2.1 bt248.2.2.2.1 bt248.2.2.2.2.1 bt248.2.2.2.2.2.1 bt248.2.2.2.2.2.2.1 bt248.2.2.2.2.2.2.2.1 bt248.2.2.2.2.2.2.2.2.1).bind fun t262 => (if t262 = true then ((pelotonref15_Bytes.f kj1 bt248.1 bt248.2.1 bt248.2.2.1 bt248.2.2.2.1 bt248.2.2.2.2.1 bt248.2.2.2.2.2.1 bt248.2.2.2.2.2.2.1 bt248.2.2.2.2.2.2.2.1 bt248.2.2.2.2.2.2.2.2.1).bind fun t263 => (some ((strOfNums t263).toList == (strOfNums l0).toList))) else (some false))) else ((pelotonref15_Same.f kj1 bt248.1 bt248.2.1 bt248.2.2.1 bt248.2.2.2.1 bt248.2.2.2.2.1 bt248.2.2.2.2.2.1 bt248.2.2.2.2.2.2.1 bt248.2.2.2.2.2.2.2.1 bt248.2.2.2.2.2.2.2.2.1 0 0 0 0 0 0 0 0 ([] : List Int)).bind fun t266 => (some t266))) else (some false)))) else (none))) = some r := by rw [if_neg (show ¬ (false = true) by decide)] at H; exact H
   clear H
   have H := H1
   clear H1
   obtain ⟨y242, hy242⟩ : ∃ y_ : List Int, y_ = (([] : List Int)) := ⟨_, rfl⟩
   replace H : (if y242.length + l0.length < 140737488355328 then ((msg_Parse.f kj1 (y242 ++ l0)).bind fun bt248 => ((pelotonref15_Fault.f kj1 l0).bind fun t261 => (if bt248.2.2.2.2.2.2.2.2.2 = t261 then (if t261 = 0 then ((pelotonref15_Right.f kj1 bt248.1 bt248.2.1 bt248.2.2.1 bt248.2.2.2.1 bt248.2.2.2.2.1 bt248.2.2.2.2.2.1 bt248.2.2.2.2.2.2.1 bt248.2.2.2.2.2.2.2.1 bt248.2.2.2.2.2.2.2.2.1).bind fun t262 => (if t262 = true then ((pelotonref15_Bytes.f kj1 bt248.1 bt248.2.1 bt248.2.2.1 bt248.2.2.2.1 bt248.2.2.2.2.1 bt248.2.2.2.2.2.1 bt248.2.2.2.2.2.2.1 bt248.2.2.2.2.2.2.2.1 bt248.2.2.2.2.2.2.2.2.1).bind fun t263 => (some ((strOfNums t263).toList == (strOfNums l0).toList))) else (some false))) else ((pelotonref15_Same.f kj1 bt248.1 bt248.2.1 bt248.2.2.1 bt248.2.2.2.1 bt248.2.2.2.2.1 bt248.2.2.2.2.2.1 bt248.2.2.2.2.2.2.1 bt248.2.2.2.2.2.2.2.1 bt248.2.2.2.2.2.2.2.2.1 0 0 0 0 0 0 0 0 ([] : List Int)).bind fun t266 => (some t266))) else (some false)))) else (none)) = some r := by first | (rw [hy242]; with_reducible exact H) | (have H2_ := (Option.bind_some _ _).symm.trans H; rw [hy242]; with_reducible exact H2_) | (have H2_ := (Option.bind_some _ _).symm.trans H; with_reducible exact H2_) | with_reducible exact H | (rw [hy242]; exact H) | exact H
   have Ny242 := Aside0.mk hy242
   clear hy242
   by_cases c10 : y242.length + l0.length < 140737488355328
   rotate_left
   ·
    rw [if_neg c10] at H
    exact absurd H (by simp)

   rw [if_pos c10] at H
   have LMc10 := Aside0.mk c10
   clear c10
   obtain ⟨y245, hy245⟩ : ∃ y_ : List Int, y_ = (y242 ++ l0) := ⟨_, rfl⟩
   replace H : ((msg_Parse.f kj1 y245).bind fun bt248 => ((pelotonref15_Fault.f kj1 l0).bind fun t261 => (if bt248.2.2.2.2.2.2.2.2.2 = t261 then (if t261 = 0 then ((pelotonref15_Right.f kj1 bt248.1 bt248.2.1 bt248.2.2.1 bt248.2.2.2.1 bt248.2.2.2.2.1 bt248.2.2.2.2.2.1 bt248.2.2.2.2.2.2.1 bt248.2.2.2.2.2.2.2.1 bt248.2.2.2.2.2.2.2.2.1).bind fun t262 => (if t262 = true then ((pelotonref15_Bytes.f kj1 bt248.1 bt248.2.1 bt248.2.2.1 bt248.2.2.2.1 bt248.2.2.2.2.1 bt248.2.2.2.2.2.1 bt248.2.2.2.2.2.2.1 bt248.2.2.2.2.2.2.2.1 bt248.2.2.2.2.2.2.2.2.1).bind fun t263 => (some ((strOfNums t263).toList == (strOfNums l0).toList))) else (some false))) else ((pelotonref15_Same.f kj1 bt248.1 bt248.2.1 bt248.2.2.1 bt248.2.2.2.1 bt248.2.2.2.2.1 bt248.2.2.2.2.2.1 bt248.2.2.2.2.2.2.1 bt248.2.2.2.2.2.2.2.1 bt248.2.2.2.2.2.2.2.2.1 0 0 0 0 0 0 0 0 ([] : List Int)).bind fun t266 => (some t266))) else (some false)))) = some r := by first | (rw [hy245]; with_reducible exact H) | (have H2_ := (Option.bind_some _ _).symm.trans H; rw [hy245]; with_reducible exact H2_) | (have H2_ := (Option.bind_some _ _).symm.trans H; with_reducible exact H2_) | with_reducible exact H | (rw [hy245]; exact H) | exact H
   have Ny245 := Aside0.mk hy245
   clear hy245
   replace H := Option.bind_eq_some_iff.mp H
   obtain ⟨⟨t248, t249, t250, t251, t252, t253, t254, t255, t256, t259⟩, A110, H⟩ := H
   replace H : ((pelotonref15_Fault.f kj1 l0).bind fun t261 => (if t259 = t261 then (if t261 = 0 then ((pelotonref15_Right.f kj1 t248 t249 t250 t251 t252 t253 t254 t255 t256).bind fun t262 => (if t262 = true then ((pelotonref15_Bytes.f kj1 t248 t249 t250 t251 t252 t253 t254 t255 t256).bind fun t263 => (some ((strOfNums t263).toList == (strOfNums l0).toList))) else (some false))) else ((pelotonref15_Same.f kj1 t248 t249 t250 t251 t252 t253 t254 t255 t256 0 0 0 0 0 0 0 0 ([] : List Int)).bind fun t266 => (some t266))) else (some false))) = some r := H
   have A11 := Aside0.mk A110
   clear A110
   replace H := Option.bind_eq_some_iff.mp H
   obtain ⟨t261, A120, H⟩ := H
   replace H : (if t259 = t261 then (if t261 = 0 then ((pelotonref15_Right.f kj1 t248 t249 t250 t251 t252 t253 t254 t255 t256).bind fun t262 => (if t262 = true then ((pelotonref15_Bytes.f kj1 t248 t249 t250 t251 t252 t253 t254 t255 t256).bind fun t263 => (some ((strOfNums t263).toList == (strOfNums l0).toList))) else (some false))) else ((pelotonref15_Same.f kj1 t248 t249 t250 t251 t252 t253 t254 t255 t256 0 0 0 0 0 0 0 0 ([] : List Int)).bind fun t266 => (some t266))) else (some false)) = some r := H
   have A12 := Aside0.mk A120
   clear A120
   by_cases c13 : t259 = t261
   rotate_left
   ·
    rw [if_neg c13] at H
    have c13b0 : (t259 == t261) = false := beq_eq_false_iff_ne.mpr c13
    have c13b1 : (t259 != t261) = true := bne_iff_ne.mpr c13
    obtain rfl := Option.some.inj H
    go_wp2_with (first | ((with_reducible refine gate_dst (N := 15) rfl ?_); (try (refine gate_guard (by rfl) ?_; dsimp only)); refine Kd.R_lit (Kd.int .u8) _ 5 ?hg (N := 15) ?hd (xs := ([] : List Int)) (inner := []) (ok := fun _ => True) (okp := fun _ => True) ?hr ?hp (fun _ hk => hk) trivial (Below.refl _ _) (Nat.le_refl _) (by simp) ?_; (case hd => rfl); (case hg => rfl); (case hr => first | (go_simp; done) | (go_simp; rfl)); (case hp => exact (Reps.none _ _)); intro v243 w56 ho57 hb hg_ hnew_; clear hg_ hnew_; (first | rw [← Ny242.out] at ho57 | (simp only [Int.reduceToNat] at ho57; rw [← Ny242.out] at ho57)); have HO244 := Aside0.mk (Kd.R_lower ho57 (below_size (bw_ HB))); replace HB := Aside0.mk (below_step (bw_ HB) hb); clear hb ho57) | ((with_reducible refine gate_builtin (b := .append) (xs := #[.tmp 15, .tmp 16]) rfl ?_); (try (refine gate_guard (by rfl) ?_; dsimp only)); at_builtin; refine Kd.R_append_rows (Kd.int .u8) (w0 := w) w.heap.size rfl (.tmp 15) (.tmp 16) 29 5 (.int .u8 0) 1 rfl Try.underlying29 info5 rfl (by decide) (by omega) v243 y242 l0 _ _ _ (fun _ => True) (fun _ => False) rfl rfl ?aO ?aR (fun _ _ h => h) (fun _ h => h.elim) ?aF ?aB ?aS ?aL ?_; (case aR => repeat (first | exact (Kd.C_below HR0.out HB.out) | (with_reducible refine Kd.C_alloc ?_ _) | (with_reducible refine Kd.C_drewN ?_ _) | (with_reducible refine Kd.C_drew ?_))); (case aB => exact (bw_ HB)); (case aF => exact (fun _ _ => trivial)); (case aO => exact (tR_ HO244)); (case aS => exact (below_size (bw_ HB))); (case aL => have := LMc10.out; omega); intro v246 w58 ho hb hg hat; rw [← Ny245.out] at ho; have n0_ := Aside0.mk (hb); have n1_ := Aside0.mk (ho); clear HB; clear HO244; have HB := n0_; have HO247 := n1_; clear n0_ n1_; clear ho hb hg hat; obtain ⟨Ao59, co59, eo59⟩ := Kd.R_slice HO247.out; subst eo59) | ((with_reducible refine gate_callee (f := 15) rfl ?_); refine goesL_ (some 18) rfl rfl Try.func15 (by kernel_rfl) rfl #[.slice Ao59 y245.length co59] rfl (by (try simp only [l_4, l_5, l_6]); first | done | rfl | (simp only [l_7, l_8]; rfl)) ?_; (with_reducible refine (msg_Parse.calls kj1 _ _ y245 t248 t249 t250 t251 t252 t253 t254 t255 t256 t259 _ ?side1 ?side2 A11.out).mono ?_); (case side1 => repeat (first | exact (Kd.R_reads' HO247.out).2.2 | (with_reducible refine Kd.C_alloc ?_ _) | (with_reducible refine Kd.C_drewN ?_ _) | (with_reducible refine Kd.C_drew ?_))); (case side2 => exact (Kd.R_reads' HO247.out).2.1); rintro e w60 ⟨v257, rfl, ho0, hb⟩; (try clear A11); refine ⟨_, rfl, ?_⟩; have HO258 := Aside0.mk (Kd.R_lower ho0 (below_size (bw_ HB))); replace HO247 := Aside0.mk (Kd.R_below (tR_ HO247) hb); replace HB := Aside0.mk (below_step (bw_ HB) hb); (try clear hb); (try clear hb2); (try clear hk); (try clear hi); (try clear ho0)) | ((with_reducible refine gate_dst (N := 3) rfl ?_); (try (refine gate_guard (by rfl) ?_; dsimp only)); refine box_event ?hg (N := 3) ?hd (cs := #[.int .i64 0, .int .i64 0, .int .i64 0, .int .i64 0, .int .i64 0, .int .i64 0, .int .i64 0, .int .i64 0, .slice none 0 0]) (t := 24) ?hr ?_; (case hd => rfl); (case hg => rfl); (case hr => first | (go_simp; done) | (go_simp; rfl)); intro gb260 hg w61 hbox hb; have BK260 := Aside0.mk (hbox); have GW260 := Aside0.mk ((by rw [hg]; exact (below_size (bw_ HB)) : w.heap.size ≤ gb260)); have GE260 := Aside0.mk ((by rw [hg]; exact (below_size (bw_ HB)) : w.heap.size ≤ gb260)); replace HO247 := Aside0.mk (Kd.R_below (tR_ HO247) hb); replace HO258 := Aside0.mk (Kd.R_below (tR_ HO258) hb); replace HB := Aside0.mk (below_step (bw_ HB) hb); clear hb hbox hg; have hcz62_0 := bc_0 BK260; have hcz62_1 := bc_1 BK260; have hcz62_2 := bc_2 BK260; have hcz62_3 := bc_3 BK260; have hcz62_4 := bc_4 BK260; have hcz62_5 := bc_5 BK260; have hcz62_6 := bc_6 BK260; have hcz62_7 := bc_7 BK260; have hcz62_8 : w61.cell? ⟨gb260, 8, none⟩ = some (.slice none 0 0) := (blk_cell BK260.out 8).trans rfl; have hfz62_0 := blk_frozen BK260.out 0; have hfz62_1 := blk_frozen BK260.out 1; have hfz62_2 := blk_frozen BK260.out 2; have hfz62_3 := blk_frozen BK260.out 3; have hfz62_4 := blk_frozen BK260.out 4; have hfz62_5 := blk_frozen BK260.out 5; have hfz62_6 := blk_frozen BK260.out 6; have hfz62_7 := blk_frozen BK260.out 7; have hfz62_8 := blk_frozen BK260.out 8; obtain ⟨Ao63, co63, eo63⟩ := Kd.R_slice HO258.out; subst eo63; (first | ((with_reducible refine gate_store_ rfl ?_); refine st9_ rfl rfl rfl rfl rfl (by with_reducible assumption) (by kernel_rfl) (by simp [Value.oneCell']) ?_; clear hcz62_0 hfz62_0 hcz62_1 hfz62_1 hcz62_2 hfz62_2 hcz62_3 hfz62_3 hcz62_4 hfz62_4 hcz62_5 hfz62_5 hcz62_6 hfz62_6 hcz62_7 hfz62_7 hcz62_8 hfz62_8; intro hb9_; have BN62 := Aside0.mk hb9_; clear hb9_) | skip)) | ((with_reducible refine gate_callee (f := 16) rfl ?_); refine goesL_ (some 22) rfl rfl Try.func16 (by kernel_rfl) rfl #[.slice A0 l0.length c0] rfl (by (try simp only [l_4, l_5, l_6]); first | done | rfl | (simp only [l_7, l_8]; rfl)) ?_; (with_reducible refine (pelotonref15_Fault.calls kj1 _ _ l0 t261 _ ?side1 ?side2 A12.out).mono ?_); (case side1 => exact Kd.C_below HR0.out (bw_ HB)); (case side2 => exact HC0.out); rintro e w64 ⟨rfl, hb⟩; (try clear A12); refine ⟨_, rfl, ?_⟩; replace HO247 := Aside0.mk (Kd.R_below (by (with_reducible repeat (first | apply Kd.R_alloc | apply Kd.R_drewN | apply Kd.R_drew)); exact (Kd.R_mono (Kd.R_far (p := ⟨gb260, 8, none⟩) (Kd.R_far (p := ⟨gb260, 7, none⟩) (Kd.R_far (p := ⟨gb260, 6, none⟩) (Kd.R_far (p := ⟨gb260, 5, none⟩) (Kd.R_far (p := ⟨gb260, 4, none⟩) (Kd.R_far (p := ⟨gb260, 3, none⟩) (Kd.R_far (p := ⟨gb260, 2, none⟩) (Kd.R_far (p := ⟨gb260, 1, none⟩) (Kd.R_far (p := ⟨gb260, 0, none⟩) (Kd.R_types HO247.out BK260.out (by decide)) (fun _ hk => hk.2) (.int .i64 t248)) (fun _ hk => hk.2) (.int .i64 t249)) (fun _ hk => hk.2) (.int .i64 t250)) (fun _ hk => hk.2) (.int .i64 t251)) (fun _ hk => hk.2) (.int .i64 t252)) (fun _ hk => hk.2) (.int .i64 t253)) (fun _ hk => hk.2) (.int .i64 t254)) (fun _ hk => hk.2) (.int .i64 t255)) (fun _ hk => hk.2) (.slice Ao63 t256.length co63)) (fun _ h_ => h_.1))) hb); replace HO258 := Aside0.mk (Kd.R_below (by (with_reducible repeat (first | apply Kd.R_alloc | apply Kd.R_drewN | apply Kd.R_drew)); exact (Kd.R_mono (Kd.R_far (p := ⟨gb260, 8, none⟩) (Kd.R_far (p := ⟨gb260, 7, none⟩) (Kd.R_far (p := ⟨gb260, 6, none⟩) (Kd.R_far (p := ⟨gb260, 5, none⟩) (Kd.R_far (p := ⟨gb260, 4, none⟩) (Kd.R_far (p := ⟨gb260, 3, none⟩) (Kd.R_far (p := ⟨gb260, 2, none⟩) (Kd.R_far (p := ⟨gb260, 1, none⟩) (Kd.R_far (p := ⟨gb260, 0, none⟩) (Kd.R_types HO258.out BK260.out (by decide)) (fun _ hk => hk.2) (.int .i64 t248)) (fun _ hk => hk.2) (.int .i64 t249)) (fun _ hk => hk.2) (.int .i64 t250)) (fun _ hk => hk.2) (.int .i64 t251)) (fun _ hk => hk.2) (.int .i64 t252)) (fun _ hk => hk.2) (.int .i64 t253)) (fun _ hk => hk.2) (.int .i64 t254)) (fun _ hk => hk.2) (.int .i64 t255)) (fun _ hk => hk.2) (.slice Ao63 t256.length co63)) (fun _ h_ => h_.1))) hb); replace BK260 := Aside0.mk (blk_below (g := gb260) (o := .cells #[.int .i64 t248, .int .i64 t249, .int .i64 t250, .int .i64 t251, .int .i64 t252, .int .i64 t253, .int .i64 t254, .int .i64 t255, .slice Ao63 t256.length co63] 24 (0, 0)) (by (with_reducible repeat (first | refine k_n ?_ _ | refine k_d ?_ | refine k_a ?_ _)); refine blk_put (cs := #[.int .i64 t248, .int .i64 t249, .int .i64 t250, .int .i64 t251, .int .i64 t252, .int .i64 t253, .int .i64 t254, .int .i64 t255, .slice none 0 0]) ?_ 8 _ rfl; (with_reducible repeat (first | refine k_n ?_ _ | refine k_d ?_ | refine k_a ?_ _)); refine blk_put (cs := #[.int .i64 t248, .int .i64 t249, .int .i64 t250, .int .i64 t251, .int .i64 t252, .int .i64 t253, .int .i64 t254, .int .i64 0, .slice none 0 0]) ?_ 7 _ rfl; (with_reducible repeat (first | refine k_n ?_ _ | refine k_d ?_ | refine k_a ?_ _)); refine blk_put (cs := #[.int .i64 t248, .int .i64 t249, .int .i64 t250, .int .i64 t251, .int .i64 t252, .int .i64 t253, .int .i64 0, .int .i64 0, .slice none 0 0]) ?_ 6 _ rfl; (with_reducible repeat (first | refine k_n ?_ _ | refine k_d ?_ | refine k_a ?_ _)); refine blk_put (cs := #[.int .i64 t248, .int .i64 t249, .int .i64 t250, .int .i64 t251, .int .i64 t252, .int .i64 0, .int .i64 0, .int .i64 0, .slice none 0 0]) ?_ 5 _ rfl; (with_reducible repeat (first | refine k_n ?_ _ | refine k_d ?_ | refine k_a ?_ _)); refine blk_put (cs := #[.int .i64 t248, .int .i64 t249, .int .i64 t250, .int .i64 t251, .int .i64 0, .int .i64 0, .int .i64 0, .int .i64 0, .slice none 0 0]) ?_ 4 _ rfl; (with_reducible repeat (first | refine k_n ?_ _ | refine k_d ?_ | refine k_a ?_ _)); refine blk_put (cs := #[.int .i64 t248, .int .i64 t249, .int .i64 t250, .int .i64 0, .int .i64 0, .int .i64 0, .int .i64 0, .int .i64 0, .slice none 0 0]) ?_ 3 _ rfl; (with_reducible repeat (first | refine k_n ?_ _ | refine k_d ?_ | refine k_a ?_ _)); refine blk_put (cs := #[.int .i64 t248, .int .i64 t249, .int .i64 0, .int .i64 0, .int .i64 0, .int .i64 0, .int .i64 0, .int .i64 0, .slice none 0 0]) ?_ 2 _ rfl; (with_reducible repeat (first | refine k_n ?_ _ | refine k_d ?_ | refine k_a ?_ _)); refine blk_put (cs := #[.int .i64 t248, .int .i64 0, .int .i64 0, .int .i64 0, .int .i64 0, .int .i64 0, .int .i64 0, .int .i64 0, .slice none 0 0]) ?_ 1 _ rfl; (with_reducible repeat (first | refine k_n ?_ _ | refine k_d ?_ | refine k_a ?_ _)); refine blk_put (cs := #[.int .i64 0, .int .i64 0, .int .i64 0, .int .i64 0, .int .i64 0, .int .i64 0, .int .i64 0, .int .i64 0, .slice none 0 0]) ?_ 0 _ rfl; (with_reducible repeat (first | refine k_n ?_ _ | refine k_d ?_ | refine k_a ?_ _)); exact BK260.out) hb); replace HB := Aside0.mk (below_step (bw_ HB) hb); (try clear hb); (try clear hb2); (try clear hk); (try clear hi)))
    go_ret
    exact ⟨by first | rfl | (simp [errW_none, errW_some] <;> rfl) | (simp [*, errW_none, errW_some] <;> rfl), by repeat (first | (with_reducible first | exact HB.out | apply b_a | apply b_n | apply b_d | refine b_s ?_ GE260.out) | exact HB.out)⟩
   rw [if_pos c13] at H
   have c13b0 : (t259 == t261) = true := beq_iff_eq.mpr c13
   have c13b1 : (t259 != t261) = false := bne_eq_false_iff_eq.mpr c13
   clear c13
   by_cases c14 : t261 = 0
   rotate_left
   ·
    rw [if_neg c14] at H
    have c14b0 : (t261 == 0) = false := beq_eq_false_iff_ne.mpr c14
    have c14b1 : (t261 != 0) = true := bne_iff_ne.mpr c14
    replace H := Option.bind_eq_some_iff.mp H
    obtain ⟨t266, A440, H⟩ := H
    replace H : (some t266) = some r := H
    have A44 := Aside0.mk A440
    clear A440
    obtain rfl := Option.some.inj H
    go_wp2_with (first | ((with_reducible refine gate_dst (N := 15) rfl ?_); (try (refine gate_guard (by rfl) ?_; dsimp only)); refine Kd.R_lit (Kd.int .u8) _ 5 ?hg (N := 15) ?hd (xs := ([] : List Int)) (inner := []) (ok := fun _ => True) (okp := fun _ => True) ?hr ?hp (fun _ hk => hk) trivial (Below.refl _ _) (Nat.le_refl _) (by simp) ?_; (case hd => rfl); (case hg => rfl); (case hr => first | (go_simp; done) | (go_simp; rfl)); (case hp => exact (Reps.none _ _)); intro v243 w45 ho46 hb hg_ hnew_; clear hg_ hnew_; (first | rw [← Ny242.out] at ho46 | (simp only [Int.reduceToNat] at ho46; rw [← Ny242.out] at ho46)); have HO244 := Aside0.mk (Kd.R_lower ho46 (below_size (bw_ HB))); replace HB := Aside0.mk (below_step (bw_ HB) hb); clear hb ho46) | ((with_reducible refine gate_builtin (b := .append) (xs := #[.tmp 15, .tmp 16]) rfl ?_); (try (refine gate_guard (by rfl) ?_; dsimp only)); at_builtin; refine Kd.R_append_rows (Kd.int .u8) (w0 := w) w.heap.size rfl (.tmp 15) (.tmp 16) 29 5 (.int .u8 0) 1 rfl Try.underlying29 info5 rfl (by decide) (by omega) v243 y242 l0 _ _ _ (fun _ => True) (fun _ => False) rfl rfl ?aO ?aR (fun _ _ h => h) (fun _ h => h.elim) ?aF ?aB ?aS ?aL ?_; (case aR => repeat (first | exact (Kd.C_below HR0.out HB.out) | (with_reducible refine Kd.C_alloc ?_ _) | (with_reducible refine Kd.C_drewN ?_ _) | (with_reducible refine Kd.C_drew ?_))); (case aB => exact (bw_ HB)); (case aF => exact (fun _ _ => trivial)); (case aO => exact (tR_ HO244)); (case aS => exact (below_size (bw_ HB))); (case aL => have := LMc10.out; omega); intro v246 w47 ho hb hg hat; rw [← Ny245.out] at ho; have n0_ := Aside0.mk (hb); have n1_ := Aside0.mk (ho); clear HB; clear HO244; have HB := n0_; have HO247 := n1_; clear n0_ n1_; clear ho hb hg hat; obtain ⟨Ao48, co48, eo48⟩ := Kd.R_slice HO247.out; subst eo48) | ((with_reducible refine gate_callee (f := 15) rfl ?_); refine goesL_ (some 18) rfl rfl Try.func15 (by kernel_rfl) rfl #[.slice Ao48 y245.length co48] rfl (by (try simp only [l_4, l_5, l_6]); first | done | rfl | (simp only [l_7, l_8]; rfl)) ?_; (with_reducible refine (msg_Parse.calls kj1 _ _ y245 t248 t249 t250 t251 t252 t253 t254 t255 t256 t259 _ ?side1 ?side2 A11.out).mono ?_); (case side1 => repeat (first | exact (Kd.R_reads' HO247.out).2.2 | (with_reducible refine Kd.C_alloc ?_ _) | (with_reducible refine Kd.C_drewN ?_ _) | (with_reducible refine Kd.C_drew ?_))); (case side2 => exact (Kd.R_reads' HO247.out).2.1); rintro e w49 ⟨v257, rfl, ho0, hb⟩; (try clear A11); refine ⟨_, rfl, ?_⟩; have HO258 := Aside0.mk (Kd.R_lower ho0 (below_size (bw_ HB))); replace HO247 := Aside0.mk (Kd.R_below (tR_ HO247) hb); replace HB := Aside0.mk (below_step (bw_ HB) hb); (try clear hb); (try clear hb2); (try clear hk); (try clear hi); (try clear ho0)) | ((with_reducible refine gate_dst (N := 3) rfl ?_); (try (refine gate_guard (by rfl) ?_; dsimp only)); refine box_event ?hg (N := 3) ?hd (cs := #[.int .i64 0, .int .i64 0, .int .i64 0, .int .i64 0, .int .i64 0, .int .i64 0, .int .i64 0, .int .i64 0, .slice none 0 0]) (t := 24) ?hr ?_; (case hd => rfl); (case hg => rfl); (case hr => first | (go_simp; done) | (go_simp; rfl)); intro gb260 hg w50 hbox hb; have BK260 := Aside0.mk (hbox); have GW260 := Aside0.mk ((by rw [hg]; exact (below_size (bw_ HB)) : w.heap.size ≤ gb260)); have GE260 := Aside0.mk ((by rw [hg]; exact (below_size (bw_ HB)) : w.heap.size ≤ gb260)); replace HO247 := Aside0.mk (Kd.R_below (tR_ HO247) hb); replace HO258 := Aside0.mk (Kd.R_below (tR_ HO258) hb); replace HB := Aside0.mk (below_step (bw_ HB) hb); clear hb hbox hg; have hcz51_0 := bc_0 BK260; have hcz51_1 := bc_1 BK260; have hcz51_2 := bc_2 BK260; have hcz51_3 := bc_3 BK260; have hcz51_4 := bc_4 BK260; have hcz51_5 := bc_5 BK260; have hcz51_6 := bc_6 BK260; have hcz51_7 := bc_7 BK260; have hcz51_8 : w50.cell? ⟨gb260, 8, none⟩ = some (.slice none 0 0) := (blk_cell BK260.out 8).trans rfl; have hfz51_0 := blk_frozen BK260.out 0; have hfz51_1 := blk_frozen BK260.out 1; have hfz51_2 := blk_frozen BK260.out 2; have hfz51_3 := blk_frozen BK260.out 3; have hfz51_4 := blk_frozen BK260.out 4; have hfz51_5 := blk_frozen BK260.out 5; have hfz51_6 := blk_frozen BK260.out 6; have hfz51_7 := blk_frozen BK260.out 7; have hfz51_8 := blk_frozen BK260.out 8; obtain ⟨Ao52, co52, eo52⟩ := Kd.R_slice HO258.out; subst eo52; (first | ((with_reducible refine gate_store_ rfl ?_); refine st9_ rfl rfl rfl rfl rfl (by with_reducible assumption) (by kernel_rfl) (by simp [Value.oneCell']) ?_; clear hcz51_0 hfz51_0 hcz51_1 hfz51_1 hcz51_2 hfz51_2 hcz51_3 hfz51_3 hcz51_4 hfz51_4 hcz51_5 hfz51_5 hcz51_6 hfz51_6 hcz51_7 hfz51_7 hcz51_8 hfz51_8; intro hb9_; have BN51 := Aside0.mk hb9_; clear hb9_) | skip)) | ((with_reducible refine gate_callee (f := 16) rfl ?_); refine goesL_ (some 22) rfl rfl Try.func16 (by kernel_rfl) rfl #[.slice A0 l0.length c0] rfl (by (try simp only [l_4, l_5, l_6]); first | done | rfl | (simp only [l_7, l_8]; rfl)) ?_; (with_reducible refine (pelotonref15_Fault.calls kj1 _ _ l0 t261 _ ?side1 ?side2 A12.out).mono ?_); (case side1 => exact Kd.C_below HR0.out (bw_ HB)); (case side2 => exact HC0.out); rintro e w53 ⟨rfl, hb⟩; (try clear A12); refine ⟨_, rfl, ?_⟩; replace HO247 := Aside0.mk (Kd.R_below (by (with_reducible repeat (first | apply Kd.R_alloc | apply Kd.R_drewN | apply Kd.R_drew)); exact (Kd.R_mono (Kd.R_far (p := ⟨gb260, 8, none⟩) (Kd.R_far (p := ⟨gb260, 7, none⟩) (Kd.R_far (p := ⟨gb260, 6, none⟩) (Kd.R_far (p := ⟨gb260, 5, none⟩) (Kd.R_far (p := ⟨gb260, 4, none⟩) (Kd.R_far (p := ⟨gb260, 3, none⟩) (Kd.R_far (p := ⟨gb260, 2, none⟩) (Kd.R_far (p := ⟨gb260, 1, none⟩) (Kd.R_far (p := ⟨gb260, 0, none⟩) (Kd.R_types HO247.out BK260.out (by decide)) (fun _ hk => hk.2) (.int .i64 t248)) (fun _ hk => hk.2) (.int .i64 t249)) (fun _ hk => hk.2) (.int .i64 t250)) (fun _ hk => hk.2) (.int .i64 t251)) (fun _ hk => hk.2) (.int .i64 t252)) (fun _ hk => hk.2) (.int .i64 t253)) (fun _ hk => hk.2) (.int .i64 t254)) (fun _ hk => hk.2) (.int .i64 t255)) (fun _ hk => hk.2) (.slice Ao52 t256.length co52)) (fun _ h_ => h_.1))) hb); replace HO258 := Aside0.mk (Kd.R_below (by (with_reducible repeat (first | apply Kd.R_alloc | apply Kd.R_drewN | apply Kd.R_drew)); exact (Kd.R_mono (Kd.R_far (p := ⟨gb260, 8, none⟩) (Kd.R_far (p := ⟨gb260, 7, none⟩) (Kd.R_far (p := ⟨gb260, 6, none⟩) (Kd.R_far (p := ⟨gb260, 5, none⟩) (Kd.R_far (p := ⟨gb260, 4, none⟩) (Kd.R_far (p := ⟨gb260, 3, none⟩) (Kd.R_far (p := ⟨gb260, 2, none⟩) (Kd.R_far (p := ⟨gb260, 1, none⟩) (Kd.R_far (p := ⟨gb260, 0, none⟩) (Kd.R_types HO258.out BK260.out (by decide)) (fun _ hk => hk.2) (.int .i64 t248)) (fun _ hk => hk.2) (.int .i64 t249)) (fun _ hk => hk.2) (.int .i64 t250)) (fun _ hk => hk.2) (.int .i64 t251)) (fun _ hk => hk.2) (.int .i64 t252)) (fun _ hk => hk.2) (.int .i64 t253)) (fun _ hk => hk.2) (.int .i64 t254)) (fun _ hk => hk.2) (.int .i64 t255)) (fun _ hk => hk.2) (.slice Ao52 t256.length co52)) (fun _ h_ => h_.1))) hb); replace BK260 := Aside0.mk (blk_below (g := gb260) (o := .cells #[.int .i64 t248, .int .i64 t249, .int .i64 t250, .int .i64 t251, .int .i64 t252, .int .i64 t253, .int .i64 t254, .int .i64 t255, .slice Ao52 t256.length co52] 24 (0, 0)) (by (with_reducible repeat (first | refine k_n ?_ _ | refine k_d ?_ | refine k_a ?_ _)); refine blk_put (cs := #[.int .i64 t248, .int .i64 t249, .int .i64 t250, .int .i64 t251, .int .i64 t252, .int .i64 t253, .int .i64 t254, .int .i64 t255, .slice none 0 0]) ?_ 8 _ rfl; (with_reducible repeat (first | refine k_n ?_ _ | refine k_d ?_ | refine k_a ?_ _)); refine blk_put (cs := #[.int .i64 t248, .int .i64 t249, .int .i64 t250, .int .i64 t251, .int .i64 t252, .int .i64 t253, .int .i64 t254, .int .i64 0, .slice none 0 0]) ?_ 7 _ rfl; (with_reducible repeat (first | refine k_n ?_ _ | refine k_d ?_ | refine k_a ?_ _)); refine blk_put (cs := #[.int .i64 t248, .int .i64 t249, .int .i64 t250, .int .i64 t251, .int .i64 t252, .int .i64 t253, .int .i64 0, .int .i64 0, .slice none 0 0]) ?_ 6 _ rfl; (with_reducible repeat (first | refine k_n ?_ _ | refine k_d ?_ | refine k_a ?_ _)); refine blk_put (cs := #[.int .i64 t248, .int .i64 t249, .int .i64 t250, .int .i64 t251, .int .i64 t252, .int .i64 0, .int .i64 0, .int .i64 0, .slice none 0 0]) ?_ 5 _ rfl; (with_reducible repeat (first | refine k_n ?_ _ | refine k_d ?_ | refine k_a ?_ _)); refine blk_put (cs := #[.int .i64 t248, .int .i64 t249, .int .i64 t250, .int .i64 t251, .int .i64 0, .int .i64 0, .int .i64 0, .int .i64 0, .slice none 0 0]) ?_ 4 _ rfl; (with_reducible repeat (first | refine k_n ?_ _ | refine k_d ?_ | refine k_a ?_ _)); refine blk_put (cs := #[.int .i64 t248, .int .i64 t249, .int .i64 t250, .int .i64 0, .int .i64 0, .int .i64 0, .int .i64 0, .int .i64 0, .slice none 0 0]) ?_ 3 _ rfl; (with_reducible repeat (first | refine k_n ?_ _ | refine k_d ?_ | refine k_a ?_ _)); refine blk_put (cs := #[.int .i64 t248, .int .i64 t249, .int .i64 0, .int .i64 0, .int .i64 0, .int .i64 0, .int .i64 0, .int .i64 0, .slice none 0 0]) ?_ 2 _ rfl; (with_reducible repeat (first | refine k_n ?_ _ | refine k_d ?_ | refine k_a ?_ _)); refine blk_put (cs := #[.int .i64 t248, .int .i64 0, .int .i64 0, .int .i64 0, .int .i64 0, .int .i64 0, .int .i64 0, .int .i64 0, .slice none 0 0]) ?_ 1 _ rfl; (with_reducible repeat (first | refine k_n ?_ _ | refine k_d ?_ | refine k_a ?_ _)); refine blk_put (cs := #[.int .i64 0, .int .i64 0, .int .i64 0, .int .i64 0, .int .i64 0, .int .i64 0, .int .i64 0, .int .i64 0, .slice none 0 0]) ?_ 0 _ rfl; (with_reducible repeat (first | refine k_n ?_ _ | refine k_d ?_ | refine k_a ?_ _)); exact BK260.out) hb); replace HB := Aside0.mk (below_step (bw_ HB) hb); (try clear hb); (try clear hb2); (try clear hk); (try clear hi); have hcz54_0 := bc_0 BK260; have hcz54_1 := bc_1 BK260; have hcz54_2 := bc_2 BK260; have hcz54_3 := bc_3 BK260; have hcz54_4 := bc_4 BK260; have hcz54_5 := bc_5 BK260; have hcz54_6 := bc_6 BK260; have hcz54_7 := bc_7 BK260; have hcz54_8 : w53.cell? ⟨gb260, 8, none⟩ = some (.slice Ao52 t256.length co52) := (blk_cell BK260.out 8).trans rfl; have hfz54_0 := blk_frozen BK260.out 0; have hfz54_1 := blk_frozen BK260.out 1; have hfz54_2 := blk_frozen BK260.out 2; have hfz54_3 := blk_frozen BK260.out 3; have hfz54_4 := blk_frozen BK260.out 4; have hfz54_5 := blk_frozen BK260.out 5; have hfz54_6 := blk_frozen BK260.out 6; have hfz54_7 := blk_frozen BK260.out 7; have hfz54_8 := blk_frozen BK260.out 8; (first | ((with_reducible refine gate_store_ rfl ?_); refine st9_ rfl rfl rfl rfl rfl (by with_reducible assumption) (by kernel_rfl) (by simp [Value.oneCell']) ?_; clear hcz54_0 hfz54_0 hcz54_1 hfz54_1 hcz54_2 hfz54_2 hcz54_3 hfz54_3 hcz54_4 hfz54_4 hcz54_5 hfz54_5 hcz54_6 hfz54_6 hcz54_7 hfz54_7 hcz54_8 hfz54_8; intro hb9_; have BN54 := Aside0.mk hb9_; clear hb9_) | skip)) | ((with_reducible refine gate_callee (f := 13) rfl ?_); refine goesL_ (some 30) rfl rfl Try.func13 (by kernel_rfl) rfl #[.agg #[.int .i64 t248, .int .i64 t249, .int .i64 t250, .int .i64 t251, .int .i64 t252, .int .i64 t253, .int .i64 t254, .int .i64 t255, .slice Ao52 t256.length co52], .agg #[.int .i64 0, .int .i64 0, .int .i64 0, .int .i64 0, .int .i64 0, .int .i64 0, .int .i64 0, .int .i64 0, .slice none 0 0]] rfl (by (try simp only [l_4, l_5, l_6]); first | done | rfl | (simp only [l_7, l_8]; rfl)) ?_; (refine (pelotonref15_Same.calls kj1 t248 t249 t250 t251 t252 t253 t254 t255 _ _ t256 0 0 0 0 0 0 0 0 _ _ ([] : List Int) t266 _ ?side1 ?side2 ?side3 ?side4 A44.out).mono ?_); (case side1 => repeat (first | exact (Kd.R_reads' HO258.out).2.2 | (with_reducible refine Kd.C_alloc ?_ _) | (with_reducible refine Kd.C_drewN ?_ _) | (with_reducible refine Kd.C_drew ?_))); (case side2 => exact (Kd.R_reads' HO258.out).2.1); (case side3 => exact Kd.C_nil _ _); (case side4 => exact Nat.le_refl _); rintro e w55 ⟨rfl, hb⟩; (try clear A44); refine ⟨_, rfl, ?_⟩; replace HO247 := Aside0.mk (Kd.R_below (tR_ HO247) hb); replace HO258 := Aside0.mk (Kd.R_below (tR_ HO258) hb); replace BK260 := Aside0.mk (blk_below (tk_ BK260) hb); replace HB := Aside0.mk (below_step (bw_ HB) hb); (try clear hb); (try clear hb2); (try clear hk); (try clear hi)))
    go_ret
    exact ⟨by first | rfl | (simp [errW_none, errW_some] <;> rfl) | (simp [*, errW_none, errW_some] <;> rfl), by repeat (first | (with_reducible first | exact HB.out | apply b_a | apply b_n | apply b_d | refine b_s ?_ GE260.out) | exact HB.out)⟩
   rw [if_pos c14] at H
   have c14b0 : (t261 == 0) = true := beq_iff_eq.mpr c14
   have c14b1 : (t261 != 0) = false := bne_eq_false_iff_eq.mpr c14
   clear c14
   replace H := Option.bind_eq_some_iff.mp H
   obtain ⟨t262, A150, H⟩ := H
   replace H : (if t262 = true then ((pelotonref15_Bytes.f kj1 t248 t249 t250 t251 t252 t253 t254 t255 t256).bind fun t263 => (some ((strOfNums t263).toList == (strOfNums l0).toList))) else (some false)) = some r := H
   have A15 := Aside0.mk A150
   clear A150
   by_cases c16 : t262 = true
   rotate_left
   ·
    replace c16 := Bool.eq_false_iff.mpr c16
    subst c16
    have H1 : (some false) = some r := by rw [if_neg (show ¬ (false = true) by decide)] at H; exact H
    clear H
    have H := H1
    clear H1
    obtain rfl := Option.some.inj H
    try go_wp2_with (first | ((with_reducible refine gate_dst (N := 15) rfl ?_); (try (refine gate_guard (by rfl) ?_; dsimp only)); refine Kd.R_lit (Kd.int .u8) _ 5 ?hg (N := 15) ?hd (xs := ([] : List Int)) (inner := []) (ok := fun _ => True) (okp := fun _ => True) ?hr ?hp (fun _ hk => hk) trivial (Below.refl _ _) (Nat.le_refl _) (by simp) ?_; (case hd => rfl); (case hg => rfl); (case hr => first | (go_simp; done) | (go_simp; rfl)); (case hp => exact (Reps.none _ _)); intro v243 w33 ho34 hb hg_ hnew_; clear hg_ hnew_; (first | rw [← Ny242.out] at ho34 | (simp only [Int.reduceToNat] at ho34; rw [← Ny242.out] at ho34)); have HO244 := Aside0.mk (Kd.R_lower ho34 (below_size (bw_ HB))); replace HB := Aside0.mk (below_step (bw_ HB) hb); clear hb ho34) | ((with_reducible refine gate_builtin (b := .append) (xs := #[.tmp 15, .tmp 16]) rfl ?_); (try (refine gate_guard (by rfl) ?_; dsimp only)); at_builtin; refine Kd.R_append_rows (Kd.int .u8) (w0 := w) w.heap.size rfl (.tmp 15) (.tmp 16) 29 5 (.int .u8 0) 1 rfl Try.underlying29 info5 rfl (by decide) (by omega) v243 y242 l0 _ _ _ (fun _ => True) (fun _ => False) rfl rfl ?aO ?aR (fun _ _ h => h) (fun _ h => h.elim) ?aF ?aB ?aS ?aL ?_; (case aR => repeat (first | exact (Kd.C_below HR0.out HB.out) | (with_reducible refine Kd.C_alloc ?_ _) | (with_reducible refine Kd.C_drewN ?_ _) | (with_reducible refine Kd.C_drew ?_))); (case aB => exact (bw_ HB)); (case aF => exact (fun _ _ => trivial)); (case aO => exact (tR_ HO244)); (case aS => exact (below_size (bw_ HB))); (case aL => have := LMc10.out; omega); intro v246 w35 ho hb hg hat; rw [← Ny245.out] at ho; have n0_ := Aside0.mk (hb); have n1_ := Aside0.mk (ho); clear HB; clear HO244; have HB := n0_; have HO247 := n1_; clear n0_ n1_; clear ho hb hg hat; obtain ⟨Ao36, co36, eo36⟩ := Kd.R_slice HO247.out; subst eo36) | ((with_reducible refine gate_callee (f := 15) rfl ?_); refine goesL_ (some 18) rfl rfl Try.func15 (by kernel_rfl) rfl #[.slice Ao36 y245.length co36] rfl (by (try simp only [l_4, l_5, l_6]); first | done | rfl | (simp only [l_7, l_8]; rfl)) ?_; (with_reducible refine (msg_Parse.calls kj1 _ _ y245 t248 t249 t250 t251 t252 t253 t254 t255 t256 t259 _ ?side1 ?side2 A11.out).mono ?_); (case side1 => repeat (first | exact (Kd.R_reads' HO247.out).2.2 | (with_reducible refine Kd.C_alloc ?_ _) | (with_reducible refine Kd.C_drewN ?_ _) | (with_reducible refine Kd.C_drew ?_))); (case side2 => exact (Kd.R_reads' HO247.out).2.1); rintro e w37 ⟨v257, rfl, ho0, hb⟩; (try clear A11); refine ⟨_, rfl, ?_⟩; have HO258 := Aside0.mk (Kd.R_lower ho0 (below_size (bw_ HB))); replace HO247 := Aside0.mk (Kd.R_below (tR_ HO247) hb); replace HB := Aside0.mk (below_step (bw_ HB) hb); (try clear hb); (try clear hb2); (try clear hk); (try clear hi); (try clear ho0)) | ((with_reducible refine gate_dst (N := 3) rfl ?_); (try (refine gate_guard (by rfl) ?_; dsimp only)); refine box_event ?hg (N := 3) ?hd (cs := #[.int .i64 0, .int .i64 0, .int .i64 0, .int .i64 0, .int .i64 0, .int .i64 0, .int .i64 0, .int .i64 0, .slice none 0 0]) (t := 24) ?hr ?_; (case hd => rfl); (case hg => rfl); (case hr => first | (go_simp; done) | (go_simp; rfl)); intro gb260 hg w38 hbox hb; have BK260 := Aside0.mk (hbox); have GW260 := Aside0.mk ((by rw [hg]; exact (below_size (bw_ HB)) : w.heap.size ≤ gb260)); have GE260 := Aside0.mk ((by rw [hg]; exact (below_size (bw_ HB)) : w.heap.size ≤ gb260)); replace HO247 := Aside0.mk (Kd.R_below (tR_ HO247) hb); replace HO258 := Aside0.mk (Kd.R_below (tR_ HO258) hb); replace HB := Aside0.mk (below_step (bw_ HB) hb); clear hb hbox hg; have hcz39_0 := bc_0 BK260; have hcz39_1 := bc_1 BK260; have hcz39_2 := bc_2 BK260; have hcz39_3 := bc_3 BK260; have hcz39_4 := bc_4 BK260; have hcz39_5 := bc_5 BK260; have hcz39_6 := bc_6 BK260; have hcz39_7 := bc_7 BK260; have hcz39_8 : w38.cell? ⟨gb260, 8, none⟩ = some (.slice none 0 0) := (blk_cell BK260.out 8).trans rfl; have hfz39_0 := blk_frozen BK260.out 0; have hfz39_1 := blk_frozen BK260.out 1; have hfz39_2 := blk_frozen BK260.out 2; have hfz39_3 := blk_frozen BK260.out 3; have hfz39_4 := blk_frozen BK260.out 4; have hfz39_5 := blk_frozen BK260.out 5; have hfz39_6 := blk_frozen BK260.out 6; have hfz39_7 := blk_frozen BK260.out 7; have hfz39_8 := blk_frozen BK260.out 8; obtain ⟨Ao40, co40, eo40⟩ := Kd.R_slice HO258.out; subst eo40; (first | ((with_reducible refine gate_store_ rfl ?_); refine st9_ rfl rfl rfl rfl rfl (by with_reducible assumption) (by kernel_rfl) (by simp [Value.oneCell']) ?_; clear hcz39_0 hfz39_0 hcz39_1 hfz39_1 hcz39_2 hfz39_2 hcz39_3 hfz39_3 hcz39_4 hfz39_4 hcz39_5 hfz39_5 hcz39_6 hfz39_6 hcz39_7 hfz39_7 hcz39_8 hfz39_8; intro hb9_; have BN39 := Aside0.mk hb9_; clear hb9_) | skip)) | ((with_reducible refine gate_callee (f := 16) rfl ?_); refine goesL_ (some 22) rfl rfl Try.func16 (by kernel_rfl) rfl #[.slice A0 l0.length c0] rfl (by (try simp only [l_4, l_5, l_6]); first | done | rfl | (simp only [l_7, l_8]; rfl)) ?_; (with_reducible refine (pelotonref15_Fault.calls kj1 _ _ l0 t261 _ ?side1 ?side2 A12.out).mono ?_); (case side1 => exact Kd.C_below HR0.out (bw_ HB)); (case side2 => exact HC0.out); rintro e w41 ⟨rfl, hb⟩; (try clear A12); refine ⟨_, rfl, ?_⟩; replace HO247 := Aside0.mk (Kd.R_below (by (with_reducible repeat (first | apply Kd.R_alloc | apply Kd.R_drewN | apply Kd.R_drew)); exact (Kd.R_mono (Kd.R_far (p := ⟨gb260, 8, none⟩) (Kd.R_far (p := ⟨gb260, 7, none⟩) (Kd.R_far (p := ⟨gb260, 6, none⟩) (Kd.R_far (p := ⟨gb260, 5, none⟩) (Kd.R_far (p := ⟨gb260, 4, none⟩) (Kd.R_far (p := ⟨gb260, 3, none⟩) (Kd.R_far (p := ⟨gb260, 2, none⟩) (Kd.R_far (p := ⟨gb260, 1, none⟩) (Kd.R_far (p := ⟨gb260, 0, none⟩) (Kd.R_types HO247.out BK260.out (by decide)) (fun _ hk => hk.2) (.int .i64 t248)) (fun _ hk => hk.2) (.int .i64 t249)) (fun _ hk => hk.2) (.int .i64 t250)) (fun _ hk => hk.2) (.int .i64 t251)) (fun _ hk => hk.2) (.int .i64 t252)) (fun _ hk => hk.2) (.int .i64 t253)) (fun _ hk => hk.2) (.int .i64 t254)) (fun _ hk => hk.2) (.int .i64 t255)) (fun _ hk => hk.2) (.slice Ao40 t256.length co40)) (fun _ h_ => h_.1))) hb); replace HO258 := Aside0.mk (Kd.R_below (by (with_reducible repeat (first | apply Kd.R_alloc | apply Kd.R_drewN | apply Kd.R_drew)); exact (Kd.R_mono (Kd.R_far (p := ⟨gb260, 8, none⟩) (Kd.R_far (p := ⟨gb260, 7, none⟩) (Kd.R_far (p := ⟨gb260, 6, none⟩) (Kd.R_far (p := ⟨gb260, 5, none⟩) (Kd.R_far (p := ⟨gb260, 4, none⟩) (Kd.R_far (p := ⟨gb260, 3, none⟩) (Kd.R_far (p := ⟨gb260, 2, none⟩) (Kd.R_far (p := ⟨gb260, 1, none⟩) (Kd.R_far (p := ⟨gb260, 0, none⟩) (Kd.R_types HO258.out BK260.out (by decide)) (fun _ hk => hk.2) (.int .i64 t248)) (fun _ hk => hk.2) (.int .i64 t249)) (fun _ hk => hk.2) (.int .i64 t250)) (fun _ hk => hk.2) (.int .i64 t251)) (fun _ hk => hk.2) (.int .i64 t252)) (fun _ hk => hk.2) (.int .i64 t253)) (fun _ hk => hk.2) (.int .i64 t254)) (fun _ hk => hk.2) (.int .i64 t255)) (fun _ hk => hk.2) (.slice Ao40 t256.length co40)) (fun _ h_ => h_.1))) hb); replace BK260 := Aside0.mk (blk_below (g := gb260) (o := .cells #[.int .i64 t248, .int .i64 t249, .int .i64 t250, .int .i64 t251, .int .i64 t252, .int .i64 t253, .int .i64 t254, .int .i64 t255, .slice Ao40 t256.length co40] 24 (0, 0)) (by (with_reducible repeat (first | refine k_n ?_ _ | refine k_d ?_ | refine k_a ?_ _)); refine blk_put (cs := #[.int .i64 t248, .int .i64 t249, .int .i64 t250, .int .i64 t251, .int .i64 t252, .int .i64 t253, .int .i64 t254, .int .i64 t255, .slice none 0 0]) ?_ 8 _ rfl; (with_reducible repeat (first | refine k_n ?_ _ | refine k_d ?_ | refine k_a ?_ _)); refine blk_put (cs := #[.int .i64 t248, .int .i64 t249, .int .i64 t250, .int .i64 t251, .int .i64 t252, .int .i64 t253, .int .i64 t254, .int .i64 0, .slice none 0 0]) ?_ 7 _ rfl; (with_reducible repeat (first | refine k_n ?_ _ | refine k_d ?_ | refine k_a ?_ _)); refine blk_put (cs := #[.int .i64 t248, .int .i64 t249, .int .i64 t250, .int .i64 t251, .int .i64 t252, .int .i64 t253, .int .i64 0, .int .i64 0, .slice none 0 0]) ?_ 6 _ rfl; (with_reducible repeat (first | refine k_n ?_ _ | refine k_d ?_ | refine k_a ?_ _)); refine blk_put (cs := #[.int .i64 t248, .int .i64 t249, .int .i64 t250, .int .i64 t251, .int .i64 t252, .int .i64 0, .int .i64 0, .int .i64 0, .slice none 0 0]) ?_ 5 _ rfl; (with_reducible repeat (first | refine k_n ?_ _ | refine k_d ?_ | refine k_a ?_ _)); refine blk_put (cs := #[.int .i64 t248, .int .i64 t249, .int .i64 t250, .int .i64 t251, .int .i64 0, .int .i64 0, .int .i64 0, .int .i64 0, .slice none 0 0]) ?_ 4 _ rfl; (with_reducible repeat (first | refine k_n ?_ _ | refine k_d ?_ | refine k_a ?_ _)); refine blk_put (cs := #[.int .i64 t248, .int .i64 t249, .int .i64 t250, .int .i64 0, .int .i64 0, .int .i64 0, .int .i64 0, .int .i64 0, .slice none 0 0]) ?_ 3 _ rfl; (with_reducible repeat (first | refine k_n ?_ _ | refine k_d ?_ | refine k_a ?_ _)); refine blk_put (cs := #[.int .i64 t248, .int .i64 t249, .int .i64 0, .int .i64 0, .int .i64 0, .int .i64 0, .int .i64 0, .int .i64 0, .slice none 0 0]) ?_ 2 _ rfl; (with_reducible repeat (first | refine k_n ?_ _ | refine k_d ?_ | refine k_a ?_ _)); refine blk_put (cs := #[.int .i64 t248, .int .i64 0, .int .i64 0, .int .i64 0, .int .i64 0, .int .i64 0, .int .i64 0, .int .i64 0, .slice none 0 0]) ?_ 1 _ rfl; (with_reducible repeat (first | refine k_n ?_ _ | refine k_d ?_ | refine k_a ?_ _)); refine blk_put (cs := #[.int .i64 0, .int .i64 0, .int .i64 0, .int .i64 0, .int .i64 0, .int .i64 0, .int .i64 0, .int .i64 0, .slice none 0 0]) ?_ 0 _ rfl; (with_reducible repeat (first | refine k_n ?_ _ | refine k_d ?_ | refine k_a ?_ _)); exact BK260.out) hb); replace HB := Aside0.mk (below_step (bw_ HB) hb); (try clear hb); (try clear hb2); (try clear hk); (try clear hi)))
    replace HO247 := Aside0.mk (Kd.R_drew HO247.out)
    replace HO258 := Aside0.mk (Kd.R_drew HO258.out)
    replace BK260 := Aside0.mk (k_d BK260.out)
    replace HB := Aside0.mk (b_d HB.out)
    refine start_ (n := 11) (S := fun w' => w'.cell? ⟨gb260, 0, none⟩ = some (.int .i64 t248) ∧ w'.cell? ⟨gb260, 1, none⟩ = some (.int .i64 t249) ∧ w'.cell? ⟨gb260, 2, none⟩ = some (.int .i64 t250) ∧ w'.cell? ⟨gb260, 3, none⟩ = some (.int .i64 t251) ∧ w'.cell? ⟨gb260, 4, none⟩ = some (.int .i64 t252) ∧ w'.cell? ⟨gb260, 5, none⟩ = some (.int .i64 t253) ∧ w'.cell? ⟨gb260, 6, none⟩ = some (.int .i64 t254) ∧ w'.cell? ⟨gb260, 7, none⟩ = some (.int .i64 t255) ∧ w'.cell? ⟨gb260, 8, none⟩ = some (.slice Ao40 t256.length co40)) (ds := []) #[false, false, false, false, false, false, false, false, false, false, false] (by kernel_rfl) rfl rfl ⟨(blk_cell BK260.out 0).trans rfl, (blk_cell BK260.out 1).trans rfl, (blk_cell BK260.out 2).trans rfl, (blk_cell BK260.out 3).trans rfl, (blk_cell BK260.out 4).trans rfl, (blk_cell BK260.out 5).trans rfl, (blk_cell BK260.out 6).trans rfl, (blk_cell BK260.out 7).trans rfl, (blk_cell BK260.out 8).trans rfl⟩ (fun hHeld => ?_); refine with_tabW pelotonlaw15_MsgParses.tab9 pelotonlaw15_MsgParses.bits9 (fun HT_ HW_ => ?_)
    generalize w41.drew = w42 at HO247 HO258 BK260 HB hHeld ⊢
    refine take_ (i := 0) (N := some 31) (v := ?_) (a' := ?_) (bs_ 11 1) rfl rfl (take_ofW HT_.out HW_.out (by kernel_rfl)) (fun _ _ _ h => h) (Or.inl ⟨by rfl, ?_⟩) hHeld ?_ ?_
    rotate_left
    ·
     rintro w' ⟨s0, s1, s2, s3, s4, s5, s6, s7, s8⟩
     go_simp
     with_reducible rfl
    rotate_left
    ·
     simp only [Act.put, l_1, l_2, l_3, i64_w, i32_w]
     rfl
    refine one_ (i := 1) (N := some 32) (bs_ 11 3) rfl rfl (one_of HT_.out (by kernel_rfl)) (by decide) (fun K hK => ?_)
    refine goes_ Try.func8 (by kernel_rfl) rfl #[.agg #[.int .i64 t248, .int .i64 t249, .int .i64 t250, .int .i64 t251, .int .i64 t252, .int .i64 t253, .int .i64 t254, .int .i64 t255, .slice Ao40 t256.length co40]] (by rfl) rfl rfl (by (try simp only [l_4, l_5, l_6]); first | done | rfl | (simp only [l_7, l_8]; rfl)) ?_
    with_reducible refine (pelotonref15_Right.calls kj1 t248 t249 t250 t251 t252 t253 t254 t255 _ _ t256 false _ ?side1 ?side2 A15.out).mono ?_
    (case side1 => repeat (first | exact (Kd.R_reads' HO258.out).2.2 | (with_reducible refine Kd.C_alloc ?_ _) | (with_reducible refine Kd.C_drewN ?_ _) | (with_reducible refine Kd.C_drew ?_)))
    (case side2 => exact (Kd.R_reads' HO258.out).2.1)
    rintro e w43 ⟨rfl, hb⟩
    refine ⟨_, rfl, ?_⟩
    replace HO247 := Aside0.mk (Kd.R_below (tR_ HO247) hb)
    replace HO258 := Aside0.mk (Kd.R_below (tR_ HO258) hb)
    replace BK260 := Aside0.mk (blk_below (tk_ BK260) hb)
    replace HB := Aside0.mk (below_step (bw_ HB) hb)
    (try clear hb)
    (try clear hb2)
    (try clear hk)
    (try clear hi)
    refine hK.out _ _ ⟨(blk_cell BK260.out 0).trans rfl, (blk_cell BK260.out 1).trans rfl, (blk_cell BK260.out 2).trans rfl, (blk_cell BK260.out 3).trans rfl, (blk_cell BK260.out 4).trans rfl, (blk_cell BK260.out 5).trans rfl, (blk_cell BK260.out 6).trans rfl, (blk_cell BK260.out 7).trans rfl, (blk_cell BK260.out 8).trans rfl⟩ (fun hHeld => ?_)
    clear hK K
    refine no_ (N := some 32) ?_
    refine pu_ (i := 2) (N := some 33) (bs_ 11 7) rfl rfl HT_ ?_
    refine pn_ (i := 3) (N := some 34) (bs_ 11 15) rfl rfl HT_ ?_
    refine pn_ (i := 4) (N := some 35) (bs_ 11 31) rfl rfl HT_ ?_
    refine pn_ (i := 5) (N := some 36) (bs_ 11 63) rfl rfl HT_ ?_
    refine pn_ (i := 6) (N := some 37) (bs_ 11 127) rfl rfl HT_ ?_
    refine pn_ (i := 7) (N := some 38) (bs_ 11 255) rfl rfl HT_ ?_
    refine pn_ (i := 8) (N := some 39) (bs_ 11 511) rfl rfl HT_ ?_
    refine pu_ (i := 9) (N := some 40) (bs_ 11 1023) rfl rfl HT_ ?_
    refine pu_ (i := 10) (N := some 2) (bs_ 11 2047) rfl rfl HT_ ?_
    refine done_ (done_of HT_.out (by kernel_rfl)) ?_
    try go_wp2
    go_ret
    exact ⟨by first | rfl | (simp [errW_none, errW_some] <;> rfl) | (simp [*, errW_none, errW_some] <;> rfl), by repeat (first | (with_reducible first | exact HB.out | apply b_a | apply b_n | apply b_d | refine b_s ?_ GE260.out) | exact HB.out)⟩
   subst c16
   have H1 : ((pelotonref15_Bytes.f kj1 t248 t249 t250 t251 t252 t253 t254 t255 t256).bind fun t263 => (some ((strOfNums t263).toList == (strOfNums l0).toList))) = some r := by rw [if_pos rfl] at H; exact H
   clear H
   have H := H1
   clear H1
   replace H := Option.bind_eq_some_iff.mp H
   obtain ⟨t263, A170, H⟩ := H
   replace H : (some ((strOfNums t263).toList == (strOfNums l0).toList)) = some r := H
   have A17 := Aside0.mk A170
   clear A170
   obtain rfl := Option.some.inj H
   try go_wp2_with (first | ((with_reducible refine gate_dst (N := 15) rfl ?_); (try (refine gate_guard (by rfl) ?_; dsimp only)); refine Kd.R_lit (Kd.int .u8) _ 5 ?hg (N := 15) ?hd (xs := ([] : List Int)) (inner := []) (ok := fun _ => True) (okp := fun _ => True) ?hr ?hp (fun _ hk => hk) trivial (Below.refl _ _) (Nat.le_refl _) (by simp) ?_; (case hd => rfl); (case hg => rfl); (case hr => first | (go_simp; done) | (go_simp; rfl)); (case hp => exact (Reps.none _ _)); intro v243 w18 ho19 hb hg_ hnew_; clear hg_ hnew_; (first | rw [← Ny242.out] at ho19 | (simp only [Int.reduceToNat] at ho19; rw [← Ny242.out] at ho19)); have HO244 := Aside0.mk (Kd.R_lower ho19 (below_size (bw_ HB))); replace HB := Aside0.mk (below_step (bw_ HB) hb); clear hb ho19) | ((with_reducible refine gate_builtin (b := .append) (xs := #[.tmp 15, .tmp 16]) rfl ?_); (try (refine gate_guard (by rfl) ?_; dsimp only)); at_builtin; refine Kd.R_append_rows (Kd.int .u8) (w0 := w) w.heap.size rfl (.tmp 15) (.tmp 16) 29 5 (.int .u8 0) 1 rfl Try.underlying29 info5 rfl (by decide) (by omega) v243 y242 l0 _ _ _ (fun _ => True) (fun _ => False) rfl rfl ?aO ?aR (fun _ _ h => h) (fun _ h => h.elim) ?aF ?aB ?aS ?aL ?_; (case aR => repeat (first | exact (Kd.C_below HR0.out HB.out) | (with_reducible refine Kd.C_alloc ?_ _) | (with_reducible refine Kd.C_drewN ?_ _) | (with_reducible refine Kd.C_drew ?_))); (case aB => exact (bw_ HB)); (case aF => exact (fun _ _ => trivial)); (case aO => exact (tR_ HO244)); (case aS => exact (below_size (bw_ HB))); (case aL => have := LMc10.out; omega); intro v246 w20 ho hb hg hat; rw [← Ny245.out] at ho; have n0_ := Aside0.mk (hb); have n1_ := Aside0.mk (ho); clear HB; clear HO244; have HB := n0_; have HO247 := n1_; clear n0_ n1_; clear ho hb hg hat; obtain ⟨Ao21, co21, eo21⟩ := Kd.R_slice HO247.out; subst eo21) | ((with_reducible refine gate_callee (f := 15) rfl ?_); refine goesL_ (some 18) rfl rfl Try.func15 (by kernel_rfl) rfl #[.slice Ao21 y245.length co21] rfl (by (try simp only [l_4, l_5, l_6]); first | done | rfl | (simp only [l_7, l_8]; rfl)) ?_; (with_reducible refine (msg_Parse.calls kj1 _ _ y245 t248 t249 t250 t251 t252 t253 t254 t255 t256 t259 _ ?side1 ?side2 A11.out).mono ?_); (case side1 => repeat (first | exact (Kd.R_reads' HO247.out).2.2 | (with_reducible refine Kd.C_alloc ?_ _) | (with_reducible refine Kd.C_drewN ?_ _) | (with_reducible refine Kd.C_drew ?_))); (case side2 => exact (Kd.R_reads' HO247.out).2.1); rintro e w22 ⟨v257, rfl, ho0, hb⟩; (try clear A11); refine ⟨_, rfl, ?_⟩; have HO258 := Aside0.mk (Kd.R_lower ho0 (below_size (bw_ HB))); replace HO247 := Aside0.mk (Kd.R_below (tR_ HO247) hb); replace HB := Aside0.mk (below_step (bw_ HB) hb); (try clear hb); (try clear hb2); (try clear hk); (try clear hi); (try clear ho0)) | ((with_reducible refine gate_dst (N := 3) rfl ?_); (try (refine gate_guard (by rfl) ?_; dsimp only)); refine box_event ?hg (N := 3) ?hd (cs := #[.int .i64 0, .int .i64 0, .int .i64 0, .int .i64 0, .int .i64 0, .int .i64 0, .int .i64 0, .int .i64 0, .slice none 0 0]) (t := 24) ?hr ?_; (case hd => rfl); (case hg => rfl); (case hr => first | (go_simp; done) | (go_simp; rfl)); intro gb260 hg w23 hbox hb; have BK260 := Aside0.mk (hbox); have GW260 := Aside0.mk ((by rw [hg]; exact (below_size (bw_ HB)) : w.heap.size ≤ gb260)); have GE260 := Aside0.mk ((by rw [hg]; exact (below_size (bw_ HB)) : w.heap.size ≤ gb260)); replace HO247 := Aside0.mk (Kd.R_below (tR_ HO247) hb); replace HO258 := Aside0.mk (Kd.R_below (tR_ HO258) hb); replace HB := Aside0.mk (below_step (bw_ HB) hb); clear hb hbox hg; have hcz24_0 := bc_0 BK260; have hcz24_1 := bc_1 BK260; have hcz24_2 := bc_2 BK260; have hcz24_3 := bc_3 BK260; have hcz24_4 := bc_4 BK260; have hcz24_5 := bc_5 BK260; have hcz24_6 := bc_6 BK260; have hcz24_7 := bc_7 BK260; have hcz24_8 : w23.cell? ⟨gb260, 8, none⟩ = some (.slice none 0 0) := (blk_cell BK260.out 8).trans rfl; have hfz24_0 := blk_frozen BK260.out 0; have hfz24_1 := blk_frozen BK260.out 1; have hfz24_2 := blk_frozen BK260.out 2; have hfz24_3 := blk_frozen BK260.out 3; have hfz24_4 := blk_frozen BK260.out 4; have hfz24_5 := blk_frozen BK260.out 5; have hfz24_6 := blk_frozen BK260.out 6; have hfz24_7 := blk_frozen BK260.out 7; have hfz24_8 := blk_frozen BK260.out 8; obtain ⟨Ao25, co25, eo25⟩ := Kd.R_slice HO258.out; subst eo25; (first | ((with_reducible refine gate_store_ rfl ?_); refine st9_ rfl rfl rfl rfl rfl (by with_reducible assumption) (by kernel_rfl) (by simp [Value.oneCell']) ?_; clear hcz24_0 hfz24_0 hcz24_1 hfz24_1 hcz24_2 hfz24_2 hcz24_3 hfz24_3 hcz24_4 hfz24_4 hcz24_5 hfz24_5 hcz24_6 hfz24_6 hcz24_7 hfz24_7 hcz24_8 hfz24_8; intro hb9_; have BN24 := Aside0.mk hb9_; clear hb9_) | skip)) | ((with_reducible refine gate_callee (f := 16) rfl ?_); refine goesL_ (some 22) rfl rfl Try.func16 (by kernel_rfl) rfl #[.slice A0 l0.length c0] rfl (by (try simp only [l_4, l_5, l_6]); first | done | rfl | (simp only [l_7, l_8]; rfl)) ?_; (with_reducible refine (pelotonref15_Fault.calls kj1 _ _ l0 t261 _ ?side1 ?side2 A12.out).mono ?_); (case side1 => exact Kd.C_below HR0.out (bw_ HB)); (case side2 => exact HC0.out); rintro e w26 ⟨rfl, hb⟩; (try clear A12); refine ⟨_, rfl, ?_⟩; replace HO247 := Aside0.mk (Kd.R_below (by (with_reducible repeat (first | apply Kd.R_alloc | apply Kd.R_drewN | apply Kd.R_drew)); exact (Kd.R_mono (Kd.R_far (p := ⟨gb260, 8, none⟩) (Kd.R_far (p := ⟨gb260, 7, none⟩) (Kd.R_far (p := ⟨gb260, 6, none⟩) (Kd.R_far (p := ⟨gb260, 5, none⟩) (Kd.R_far (p := ⟨gb260, 4, none⟩) (Kd.R_far (p := ⟨gb260, 3, none⟩) (Kd.R_far (p := ⟨gb260, 2, none⟩) (Kd.R_far (p := ⟨gb260, 1, none⟩) (Kd.R_far (p := ⟨gb260, 0, none⟩) (Kd.R_types HO247.out BK260.out (by decide)) (fun _ hk => hk.2) (.int .i64 t248)) (fun _ hk => hk.2) (.int .i64 t249)) (fun _ hk => hk.2) (.int .i64 t250)) (fun _ hk => hk.2) (.int .i64 t251)) (fun _ hk => hk.2) (.int .i64 t252)) (fun _ hk => hk.2) (.int .i64 t253)) (fun _ hk => hk.2) (.int .i64 t254)) (fun _ hk => hk.2) (.int .i64 t255)) (fun _ hk => hk.2) (.slice Ao25 t256.length co25)) (fun _ h_ => h_.1))) hb); replace HO258 := Aside0.mk (Kd.R_below (by (with_reducible repeat (first | apply Kd.R_alloc | apply Kd.R_drewN | apply Kd.R_drew)); exact (Kd.R_mono (Kd.R_far (p := ⟨gb260, 8, none⟩) (Kd.R_far (p := ⟨gb260, 7, none⟩) (Kd.R_far (p := ⟨gb260, 6, none⟩) (Kd.R_far (p := ⟨gb260, 5, none⟩) (Kd.R_far (p := ⟨gb260, 4, none⟩) (Kd.R_far (p := ⟨gb260, 3, none⟩) (Kd.R_far (p := ⟨gb260, 2, none⟩) (Kd.R_far (p := ⟨gb260, 1, none⟩) (Kd.R_far (p := ⟨gb260, 0, none⟩) (Kd.R_types HO258.out BK260.out (by decide)) (fun _ hk => hk.2) (.int .i64 t248)) (fun _ hk => hk.2) (.int .i64 t249)) (fun _ hk => hk.2) (.int .i64 t250)) (fun _ hk => hk.2) (.int .i64 t251)) (fun _ hk => hk.2) (.int .i64 t252)) (fun _ hk => hk.2) (.int .i64 t253)) (fun _ hk => hk.2) (.int .i64 t254)) (fun _ hk => hk.2) (.int .i64 t255)) (fun _ hk => hk.2) (.slice Ao25 t256.length co25)) (fun _ h_ => h_.1))) hb); replace BK260 := Aside0.mk (blk_below (g := gb260) (o := .cells #[.int .i64 t248, .int .i64 t249, .int .i64 t250, .int .i64 t251, .int .i64 t252, .int .i64 t253, .int .i64 t254, .int .i64 t255, .slice Ao25 t256.length co25] 24 (0, 0)) (by (with_reducible repeat (first | refine k_n ?_ _ | refine k_d ?_ | refine k_a ?_ _)); refine blk_put (cs := #[.int .i64 t248, .int .i64 t249, .int .i64 t250, .int .i64 t251, .int .i64 t252, .int .i64 t253, .int .i64 t254, .int .i64 t255, .slice none 0 0]) ?_ 8 _ rfl; (with_reducible repeat (first | refine k_n ?_ _ | refine k_d ?_ | refine k_a ?_ _)); refine blk_put (cs := #[.int .i64 t248, .int .i64 t249, .int .i64 t250, .int .i64 t251, .int .i64 t252, .int .i64 t253, .int .i64 t254, .int .i64 0, .slice none 0 0]) ?_ 7 _ rfl; (with_reducible repeat (first | refine k_n ?_ _ | refine k_d ?_ | refine k_a ?_ _)); refine blk_put (cs := #[.int .i64 t248, .int .i64 t249, .int .i64 t250, .int .i64 t251, .int .i64 t252, .int .i64 t253, .int .i64 0, .int .i64 0, .slice none 0 0]) ?_ 6 _ rfl; (with_reducible repeat (first | refine k_n ?_ _ | refine k_d ?_ | refine k_a ?_ _)); refine blk_put (cs := #[.int .i64 t248, .int .i64 t249, .int .i64 t250, .int .i64 t251, .int .i64 t252, .int .i64 0, .int .i64 0, .int .i64 0, .slice none 0 0]) ?_ 5 _ rfl; (with_reducible repeat (first | refine k_n ?_ _ | refine k_d ?_ | refine k_a ?_ _)); refine blk_put (cs := #[.int .i64 t248, .int .i64 t249, .int .i64 t250, .int .i64 t251, .int .i64 0, .int .i64 0, .int .i64 0, .int .i64 0, .slice none 0 0]) ?_ 4 _ rfl; (with_reducible repeat (first | refine k_n ?_ _ | refine k_d ?_ | refine k_a ?_ _)); refine blk_put (cs := #[.int .i64 t248, .int .i64 t249, .int .i64 t250, .int .i64 0, .int .i64 0, .int .i64 0, .int .i64 0, .int .i64 0, .slice none 0 0]) ?_ 3 _ rfl; (with_reducible repeat (first | refine k_n ?_ _ | refine k_d ?_ | refine k_a ?_ _)); refine blk_put (cs := #[.int .i64 t248, .int .i64 t249, .int .i64 0, .int .i64 0, .int .i64 0, .int .i64 0, .int .i64 0, .int .i64 0, .slice none 0 0]) ?_ 2 _ rfl; (with_reducible repeat (first | refine k_n ?_ _ | refine k_d ?_ | refine k_a ?_ _)); refine blk_put (cs := #[.int .i64 t248, .int .i64 0, .int .i64 0, .int .i64 0, .int .i64 0, .int .i64 0, .int .i64 0, .int .i64 0, .slice none 0 0]) ?_ 1 _ rfl; (with_reducible repeat (first | refine k_n ?_ _ | refine k_d ?_ | refine k_a ?_ _)); refine blk_put (cs := #[.int .i64 0, .int .i64 0, .int .i64 0, .int .i64 0, .int .i64 0, .int .i64 0, .int .i64 0, .int .i64 0, .slice none 0 0]) ?_ 0 _ rfl; (with_reducible repeat (first | refine k_n ?_ _ | refine k_d ?_ | refine k_a ?_ _)); exact BK260.out) hb); replace HB := Aside0.mk (below_step (bw_ HB) hb); (try clear hb); (try clear hb2); (try clear hk); (try clear hi)))
   replace HO247 := Aside0.mk (Kd.R_drew HO247.out)
   replace HO258 := Aside0.mk (Kd.R_drew HO258.out)
   replace BK260 := Aside0.mk (k_d BK260.out)
   replace HB := Aside0.mk (b_d HB.out)
   refine start_ (n := 11) (S := fun w' => w'.cell? ⟨gb260, 0, none⟩ = some (.int .i64 t248) ∧ w'.cell? ⟨gb260, 1, none⟩ = some (.int .i64 t249) ∧ w'.cell? ⟨gb260, 2, none⟩ = some (.int .i64 t250) ∧ w'.cell? ⟨gb260, 3, none⟩ = some (.int .i64 t251) ∧ w'.cell? ⟨gb260, 4, none⟩ = some (.int .i64 t252) ∧ w'.cell? ⟨gb260, 5, none⟩ = some (.int .i64 t253) ∧ w'.cell? ⟨gb260, 6, none⟩ = some (.int .i64 t254) ∧ w'.cell? ⟨gb260, 7, none⟩ = some (.int .i64 t255) ∧ w'.cell? ⟨gb260, 8, none⟩ = some (.slice Ao25 t256.length co25) ∧ (convert 29 9 (.slice A0 l0.length c0)).run Try.prog w' = .ok (.string (strOfNums l0)) w') (ds := []) #[false, false, false, false, false, false, false, false, false, false, false] (by kernel_rfl) rfl rfl ⟨(blk_cell BK260.out 0).trans rfl, (blk_cell BK260.out 1).trans rfl, (blk_cell BK260.out 2).trans rfl, (blk_cell BK260.out 3).trans rfl, (blk_cell BK260.out 4).trans rfl, (blk_cell BK260.out 5).trans rfl, (blk_cell BK260.out 6).trans rfl, (blk_cell BK260.out 7).trans rfl, (blk_cell BK260.out 8).trans rfl, (Kd.C_string (P := Try.prog) (A := A0) (c := c0) Try.underlying29 Try.underlying5 Try.underlying9 (by repeat (first | exact (Kd.C_below HR0.out HB.out) | (with_reducible refine Kd.C_alloc ?_ _) | (with_reducible refine Kd.C_drewN ?_ _) | (with_reducible refine Kd.C_drew ?_))))⟩ (fun hHeld => ?_); refine with_tabW pelotonlaw15_MsgParses.tab9 pelotonlaw15_MsgParses.bits9 (fun HT_ HW_ => ?_)
   generalize w26.drew = w27 at HO247 HO258 BK260 HB hHeld ⊢
   refine take_ (i := 0) (N := some 31) (v := ?_) (a' := ?_) (bs_ 11 1) rfl rfl (take_ofW HT_.out HW_.out (by kernel_rfl)) (fun _ _ _ h => h) (Or.inl ⟨by rfl, ?_⟩) hHeld ?_ ?_
   rotate_left
   ·
    rintro w' ⟨s0, s1, s2, s3, s4, s5, s6, s7, s8, s9⟩
    go_simp
    with_reducible rfl
   rotate_left
   ·
    simp only [Act.put, l_1, l_2, l_3, i64_w, i32_w]
    rfl
   refine one_ (i := 1) (N := some 32) (bs_ 11 3) rfl rfl (one_of HT_.out (by kernel_rfl)) (by decide) (fun K hK => ?_)
   refine goes_ Try.func8 (by kernel_rfl) rfl #[.agg #[.int .i64 t248, .int .i64 t249, .int .i64 t250, .int .i64 t251, .int .i64 t252, .int .i64 t253, .int .i64 t254, .int .i64 t255, .slice Ao25 t256.length co25]] (by rfl) rfl rfl (by (try simp only [l_4, l_5, l_6]); first | done | rfl | (simp only [l_7, l_8]; rfl)) ?_
   with_reducible refine (pelotonref15_Right.calls kj1 t248 t249 t250 t251 t252 t253 t254 t255 _ _ t256 true _ ?side1 ?side2 A15.out).mono ?_
   (case side1 => repeat (first | exact (Kd.R_reads' HO258.out).2.2 | (with_reducible refine Kd.C_alloc ?_ _) | (with_reducible refine Kd.C_drewN ?_ _) | (with_reducible refine Kd.C_drew ?_)))
   (case side2 => exact (Kd.R_reads' HO258.out).2.1)
   rintro e w28 ⟨rfl, hb⟩
   refine ⟨_, rfl, ?_⟩
   replace HO247 := Aside0.mk (Kd.R_below (tR_ HO247) hb)
   replace HO258 := Aside0.mk (Kd.R_below (tR_ HO258) hb)
   replace BK260 := Aside0.mk (blk_below (tk_ BK260) hb)
   replace HB := Aside0.mk (below_step (bw_ HB) hb)
   (try clear hb)
   (try clear hb2)
   (try clear hk)
   (try clear hi)
   refine hK.out _ _ ⟨(blk_cell BK260.out 0).trans rfl, (blk_cell BK260.out 1).trans rfl, (blk_cell BK260.out 2).trans rfl, (blk_cell BK260.out 3).trans rfl, (blk_cell BK260.out 4).trans rfl, (blk_cell BK260.out 5).trans rfl, (blk_cell BK260.out 6).trans rfl, (blk_cell BK260.out 7).trans rfl, (blk_cell BK260.out 8).trans rfl, (Kd.C_string (P := Try.prog) (A := A0) (c := c0) Try.underlying29 Try.underlying5 Try.underlying9 (by repeat (first | exact (Kd.C_below HR0.out HB.out) | (with_reducible refine Kd.C_alloc ?_ _) | (with_reducible refine Kd.C_drewN ?_ _) | (with_reducible refine Kd.C_drew ?_))))⟩ (fun hHeld => ?_)
   clear hK K
   refine no_ (N := some 32) ?_
   refine pu_ (i := 2) (N := some 33) (bs_ 11 7) rfl rfl HT_ ?_
   refine pu_ (i := 6) (N := some 37) (bs_ 11 71) rfl rfl HT_ ?_
   refine take_ (i := 3) (N := some 34) (v := ?_) (a' := ?_) (bs_ 11 79) rfl rfl (take_ofW HT_.out HW_.out (by kernel_rfl)) (fun _ _ _ h => h) (Or.inl ⟨by rfl, ?_⟩) hHeld ?_ ?_
   rotate_left
   ·
    rintro w' ⟨s0, s1, s2, s3, s4, s5, s6, s7, s8, s9⟩
    go_simp
    with_reducible rfl
   rotate_left
   ·
    simp only [Act.put, l_1, l_2, l_3, i64_w, i32_w]
    rfl
   refine take_ (i := 7) (N := some 38) (v := ?_) (a' := ?_) (bs_ 11 207) rfl rfl (take_ofW HT_.out HW_.out (by kernel_rfl)) (fun _ _ _ h => h) (Or.inl ⟨by rfl, ?_⟩) hHeld ?_ ?_
   rotate_left
   ·
    rintro w' ⟨s0, s1, s2, s3, s4, s5, s6, s7, s8, s9⟩
    go_simp
    with_reducible rfl
   rotate_left
   ·
    simp only [Act.put, l_1, l_2, l_3, i64_w, i32_w]
    rfl
   refine one_ (i := 4) (N := some 35) (bs_ 11 223) rfl rfl (one_of HT_.out (by kernel_rfl)) (by decide) (fun K hK => ?_)
   refine goes_ Try.func17 (by kernel_rfl) rfl #[.agg #[.int .i64 t248, .int .i64 t249, .int .i64 t250, .int .i64 t251, .int .i64 t252, .int .i64 t253, .int .i64 t254, .int .i64 t255, .slice Ao25 t256.length co25]] (by rfl) rfl rfl (by (try simp only [l_4, l_5, l_6]); first | done | rfl | (simp only [l_7, l_8]; rfl)) ?_
   with_reducible refine (pelotonref15_Bytes.calls kj1 t248 t249 t250 t251 t252 t253 t254 t255 _ _ t256 t263 _ ?side1 ?side2 A17.out).mono ?_
   (case side1 => repeat (first | exact (Kd.R_reads' HO258.out).2.2 | (with_reducible refine Kd.C_alloc ?_ _) | (with_reducible refine Kd.C_drewN ?_ _) | (with_reducible refine Kd.C_drew ?_)))
   (case side2 => exact (Kd.R_reads' HO258.out).2.1)
   rintro e w29 ⟨v264, rfl, ho0, hb⟩
   refine ⟨_, rfl, ?_⟩
   have HO265 := Aside0.mk (Kd.R_lower (Kd.R_new' ho0 (Kd.R_lt (tR_ HO247))) (below_size (bw_ HB)))
   replace HO247 := Aside0.mk (Kd.R_elder' (tR_ HO247) (Kd.R_base ho0) hb)
   replace HO258 := Aside0.mk (Kd.R_below (tR_ HO258) hb)
   replace BK260 := Aside0.mk (blk_below (tk_ BK260) hb)
   replace HB := Aside0.mk (below_step (bw_ HB) hb)
   (try clear hb)
   (try clear hb2)
   (try clear hk)
   (try clear hi)
   (try clear ho0)
   refine hK.out _ _ ⟨(blk_cell BK260.out 0).trans rfl, (blk_cell BK260.out 1).trans rfl, (blk_cell BK260.out 2).trans rfl, (blk_cell BK260.out 3).trans rfl, (blk_cell BK260.out 4).trans rfl, (blk_cell BK260.out 5).trans rfl, (blk_cell BK260.out 6).trans rfl, (blk_cell BK260.out 7).trans rfl, (blk_cell BK260.out 8).trans rfl, (Kd.C_string (P := Try.prog) (A := A0) (c := c0) Try.underlying29 Try.underlying5 Try.underlying9 (by repeat (first | exact (Kd.C_below HR0.out HB.out) | (with_reducible refine Kd.C_alloc ?_ _) | (with_reducible refine Kd.C_drewN ?_ _) | (with_reducible refine Kd.C_drew ?_))))⟩ (fun hHeld => ?_)
   clear hK K
   refine no_ (N := some 35) ?_
   refine one_ (i := 5) (N := some 36) (bs_ 11 255) rfl rfl (one_of HT_.out (by kernel_rfl)) (by decide) (fun K hK => ?_)
   have hcv30 := own_string (P := Try.prog) Try.underlying29 Try.underlying5 Try.underlying9 (Kd.own_of_R HO265.out)
   refine value_ (w1 := ?_) (v := ?_) (by rfl) rfl ?_ ?_
   rotate_left 2
   ·
    go_simp
    constructor
    ·
     rfl
    ·
     rfl
   clear hcv30
   refine hK.out _ _ ⟨(blk_cell BK260.out 0).trans rfl, (blk_cell BK260.out 1).trans rfl, (blk_cell BK260.out 2).trans rfl, (blk_cell BK260.out 3).trans rfl, (blk_cell BK260.out 4).trans rfl, (blk_cell BK260.out 5).trans rfl, (blk_cell BK260.out 6).trans rfl, (blk_cell BK260.out 7).trans rfl, (blk_cell BK260.out 8).trans rfl, (Kd.C_string (P := Try.prog) (A := A0) (c := c0) Try.underlying29 Try.underlying5 Try.underlying9 (by repeat (first | exact (Kd.C_below HR0.out HB.out) | (with_reducible refine Kd.C_alloc ?_ _) | (with_reducible refine Kd.C_drewN ?_ _) | (with_reducible refine Kd.C_drew ?_))))⟩ (fun hHeld => ?_)
   clear hK K
   refine no_ (N := some 36) ?_
   refine pu_ (i := 8) (N := some 39) (bs_ 11 511) rfl rfl HT_ ?_
   refine pu_ (i := 9) (N := some 40) (bs_ 11 1023) rfl rfl HT_ ?_
   refine pu_ (i := 10) (N := some 2) (bs_ 11 2047) rfl rfl HT_ ?_
   refine done_ (done_of HT_.out (by kernel_rfl)) ?_
   try go_wp2
   go_ret
   exact ⟨by first | rfl | (simp [errW_none, errW_some] <;> rfl) | (simp [*, errW_none, errW_some] <;> rfl), by repeat (first | (with_reducible first | exact HB.out | apply b_a | apply b_n | apply b_d | refine b_s ?_ GE260.out) | exact HB.out)⟩
/-- THE ONE PURE STATEMENT of pelotonlaw15_MsgParses. -/
def pelotonlaw15_MsgParses.Pure : Prop := ∀ (l0 : List Int), (l0.length ≤ maxLen ∧ ∀ y0 ∈ l0, (Lit.int .u8 y0).wf = true) → ∃ k, pelotonlaw15_MsgParses.f k l0 = some true

end Go.Proofs.Ytnkphgiodpledaa.QMsgParses
