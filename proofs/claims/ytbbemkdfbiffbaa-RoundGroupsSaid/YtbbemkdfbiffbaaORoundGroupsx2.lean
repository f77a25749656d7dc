/- RoundGroups: functions of this law and their contracts, text 2 of it; turned from what the print wrote. No condition beside the contracts' own. -/
import Derived.Test.YtbbemkdfbiffbaaPRoundGroupsx0
import Derived.Test.YtbbemkdfbiffbaaPRoundGroupsx1
namespace Go.Proofs.Ytbbemkdfbiffbaa.PRoundGroups
open Go.RowKit Go.Proofs.YtbbemkdfbiffbaaW.PrintWords Go.Proofs.YtbbemkdfbiffbaaW.PrintLast Go.Proofs.YtbbemkdfbiffbaaW.PrintMore
attribute [local go_sem] max2_int min2_int max_two min_two max_three min_three max_four min_four   -- for this text's walks alone
set_option linter.unusedVariables false
set_option linter.unusedSimpArgs false

/-! ### pelotonlaw01_RoundGroups: function 9 -/
mutual
def pelotonlaw01_RoundGroups.j0 : Nat → List Int → List Int → Int → Bool → Option (Bool)
  | 0, _, _, _, _ => none
  | k + 1, x0, x1, x2, x26 => if x26 = true then ((pelotonlaw01_awake.f k).bind fun t123 => (some t123)) else ((round_Sum.f k x0).bind fun t124 => (pelotonlaw01_RoundGroups.l0 k x0 x1 x2 t124 ([] : List Int) 0 0))
def pelotonlaw01_RoundGroups.j2 : Nat → List Int → Int → Int → List Int → Int → Option (Bool)
  | 0, _, _, _, _, _ => none
  | k + 1, x0, x2, x7, x8, x9 => if 0 ≤ x9 then (if x9 ≤ (x0.length : Int) then ((round_Sum.f k (x0.drop (x9 : Int).toNat)).bind fun t132 => (if x8.length < 35184372088832 then ((some (x8 ++ [t132] : List Int)).bind fun y133 => (if (x0.length : Int) > 0 then (if (x0.length : Int) = 0 then (none) else (pelotonlaw01_RoundGroups.j3 k x0 x7 y133 ([] : List Int) (Int.tmod (wrap64 ((Int.tmod x2 (x0.length : Int)) + (x0.length : Int))) (x0.length : Int)))) else (pelotonlaw01_RoundGroups.j3 k x0 x7 y133 ([] : List Int) 0))) else (none))) else (none)) else (none)
def pelotonlaw01_RoundGroups.j3 : Nat → List Int → Int → List Int → List Int → Int → Option (Bool)
  | 0, _, _, _, _, _ => none
  | k + 1, x0, x7, x8, x12, x13 => pelotonlaw01_RoundGroups.l1 k x0 x7 x8 x12 x13 (wrap64 ((x0.length : Int) - 1))
def pelotonlaw01_RoundGroups.l1 : Nat → List Int → Int → List Int → List Int → Int → Int → Option (Bool)
  | 0, _, _, _, _, _, _ => none
  | k + 1, x0, x7, x8, x12, x13, x14 => if x14 ≥ 0 then (if (x0.length : Int) = 0 then (none) else (if 0 ≤ (Int.tmod (wrap64 (x14 + x13)) (x0.length : Int)) then (if (Int.tmod (wrap64 (x14 + x13)) (x0.length : Int)) < (x0.length : Int) then (if x12.length < 35184372088832 then (pelotonlaw01_RoundGroups.l1 k x0 x7 x8 (x12 ++ [rd x0 (Int.tmod (wrap64 (x14 + x13)) (x0.length : Int))]) x13 (wrap64 (x14 - 1))) else (none)) else (none)) else (none))) else ((round_Sum.f k x8).bind fun t140 => (if t140 = x7 then ((round_Sum.f k x12).bind fun t141 => (some (t141 == x7))) else (some false)))
def pelotonlaw01_RoundGroups.l0 : Nat → List Int → List Int → Int → Int → List Int → Int → Int → Option (Bool)
  | 0, _, _, _, _, _, _, _ => none
  | k + 1, x0, x1, x2, x7, x8, x9, x10 => if x10 < (x1.length : Int) then (if x9 < (x0.length : Int) then (if 0 ≤ x10 then (if 0 ≤ x9 then (if x9 ≤ (wrap64 (x9 + (mn (Int.tmod (wrap64 ((Int.tmod (rd x1 x10) 9) + 9)) 9) (wrap64 ((x0.length : Int) - x9))))) then (if (wrap64 (x9 + (mn (Int.tmod (wrap64 ((Int.tmod (rd x1 x10) 9) + 9)) 9) (wrap64 ((x0.length : Int) - x9))))) ≤ (x0.length : Int) then ((round_Sum.f k ((x0.take ((wrap64 (x9 + (mn (Int.tmod (wrap64 ((Int.tmod (rd x1 x10) 9) + 9)) 9) (wrap64 ((x0.length : Int) - x9))))) : Int).toNat).drop (x9 : Int).toNat)).bind fun t127 => (if x8.length < 35184372088832 then (pelotonlaw01_RoundGroups.l0 k x0 x1 x2 x7 (x8 ++ [t127]) (wrap64 (x9 + (mn (Int.tmod (wrap64 ((Int.tmod (rd x1 x10) 9) + 9)) 9) (wrap64 ((x0.length : Int) - x9))))) (wrap64 (x10 + 1))) else (none))) else (none)) else (none)) else (none)) else (none)) else (pelotonlaw01_RoundGroups.j2 k x0 x2 x7 x8 x9)) else (pelotonlaw01_RoundGroups.j2 k x0 x2 x7 x8 x9)
end
def pelotonlaw01_RoundGroups.f (k : Nat) (l0 : List Int) (l1 : List Int) (a2 : Int) : Option (Bool) := (pelotonlaw01_awake.f k).bind fun t122 => (if t122 = true then (if (l0.length : Int) > 100 then (pelotonlaw01_RoundGroups.j0 k l0 l1 a2 true) else (pelotonlaw01_RoundGroups.j0 k l0 l1 a2 (decide ((l1.length : Int) > 20)))) else (pelotonlaw01_RoundGroups.j0 k l0 l1 a2 true))
theorem pelotonlaw01_RoundGroups.mono_l : ∀ k, (∀ y0 y1 y2 y3, LeO (pelotonlaw01_RoundGroups.j0 k y0 y1 y2 y3) (pelotonlaw01_RoundGroups.j0 (k + 1) y0 y1 y2 y3)) ∧ (∀ y0 y1 y2 y3 y4, LeO (pelotonlaw01_RoundGroups.j2 k y0 y1 y2 y3 y4) (pelotonlaw01_RoundGroups.j2 (k + 1) y0 y1 y2 y3 y4)) ∧ (∀ y0 y1 y2 y3 y4, LeO (pelotonlaw01_RoundGroups.j3 k y0 y1 y2 y3 y4) (pelotonlaw01_RoundGroups.j3 (k + 1) y0 y1 y2 y3 y4)) ∧ (∀ y0 y1 y2 y3 y4 y5, LeO (pelotonlaw01_RoundGroups.l1 k y0 y1 y2 y3 y4 y5) (pelotonlaw01_RoundGroups.l1 (k + 1) y0 y1 y2 y3 y4 y5)) ∧ (∀ y0 y1 y2 y3 y4 y5 y6, LeO (pelotonlaw01_RoundGroups.l0 k y0 y1 y2 y3 y4 y5 y6) (pelotonlaw01_RoundGroups.l0 (k + 1) y0 y1 y2 y3 y4 y5 y6))
  | 0 => ⟨fun _ _ _ _ r h => by simp [pelotonlaw01_RoundGroups.j0] at h, fun _ _ _ _ _ r h => by simp [pelotonlaw01_RoundGroups.j2] at h, fun _ _ _ _ _ r h => by simp [pelotonlaw01_RoundGroups.j3] at h, fun _ _ _ _ _ _ r h => by simp [pelotonlaw01_RoundGroups.l1] at h, fun _ _ _ _ _ _ _ r h => by simp [pelotonlaw01_RoundGroups.l0] at h⟩
  | k + 1 => by
    obtain ⟨ih0, ih1, ih2, ih3, ih4⟩ := pelotonlaw01_RoundGroups.mono_l k
    refine ⟨?_, ?_, ?_, ?_, ?_⟩
    · intro y0 y1 y2 y3
      unfold pelotonlaw01_RoundGroups.j0
      repeat' first
      | (with_reducible exact ih0 _ _ _ _)
      | (with_reducible exact ih1 _ _ _ _ _)
      | (with_reducible exact ih2 _ _ _ _ _)
      | (with_reducible exact ih3 _ _ _ _ _ _)
      | (with_reducible exact ih4 _ _ _ _ _ _ _)
      | (with_reducible exact pelotonlaw01_awake.mono _)
      | (with_reducible exact round_Sum.mono _ _)
      | (with_reducible exact LeO.refl _)
      | (with_reducible exact LeO.none _)
      | (with_reducible refine LeO.ite ?_ ?_)
      | (with_reducible refine LeO.bind ?_ (fun _ => ?_))
      | exact ih0 _ _ _ _
      | exact ih1 _ _ _ _ _
      | exact ih2 _ _ _ _ _
      | exact ih3 _ _ _ _ _ _
      | exact ih4 _ _ _ _ _ _ _
      | exact pelotonlaw01_awake.mono _
      | exact round_Sum.mono _ _
      | exact LeO.none _
      | refine LeO.ite ?_ ?_
      | refine LeO.bind ?_ (fun _ => ?_)
    · intro y0 y1 y2 y3 y4
      unfold pelotonlaw01_RoundGroups.j2
      repeat' first
      | (with_reducible exact ih0 _ _ _ _)
      | (with_reducible exact ih1 _ _ _ _ _)
      | (with_reducible exact ih2 _ _ _ _ _)
      | (with_reducible exact ih3 _ _ _ _ _ _)
      | (with_reducible exact ih4 _ _ _ _ _ _ _)
      | (with_reducible exact pelotonlaw01_awake.mono _)
      | (with_reducible exact round_Sum.mono _ _)
      | (with_reducible exact LeO.refl _)
      | (with_reducible exact LeO.none _)
      | (with_reducible refine LeO.ite ?_ ?_)
      | (with_reducible refine LeO.bind ?_ (fun _ => ?_))
      | exact ih0 _ _ _ _
      | exact ih1 _ _ _ _ _
      | exact ih2 _ _ _ _ _
      | exact ih3 _ _ _ _ _ _
      | exact ih4 _ _ _ _ _ _ _
      | exact pelotonlaw01_awake.mono _
      | exact round_Sum.mono _ _
      | exact LeO.none _
      | refine LeO.ite ?_ ?_
      | refine LeO.bind ?_ (fun _ => ?_)
    · intro y0 y1 y2 y3 y4
      unfold pelotonlaw01_RoundGroups.j3
      repeat' first
      | (with_reducible exact ih0 _ _ _ _)
      | (with_reducible exact ih1 _ _ _ _ _)
      | (with_reducible exact ih2 _ _ _ _ _)
      | (with_reducible exact ih3 _ _ _ _ _ _)
      | (with_reducible exact ih4 _ _ _ _ _ _ _)
      | (with_reducible exact pelotonlaw01_awake.mono _)
      | (with_reducible exact round_Sum.mono _ _)
      | (with_reducible exact LeO.refl _)
      | (with_reducible exact LeO.none _)
      | (with_reducible refine LeO.ite ?_ ?_)
      | (with_reducible refine LeO.bind ?_ (fun _ => ?_))
      | exact ih0 _ _ _ _
      | exact ih1 _ _ _ _ _
      | exact ih2 _ _ _ _ _
      | exact ih3 _ _ _ _ _ _
      | exact ih4 _ _ _ _ _ _ _
      | exact pelotonlaw01_awake.mono _
      | exact round_Sum.mono _ _
      | exact LeO.none _
      | refine LeO.ite ?_ ?_
      | refine LeO.bind ?_ (fun _ => ?_)
    · intro y0 y1 y2 y3 y4 y5
      unfold pelotonlaw01_RoundGroups.l1
      repeat' first
      | (with_reducible exact ih0 _ _ _ _)
      | (with_reducible exact ih1 _ _ _ _ _)
      | (with_reducible exact ih2 _ _ _ _ _)
      | (with_reducible exact ih3 _ _ _ _ _ _)
      | (with_reducible exact ih4 _ _ _ _ _ _ _)
      | (with_reducible exact pelotonlaw01_awake.mono _)
      | (with_reducible exact round_Sum.mono _ _)
      | (with_reducible exact LeO.refl _)
      | (with_reducible exact LeO.none _)
      | (with_reducible refine LeO.ite ?_ ?_)
      | (with_reducible refine LeO.bind ?_ (fun _ => ?_))
      | exact ih0 _ _ _ _
      | exact ih1 _ _ _ _ _
      | exact ih2 _ _ _ _ _
      | exact ih3 _ _ _ _ _ _
      | exact ih4 _ _ _ _ _ _ _
      | exact pelotonlaw01_awake.mono _
      | exact round_Sum.mono _ _
      | exact LeO.none _
      | refine LeO.ite ?_ ?_
      | refine LeO.bind ?_ (fun _ => ?_)
    · intro y0 y1 y2 y3 y4 y5 y6
      unfold pelotonlaw01_RoundGroups.l0
      repeat' first
      | (with_reducible exact ih0 _ _ _ _)
      | (with_reducible exact ih1 _ _ _ _ _)
      | (with_reducible exact ih2 _ _ _ _ _)
      | (with_reducible exact ih3 _ _ _ _ _ _)
      | (with_reducible exact ih4 _ _ _ _ _ _ _)
      | (with_reducible exact pelotonlaw01_awake.mono _)
      | (with_reducible exact round_Sum.mono _ _)
      | (with_reducible exact LeO.refl _)
      | (with_reducible exact LeO.none _)
      | (with_reducible refine LeO.ite ?_ ?_)
      | (with_reducible refine LeO.bind ?_ (fun _ => ?_))
      | exact ih0 _ _ _ _
      | exact ih1 _ _ _ _ _
      | exact ih2 _ _ _ _ _
      | exact ih3 _ _ _ _ _ _
      | exact ih4 _ _ _ _ _ _ _
      | exact pelotonlaw01_awake.mono _
      | exact round_Sum.mono _ _
      | exact LeO.none _
      | refine LeO.ite ?_ ?_
      | refine LeO.bind ?_ (fun _ => ?_)
theorem pelotonlaw01_RoundGroups.mono : ∀ a0 a1 a2 k, LeO (pelotonlaw01_RoundGroups.f k a0 a1 a2) (pelotonlaw01_RoundGroups.f (k + 1) a0 a1 a2) := by
  intro a0 a1 a2 k
  obtain ⟨ih0, ih1, ih2, ih3, ih4⟩ := pelotonlaw01_RoundGroups.mono_l k
  unfold pelotonlaw01_RoundGroups.f
  repeat' first
      | (with_reducible exact ih0 _ _ _ _)
      | (with_reducible exact ih1 _ _ _ _ _)
      | (with_reducible exact ih2 _ _ _ _ _)
      | (with_reducible exact ih3 _ _ _ _ _ _)
      | (with_reducible exact ih4 _ _ _ _ _ _ _)
      | (with_reducible exact pelotonlaw01_awake.mono _)
      | (with_reducible exact round_Sum.mono _ _)
      | (with_reducible exact LeO.refl _)
      | (with_reducible exact LeO.none _)
      | (with_reducible refine LeO.ite ?_ ?_)
      | (with_reducible refine LeO.bind ?_ (fun _ => ?_))
      | exact ih0 _ _ _ _
      | exact ih1 _ _ _ _ _
      | exact ih2 _ _ _ _ _
      | exact ih3 _ _ _ _ _ _
      | exact ih4 _ _ _ _ _ _ _
      | exact pelotonlaw01_awake.mono _
      | exact round_Sum.mono _ _
      | exact LeO.none _
      | refine LeO.ite ?_ ?_
      | refine LeO.bind ?_ (fun _ => ?_)
set_option maxHeartbeats 8000000 in
set_option maxRecDepth 100000 in
theorem pelotonlaw01_RoundGroups.calls (k : Nat) (A0 : Option Addr) (c0 : Nat) (l0 : List Int) (A1 : Option Addr) (c1 : Nat) (l1 : List Int) (a2 : Int) (r : Bool) (w : World) (hr0 : Kd.C (Kd.int .i32) w A0 l0.length l0) (hc0 : l0.length ≤ c0) (hr1 : Kd.C (Kd.int .i64) w A1 l1.length l1) (hc1 : l1.length ≤ c1) (h : pelotonlaw01_RoundGroups.f k l0 l1 a2 = some r) :
    Calls Try.prog 9 #[.slice A0 l0.length c0, .slice A1 l1.length c1, .int .i64 a2] w fun e w' => e = .returned (.bool r) ∧ Below w.heap.size w w' := by
  have HR0 := Aside0.mk hr0
  have HC0 := Aside0.mk hc0
  clear hr0 hc0
  have HR1 := Aside0.mk hr1
  have HC1 := Aside0.mk hc1
  clear hr1 hc1
  have HB := Aside0.mk (Below.refl w.heap.size w)
  have H : ((pelotonlaw01_awake.f k).bind fun t122 => (if t122 = true then (if (l0.length : Int) > 100 then (pelotonlaw01_RoundGroups.j0 k l0 l1 a2 true) else (pelotonlaw01_RoundGroups.j0 k l0 l1 a2 (decide ((l1.length : Int) > 20)))) else (pelotonlaw01_RoundGroups.j0 k l0 l1 a2 true))) = some r := h
  clear h
  have HC4 := Aside0.mk H
  clear H
  go_enter Try.func9, Try.ntmps9
  go_upto_region 1 with (fail)
  go_cut [26] (fun v26 wc => ∃ (kq : Nat) (x26_3 : Bool), v26 = .bool x26_3 ∧ Aside0 (pelotonlaw01_RoundGroups.j0 kq l0 l1 a2 x26_3 = some r) ∧ Aside0 (kq ≤ k) ∧ Aside0 (Below w.heap.size w wc))
  case first =>
    have H := HC4.out
    clear HC4
    replace H := Option.bind_eq_some_iff.mp H
    obtain ⟨t122, A50, H⟩ := H
    replace H : (if t122 = true then (if (l0.length : Int) > 100 then (pelotonlaw01_RoundGroups.j0 k l0 l1 a2 true) else (pelotonlaw01_RoundGroups.j0 k l0 l1 a2 (decide ((l1.length : Int) > 20)))) else (pelotonlaw01_RoundGroups.j0 k l0 l1 a2 true)) = some r := H
    have A5 := Aside0.mk A50
    clear A50
    by_cases c6 : t122 = true
    · subst c6
      have H1 : (if (l0.length : Int) > 100 then (pelotonlaw01_RoundGroups.j0 k l0 l1 a2 true) else (pelotonlaw01_RoundGroups.j0 k l0 l1 a2 (decide ((l1.length : Int) > 20)))) = some r := by rw [if_pos rfl] at H; exact H
      clear H
      have H := H1
      clear H1
      by_cases c7 : (l0.length : Int) > 100
      · rw [if_pos c7] at H
        have c7b0 : decide (100 < (l0.length : Int)) = true := decide_eq_true c7
        have c7b1 : decide (100 < l0.length) = true := decide_eq_true (by omega)
        clear c7
        (first | rw [c7b0] | (simp only [i64_w, i32_w]; rw [c7b0]) | skip)
        have H' := Aside0.mk H
        clear H
        go_wp2_with (first | ((with_reducible refine gate_callee (f := 12) rfl ?_); refine goesL_ (some 15) rfl rfl Try.func12 (by kernel_rfl) rfl #[] rfl (by (try simp only [List.map_toArray, List.map_cons, List.map_nil]); first | done | rfl | (simp only [List.length_drop, List.length_take]; rfl)) ?_; (with_reducible refine (pelotonlaw01_awake.calls k  true _ A5.out).mono ?_); rintro e w8 ⟨rfl, hb⟩; refine ⟨_, rfl, ?_⟩; have n0_ := Aside0.mk (below_step (by repeat (first | (with_reducible first | exact HB.out | apply below_alloc | apply pw_below_drewN | apply below_drew1) | exact HB.out)) hb); clear HB; have HB := n0_; clear n0_; (try clear hb); (try clear hb2); (try clear hk); (try clear hi)))
        go_meet
        case rel => exact ⟨_, (true), (by first | rfl | (simp; done) | (simp [*]; done)), H', ⟨by first | omega | exact Nat.le_refl _⟩, ⟨by repeat (first | (with_reducible first | exact HB.out | apply below_alloc | apply pw_below_drewN | apply below_drew1) | exact HB.out)⟩⟩
      · rw [if_neg c7] at H
        have c7b0 : decide (100 < (l0.length : Int)) = false := decide_eq_false c7
        have c7b1 : decide (100 < l0.length) = false := decide_eq_false (by omega)
        clear c7
        (first | rw [c7b0] | (simp only [i64_w, i32_w]; rw [c7b0]) | skip)
        have H' := Aside0.mk H
        clear H
        go_wp2_with (first | ((with_reducible refine gate_callee (f := 12) rfl ?_); refine goesL_ (some 15) rfl rfl Try.func12 (by kernel_rfl) rfl #[] rfl (by (try simp only [List.map_toArray, List.map_cons, List.map_nil]); first | done | rfl | (simp only [List.length_drop, List.length_take]; rfl)) ?_; (with_reducible refine (pelotonlaw01_awake.calls k  true _ A5.out).mono ?_); rintro e w9 ⟨rfl, hb⟩; refine ⟨_, rfl, ?_⟩; have n0_ := Aside0.mk (below_step (by repeat (first | (with_reducible first | exact HB.out | apply below_alloc | apply pw_below_drewN | apply below_drew1) | exact HB.out)) hb); clear HB; have HB := n0_; clear n0_; (try clear hb); (try clear hb2); (try clear hk); (try clear hi)))
        go_meet
        case rel => exact ⟨_, (decide ((l1.length : Int) > 20)), (by first | rfl | (simp; done) | (simp [*]; done)), H', ⟨by first | omega | exact Nat.le_refl _⟩, ⟨by repeat (first | (with_reducible first | exact HB.out | apply below_alloc | apply pw_below_drewN | apply below_drew1) | exact HB.out)⟩⟩
    · replace c6 := Bool.eq_false_iff.mpr c6
      subst c6
      have H1 : (pelotonlaw01_RoundGroups.j0 k l0 l1 a2 true) = some r := by rw [if_neg (show ¬ (false = true) by decide)] at H; exact H
      clear H
      have H := H1
      clear H1
      have H' := Aside0.mk H
      clear H
      go_wp2_with (first | ((with_reducible refine gate_callee (f := 12) rfl ?_); refine goesL_ (some 15) rfl rfl Try.func12 (by kernel_rfl) rfl #[] rfl (by (try simp only [List.map_toArray, List.map_cons, List.map_nil]); first | done | rfl | (simp only [List.length_drop, List.length_take]; rfl)) ?_; (with_reducible refine (pelotonlaw01_awake.calls k  false _ A5.out).mono ?_); rintro e w10 ⟨rfl, hb⟩; refine ⟨_, rfl, ?_⟩; have n0_ := Aside0.mk (below_step (by repeat (first | (with_reducible first | exact HB.out | apply below_alloc | apply pw_below_drewN | apply below_drew1) | exact HB.out)) hb); clear HB; have HB := n0_; clear n0_; (try clear hb); (try clear hb2); (try clear hk); (try clear hi)))
      go_meet
      case rel => exact ⟨_, (true), (by first | rfl | (simp; done) | (simp [*]; done)), H', ⟨by first | omega | exact Nat.le_refl _⟩, ⟨by repeat (first | (with_reducible first | exact HB.out | apply below_alloc | apply pw_below_drewN | apply below_drew1) | exact HB.out)⟩⟩
  case rest =>
    clear HC4
    try clear c1
    try clear p2
    try clear c6
    try clear c7
    try clear c7b0
    try clear c7b1
    try clear c9
    obtain ⟨kq, x26_3, rfl, HA, HJ3, HB⟩ := hcut
    cases kq with
    | zero => exact absurd HA.out (by simp [pelotonlaw01_RoundGroups.j0])
    | succ kj3 =>
      have H := HA.out
      clear HA
      simp only [pelotonlaw01_RoundGroups.j0] at H
      by_cases c11 : x26_3 = true
      · subst c11
        have H1 : ((pelotonlaw01_awake.f kj3).bind fun t123 => (some t123)) = some r := by rw [if_pos rfl] at H; exact H
        clear H
        have H := H1
        clear H1
        replace H := Option.bind_eq_some_iff.mp H
        obtain ⟨t123, A120, H⟩ := H
        replace H : (some t123) = some r := H
        have A12 := Aside0.mk A120
        clear A120
        obtain rfl := Option.some.inj H
        go_wp2_with (first | ((with_reducible refine gate_callee (f := 12) rfl ?_); refine goesL_ (some 27) rfl rfl Try.func12 (by kernel_rfl) rfl #[] rfl (by (try simp only [List.map_toArray, List.map_cons, List.map_nil]); first | done | rfl | (simp only [List.length_drop, List.length_take]; rfl)) ?_; (with_reducible refine (pelotonlaw01_awake.calls kj3  t123 _ A12.out).mono ?_); rintro e w13 ⟨rfl, hb⟩; refine ⟨_, rfl, ?_⟩; have n0_ := Aside0.mk (below_step (by repeat (first | (with_reducible first | exact HB.out | apply below_alloc | apply pw_below_drewN | apply below_drew1) | exact HB.out)) hb); clear HB; have HB := n0_; clear n0_; (try clear hb); (try clear hb2); (try clear hk); (try clear hi)))
        go_ret
        exact ⟨by first | rfl | (simp [errW_none, errW_some] <;> rfl) | (simp [*, errW_none, errW_some] <;> rfl), by repeat (first | (with_reducible first | exact HB.out | apply below_alloc | apply pw_below_drewN | apply below_drew1) | exact HB.out)⟩
      · replace c11 := Bool.eq_false_iff.mpr c11
        subst c11
        have H1 : ((round_Sum.f kj3 l0).bind fun t124 => (pelotonlaw01_RoundGroups.l0 kj3 l0 l1 a2 t124 ([] : List Int) 0 0)) = some r := by rw [if_neg (show ¬ (false = true) by decide)] at H; exact H
        clear H
        have H := H1
        clear H1
        replace H := Option.bind_eq_some_iff.mp H
        obtain ⟨t124, A140, H⟩ := H
        replace H : (pelotonlaw01_RoundGroups.l0 kj3 l0 l1 a2 t124 ([] : List Int) 0 0) = some r := H
        have A14 := Aside0.mk A140
        clear A140
        have HC15 := Aside0.mk H
        clear H
        go_upto_block 0 with (first | ((with_reducible refine gate_callee (f := 21) rfl ?_); refine goesL_ (some 29) rfl rfl Try.func21 (by kernel_rfl) rfl #[.slice A0 l0.length c0] rfl (by (try simp only [List.map_toArray, List.map_cons, List.map_nil]); first | done | rfl | (simp only [List.length_drop, List.length_take]; rfl)) ?_; (with_reducible refine (round_Sum.calls kj3 _ _ l0 t124 _ ?side1 ?side2 A14.out).mono ?_); (case side1 => repeat (first | exact (Kd.C_below HR0.out HB.out) | (with_reducible refine Kd.C_alloc ?_ _) | (with_reducible refine Kd.C_drewN ?_ _) | (with_reducible refine Kd.C_drew ?_))); (case side2 => exact HC0.out); rintro e w' ⟨rfl, ⟨nd, rfl⟩⟩; refine ⟨_, rfl, ?_⟩))
        (try simp only [Act.put, List.setIfInBounds_toArray, List.set_cons_zero, List.set_cons_succ])
        go_cut [8, 9] (fun v8 v9 wc => ∃ (kq : Nat) (x8_14 : List Int) (x9_14 : Int), v9 = .int .i64 x9_14 ∧ Aside0 (pelotonlaw01_RoundGroups.j2 kq l0 a2 t124 x8_14 x9_14 = some r) ∧ Aside0 (kq ≤ kj3) ∧ Aside0 (Kd.R (Kd.int .i32) 21 wc w.heap.size (fun _ => True) v8 x8_14) ∧ Aside0 (Below w.heap.size w wc))
        case first =>
          have H := HC15.out
          clear HC15
          have H' := Aside0.mk H
          clear H
          go_wp2
          go_loopg [8, 9, 10] kj3 (fun kq v8 v9 v10 w' => ∃ (x8_2 : List Int) (x9_2 : Int) (x10_2 : Int), v9 = .int .i64 x9_2 ∧ v10 = .int .i64 x10_2 ∧ Aside0 (pelotonlaw01_RoundGroups.l0 kq l0 l1 a2 t124 x8_2 x9_2 x10_2 = some r) ∧ Aside0 (kq ≤ kj3) ∧ Aside0 (Kd.R (Kd.int .i32) 21 w' w.heap.size (fun _ => True) v8 x8_2) ∧ Aside0 (Below w.heap.size w w'))
          case atStart => exact ⟨(([] : List Int)), (0), (0), (by first | rfl | (simp; done) | (simp [*]; done)), (by first | rfl | (simp; done) | (simp [*]; done)), H', ⟨Nat.le_refl _⟩, ⟨by first | exact Kd.R_nil _ _ _ _ _ | exact Kd.N_nil _ _ _ _ _ | exact Kd.V_nil _ _ _ _ _ | exact Kd.Q_nil _ _ _ _ _ | exact Kd.S_nil _ _ _ _ _⟩, ⟨by repeat (first | (with_reducible first | exact HB.out | apply below_alloc | apply pw_below_drewN | apply below_drew1) | exact HB.out)⟩⟩
          case round =>
            clear H'
            try clear c1
            try clear c2
            try clear p2
            try clear c6
            try clear c7
            try clear c7b0
            try clear c7b1
            try clear c9
            try clear c11
            try clear c12
            try clear p2
            obtain ⟨x8_2, x9_2, x10_2, rfl, rfl, HA, HK2, HO_8, HB⟩ := hrel
            cases gk with
            | zero => exact absurd HA.out (by simp [pelotonlaw01_RoundGroups.l0])
            | succ k2 =>
              have H := HA.out
              clear HA
              simp only [pelotonlaw01_RoundGroups.l0] at H
              by_cases c16 : x10_2 < (l1.length : Int)
              · rw [if_pos c16] at H
                have c16b0 : decide (x10_2 < (l1.length : Int)) = true := decide_eq_true c16
                clear c16
                (first | rw [c16b0] | (simp only [i64_w, i32_w]; rw [c16b0]) | skip)
                by_cases c17 : x9_2 < (l0.length : Int)
                · rw [if_pos c17] at H
                  have c17b0 : decide (x9_2 < (l0.length : Int)) = true := decide_eq_true c17
                  clear c17
                  by_cases c18 : 0 ≤ x10_2
                  · rw [if_pos c18] at H
                    have c18b0 : decide (0 ≤ x10_2) = true := decide_eq_true c18
                    clear c18
                    obtain ⟨ji19, hji19⟩ : ∃ j_ : Int, (mn (Int.tmod (wrap64 ((Int.tmod (rd l1 x10_2) 9) + 9)) 9) (wrap64 ((l0.length : Int) - x9_2))) = j_ := ⟨_, rfl⟩
                    replace H : (if 0 ≤ x9_2 then (if x9_2 ≤ (wrap64 (x9_2 + (ji19))) then (if (wrap64 (x9_2 + (ji19))) ≤ (l0.length : Int) then ((round_Sum.f k2 ((l0.take ((wrap64 (x9_2 + (ji19))) : Int).toNat).drop (x9_2 : Int).toNat)).bind fun t127 => (if x8_2.length < 35184372088832 then (pelotonlaw01_RoundGroups.l0 k2 l0 l1 a2 t124 (x8_2 ++ [t127]) (wrap64 (x9_2 + (ji19))) (wrap64 (x10_2 + 1))) else (none))) else (none)) else (none)) else (none)) = some r := by first | (rw [hji19] at H; exact H) | (simp only [hji19] at H ⊢; exact H)
                    have hji19_ : (if (wrap64 ((l0.length : Int) - x9_2)) < (Int.tmod (wrap64 ((Int.tmod (rd l1 x10_2) 9) + 9)) 9) then (wrap64 ((l0.length : Int) - x9_2)) else (Int.tmod (wrap64 ((Int.tmod (rd l1 x10_2) 9) + 9)) 9)) = ji19 := hji19
                    by_cases c20 : 0 ≤ x9_2
                    · rw [if_pos c20] at H
                      have c20b0 := eq_true c20
                      have c20b1 : decide (0 ≤ x9_2) = true := decide_eq_true c20
                      clear c20
                      by_cases c21 : x9_2 ≤ (wrap64 (x9_2 + (ji19)))
                      · rw [if_pos c21] at H
                        have c21b0 := eq_true c21
                        have c21b1 : decide (x9_2 ≤ (wrap64 (x9_2 + (ji19)))) = true := decide_eq_true c21
                        by_cases c22 : (wrap64 (x9_2 + (ji19))) ≤ (l0.length : Int)
                        · rw [if_pos c22] at H
                          have c22b0 := eq_true c22
                          have c22b1 : decide ((wrap64 (x9_2 + (ji19))) ≤ (l0.length : Int)) = true := decide_eq_true c22
                          replace H := Option.bind_eq_some_iff.mp H
                          obtain ⟨t127, A230, H⟩ := H
                          replace H : (if x8_2.length < 35184372088832 then (pelotonlaw01_RoundGroups.l0 k2 l0 l1 a2 t124 (x8_2 ++ [t127]) (wrap64 (x9_2 + (ji19))) (wrap64 (x10_2 + 1))) else (none)) = some r := H
                          have A23 := Aside0.mk A230
                          clear A230
                          by_cases c24 : x8_2.length < 35184372088832
                          · rw [if_pos c24] at H
                            have LMc24 := Aside0.mk c24
                            clear c24
                            obtain ⟨y128, hy128⟩ : ∃ y_ : List Int, y_ = (x8_2 ++ [t127]) := ⟨_, rfl⟩
                            replace H : (pelotonlaw01_RoundGroups.l0 k2 l0 l1 a2 t124 y128 (wrap64 (x9_2 + (ji19))) (wrap64 (x10_2 + 1))) = some r := by first | (rw [hy128]; with_reducible exact H) | (have H2_ := (Option.bind_some _ _).symm.trans H; rw [hy128]; with_reducible exact H2_) | (have H2_ := (Option.bind_some _ _).symm.trans H; with_reducible exact H2_) | with_reducible exact H | (rw [hy128]; exact H) | exact H
                            have Ny128 := Aside0.mk hy128
                            clear hy128
                            have H' := Aside0.mk H
                            clear H
                            have p125 : 0 ≤ (x10_2 : Int) := of_decide_eq_true (by first | (with_reducible assumption) | assumption)
                            have q125 : x10_2 < (l1.length : Int) := of_decide_eq_true (by first | (with_reducible assumption) | assumption)
                            obtain ⟨ad125, e125, hx125_0⟩ := Kd.at_int HR1.out x10_2 p125 q125
                            cases e125
                            replace hx125_0 := (HB.out.cell (World.block_lt_of_cell? w _ hx125_0)).trans hx125_0
                            replace p125 := eq_true p125
                            replace q125 := eq_true q125
                            obtain ⟨i025, hi025, _, hsz25, _⟩ := info_parts info21
                            obtain ⟨A25, hcut25, hA25, hC25⟩ := print_mid_of (P := Try.prog) (Value.int .i32) 0 34 21 .i64 .i64 Try.underlying34 hi025 hsz25 A0 c0 l0 x9_2 (wrap64 (x9_2 + (ji19))) (of_decide_eq_true (by first | (with_reducible assumption) | assumption)) (by first | omega | exact of_decide_eq_true (by first | (with_reducible assumption) | assumption)) (of_decide_eq_true (by first | (with_reducible assumption) | assumption)) HC0.out
                            have HR126 := Aside0.mk (Kd.C_of_reads (h1 := fun _ => rfl) (hA25 _ (Kd.reads_of_C HR0.out)))
                            have HC126 := Aside0.mk hC25
                            clear hA25 hC25 hi025 hsz25
                            go_wp2_with (first | ((with_reducible refine gate_callee (f := 21) rfl ?_); refine goesL_ (some 61) rfl rfl Try.func21 (by kernel_rfl) rfl #[.slice A25 ((l0.take ((wrap64 (x9_2 + (ji19))) : Int).toNat).drop (x9_2 : Int).toNat).length (c0 - x9_2.toNat)] rfl (by (try simp only [List.map_toArray, List.map_cons, List.map_nil]); first | done | (rw [show ((l0.take ((wrap64 (x9_2 + (ji19))) : Int).toNat).drop (x9_2 : Int).toNat).length = ((wrap64 (x9_2 + (ji19))).toNat - x9_2.toNat) from (by rw [List.length_drop, List.length_take]; have h_ : ((wrap64 (x9_2 + (ji19))) : Int) ≤ (l0.length : Int) := of_decide_eq_true (by first | (with_reducible assumption) | assumption); omega)] <;> rfl) | (simp only [hji19]; rfl) | rfl | (simp only [List.length_drop, List.length_take]; rfl)) ?_; (with_reducible refine (round_Sum.calls k2 _ _ ((l0.take ((wrap64 (x9_2 + (ji19))) : Int).toNat).drop (x9_2 : Int).toNat) t127 _ ?side1 ?side2 A23.out).mono ?_); (case side1 => repeat (first | exact (Kd.C_below HR126.out HB.out) | (with_reducible refine Kd.C_alloc ?_ _) | (with_reducible refine Kd.C_drewN ?_ _) | (with_reducible refine Kd.C_drew ?_))); (case side2 => exact HC126.out); rintro e w' ⟨rfl, ⟨nd, rfl⟩⟩; refine ⟨_, rfl, ?_⟩) | ((with_reducible refine gate_builtin (b := .append) (xs := #[.tmp 54, .tmp 62]) rfl ?_); (try (refine gate_guard (by rfl) ?_; dsimp only)); at_builtin; refine Kd.R_append (Kd.int .i32) (w0 := w) w.heap.size rfl (.tmp 54) (.tmp 62) 34 21 (.int .i32 0) 4 rfl Try.underlying34 info21 rfl (by decide) (by omega) u8 x8_2 t127 [.int .i32 t127] (fun _ => True) (fun _ => False) rfl rfl ?aP (fun _ hk => hk.elim) ?aF ?aO ?aB ?aS ?aL ?_; (case aP => exact rfl); (case aB => exact (by repeat (first | (with_reducible first | exact HB.out | apply below_alloc | apply pw_below_drewN | apply below_drew1) | exact HB.out))); (case aF => exact (fun _ _ => trivial)); (case aO => exact (by (with_reducible repeat (first | apply Kd.R_alloc | apply Kd.R_drewN | apply Kd.R_drew)); exact HO_8.out)); (case aS => exact (below_size (by repeat (first | (with_reducible first | exact HB.out | apply below_alloc | apply pw_below_drewN | apply below_drew1) | exact HB.out)))); (case aL => have := LMc24.out; omega); intro v129 w26 ho hb hg hat; rw [← Ny128.out] at ho; have n0_ := Aside0.mk (hb); have n1_ := Aside0.mk (ho); clear HB; clear HO_8; have HB := n0_; have HO130 := n1_; clear n0_ n1_; clear ho hb hg hat))
                            go_roundg k2
                            case measure => have := HJ3.out; have := HK2.out; omega
                            case rel => exact ⟨(y128), (wrap64 (x9_2 + (ji19))), (wrap64 (x10_2 + 1)), (by first | rfl | (simp; done) | (simp only [← hji19] <;> (first | rfl | simp)) | (simp [*]; done)), (by first | rfl | (simp; done) | (simp [*]; done)), H', ⟨by have := HJ3.out; have := HK2.out; omega⟩, ⟨by (with_reducible repeat (first | apply Kd.R_alloc | apply Kd.R_drewN | apply Kd.R_drew)); exact HO130.out⟩, ⟨by repeat (first | (with_reducible first | exact HB.out | apply below_alloc | apply pw_below_drewN | apply below_drew1) | exact HB.out)⟩⟩
                          · rw [if_neg c24] at H
                            exact absurd H (by simp)
                        · rw [if_neg c22] at H
                          exact absurd H (by simp)
                      · rw [if_neg c21] at H
                        exact absurd H (by simp)
                    · rw [if_neg c20] at H
                      exact absurd H (by simp)
                  · rw [if_neg c18] at H
                    exact absurd H (by simp)
                · rw [if_neg c17] at H
                  have c17b0 : decide (x9_2 < (l0.length : Int)) = false := decide_eq_false c17
                  clear c17
                  have H' := Aside0.mk H
                  clear H
                  go_wp2
                  go_meet
                  case rel => exact ⟨_, (x8_2), (x9_2), (by first | rfl | (simp; done) | (simp [*]; done)), H', ⟨by have := HJ3.out; have := HK2.out; first | omega | exact Nat.le_refl _⟩, ⟨by (with_reducible repeat (first | apply Kd.R_alloc | apply Kd.R_drewN | apply Kd.R_drew)); exact HO_8.out⟩, ⟨by repeat (first | (with_reducible first | exact HB.out | apply below_alloc | apply pw_below_drewN | apply below_drew1) | exact HB.out)⟩⟩
              · rw [if_neg c16] at H
                have c16b0 : decide (x10_2 < (l1.length : Int)) = false := decide_eq_false c16
                clear c16
                (first | rw [c16b0] | (simp only [i64_w, i32_w]; rw [c16b0]) | skip)
                have H' := Aside0.mk H
                clear H
                go_wp2
                go_meet
                case rel => exact ⟨_, (x8_2), (x9_2), (by first | rfl | (simp; done) | (simp [*]; done)), H', ⟨by have := HJ3.out; have := HK2.out; first | omega | exact Nat.le_refl _⟩, ⟨by (with_reducible repeat (first | apply Kd.R_alloc | apply Kd.R_drewN | apply Kd.R_drew)); exact HO_8.out⟩, ⟨by repeat (first | (with_reducible first | exact HB.out | apply below_alloc | apply pw_below_drewN | apply below_drew1) | exact HB.out)⟩⟩
        case rest =>
          clear HC15
          try clear c1
          try clear p1
          try clear q1
          try clear hx1
          try clear c2
          try clear p2
          try clear c6
          try clear p6
          try clear c7
          try clear c7b0
          try clear c7b1
          try clear c9
          try clear c11
          try clear c12
          try clear p12
          try clear q12
          try clear hx12
          try clear c16
          try clear c16b0
          try clear c17
          try clear c17b0
          try clear c18
          try clear c18b0
          try clear c20
          try clear c20b0
          try clear c20b1
          try clear c21
          try clear c21b0
          try clear c21b1
          try clear c22
          try clear c22b0
          try clear c22b1
          try clear c24
          try clear hx125_0
          try clear p125
          try clear p2
          try clear q125
          obtain ⟨kq, x8_14, x9_14, rfl, HA, HJ14, HO_8, HB⟩ := hcut
          cases kq with
          | zero => exact absurd HA.out (by simp [pelotonlaw01_RoundGroups.j2])
          | succ kj14 =>
            have H := HA.out
            clear HA
            simp only [pelotonlaw01_RoundGroups.j2] at H
            by_cases c27 : 0 ≤ x9_14
            · rw [if_pos c27] at H
              have c27b0 := eq_true c27
              have c27b1 : decide (0 ≤ x9_14) = true := decide_eq_true c27
              clear c27
              by_cases c28 : x9_14 ≤ (l0.length : Int)
              · rw [if_pos c28] at H
                have c28b0 := eq_true c28
                have c28b1 : decide (x9_14 ≤ (l0.length : Int)) = true := decide_eq_true c28
                clear c28
                replace H := Option.bind_eq_some_iff.mp H
                obtain ⟨t132, A290, H⟩ := H
                replace H : (if x8_14.length < 35184372088832 then ((some (x8_14 ++ [t132] : List Int)).bind fun y133 => (if (l0.length : Int) > 0 then (if (l0.length : Int) = 0 then (none) else (pelotonlaw01_RoundGroups.j3 kj14 l0 t124 y133 ([] : List Int) (Int.tmod (wrap64 ((Int.tmod a2 (l0.length : Int)) + (l0.length : Int))) (l0.length : Int)))) else (pelotonlaw01_RoundGroups.j3 kj14 l0 t124 y133 ([] : List Int) 0))) else (none)) = some r := H
                have A29 := Aside0.mk A290
                clear A290
                by_cases c30 : x8_14.length < 35184372088832
                · rw [if_pos c30] at H
                  have LMc30 := Aside0.mk c30
                  clear c30
                  obtain ⟨y133, hy133⟩ : ∃ y_ : List Int, y_ = (x8_14 ++ [t132]) := ⟨_, rfl⟩
                  replace H : (if (l0.length : Int) > 0 then (if (l0.length : Int) = 0 then (none) else (pelotonlaw01_RoundGroups.j3 kj14 l0 t124 y133 ([] : List Int) (Int.tmod (wrap64 ((Int.tmod a2 (l0.length : Int)) + (l0.length : Int))) (l0.length : Int)))) else (pelotonlaw01_RoundGroups.j3 kj14 l0 t124 y133 ([] : List Int) 0)) = some r := by first | (rw [hy133]; with_reducible exact H) | (have H2_ := (Option.bind_some _ _).symm.trans H; rw [hy133]; with_reducible exact H2_) | (have H2_ := (Option.bind_some _ _).symm.trans H; with_reducible exact H2_) | with_reducible exact H | (rw [hy133]; exact H) | exact H
                  have Ny133 := Aside0.mk hy133
                  clear hy133
                  have HC31 := Aside0.mk H
                  clear H
                  obtain ⟨i032, hi032, _, hsz32, _⟩ := info_parts info21
                  obtain ⟨A32, hcut32, hA32, hC32⟩ := print_drop_of (P := Try.prog) (Value.int .i32) 0 34 21 .i64 Try.underlying34 hi032 hsz32 A0 c0 l0 x9_14 (of_decide_eq_true (by first | (with_reducible assumption) | assumption)) (of_decide_eq_true (by first | (with_reducible assumption) | assumption)) HC0.out
                  have HR131 := Aside0.mk (Kd.C_of_reads (h1 := fun _ => rfl) (hA32 _ (Kd.reads_of_C HR0.out)))
                  have HC131 := Aside0.mk hC32
                  clear hA32 hC32 hi032 hsz32
                  go_upto_if 76 with (first | ((with_reducible refine gate_callee (f := 21) rfl ?_); refine goesL_ (some 71) rfl rfl Try.func21 (by kernel_rfl) rfl #[.slice A32 (l0.drop (x9_14 : Int).toNat).length (c0 - x9_14.toNat)] rfl (by (try simp only [List.map_toArray, List.map_cons, List.map_nil]); first | done | (rw [show (l0.drop (x9_14 : Int).toNat).length = (l0.length - x9_14.toNat) from List.length_drop] <;> rfl) | rfl | (simp only [List.length_drop, List.length_take]; rfl)) ?_; (with_reducible refine (round_Sum.calls kj14 _ _ (l0.drop (x9_14 : Int).toNat) t132 _ ?side1 ?side2 A29.out).mono ?_); (case side1 => repeat (first | exact (Kd.C_below HR131.out HB.out) | (with_reducible refine Kd.C_alloc ?_ _) | (with_reducible refine Kd.C_drewN ?_ _) | (with_reducible refine Kd.C_drew ?_))); (case side2 => exact HC131.out); rintro e w' ⟨rfl, ⟨nd, rfl⟩⟩; refine ⟨_, rfl, ?_⟩) | ((with_reducible refine gate_builtin (b := .append) (xs := #[.tmp 67, .tmp 72]) rfl ?_); (try (refine gate_guard (by rfl) ?_; dsimp only)); at_builtin; refine Kd.R_append (Kd.int .i32) (w0 := w) w.heap.size rfl (.tmp 67) (.tmp 72) 34 21 (.int .i32 0) 4 rfl Try.underlying34 info21 rfl (by decide) (by omega) u8 x8_14 t132 [.int .i32 t132] (fun _ => True) (fun _ => False) rfl rfl ?aP (fun _ hk => hk.elim) ?aF ?aO ?aB ?aS ?aL ?_; (case aP => exact rfl); (case aB => exact (by repeat (first | (with_reducible first | exact HB.out | apply below_alloc | apply pw_below_drewN | apply below_drew1) | exact HB.out))); (case aF => exact (fun _ _ => trivial)); (case aO => exact (by (with_reducible repeat (first | apply Kd.R_alloc | apply Kd.R_drewN | apply Kd.R_drew)); exact HO_8.out)); (case aS => exact (below_size (by repeat (first | (with_reducible first | exact HB.out | apply below_alloc | apply pw_below_drewN | apply below_drew1) | exact HB.out)))); (case aL => have := LMc30.out; omega); intro v134 w33 ho hb hg hat; rw [← Ny133.out] at ho; have n0_ := Aside0.mk (hb); have n1_ := Aside0.mk (ho); clear HB; clear HO_8; have HB := n0_; have HO135 := n1_; clear n0_ n1_; clear ho hb hg hat))
                  (try simp only [Act.put, List.setIfInBounds_toArray, List.set_cons_zero, List.set_cons_succ])
                  go_cut [13] (fun v13 wc => ∃ (kq : Nat) (x13_30 : Int), v13 = .int .i64 x13_30 ∧ Aside0 (pelotonlaw01_RoundGroups.j3 kq l0 t124 y133 ([] : List Int) x13_30 = some r) ∧ Aside0 (kq ≤ kj14) ∧ Aside0 (Kd.R (Kd.int .i32) 21 wc w.heap.size (fun k_ => some k_ ≠ ((.slice none 0 0) : Value).ownBlock) v134 y133) ∧ Aside0 (Kd.R (Kd.int .i32) 21 wc w.heap.size (fun k_ => some k_ ≠ (v134 : Value).ownBlock) (.slice none 0 0) ([] : List Int)) ∧ Aside0 (Below w.heap.size w wc))
                  case first =>
                    have H := HC31.out
                    clear HC31
                    by_cases c34 : (l0.length : Int) > 0
                    · rw [if_pos c34] at H
                      have c34b0 : decide (0 < (l0.length : Int)) = true := decide_eq_true c34
                      have c34b1 : decide (0 < l0.length) = true := decide_eq_true (by omega)
                      clear c34
                      (first | rw [c34b0] | rw [c34b1] | (simp only [i64_w, i32_w]; rw [c34b0]) | skip)
                      by_cases c35 : (l0.length : Int) = 0
                      · rw [if_pos c35] at H
                        exact absurd H (by simp)
                      · rw [if_neg c35] at H
                        have c35b0 : ((l0.length : Int) == 0) = false := beq_eq_false_iff_ne.mpr c35
                        have c35b1 : ((l0.length : Int) != 0) = true := bne_iff_ne.mpr c35
                        have c35b2 : ¬ (l0 = []) := fun h_ => c35 (by rw [h_]; rfl)
                        have H' := Aside0.mk H
                        clear H
                        go_wp2
                        go_meet
                        case rel => exact ⟨_, (Int.tmod (wrap64 ((Int.tmod a2 (l0.length : Int)) + (l0.length : Int))) (l0.length : Int)), (by first | rfl | (simp; done) | (simp [*]; done)), H', ⟨by have := HJ3.out; have := HJ14.out; first | omega | exact Nat.le_refl _⟩, ⟨by (with_reducible repeat (first | apply Kd.R_alloc | apply Kd.R_drewN | apply Kd.R_drew)); exact Kd.R_mono HO135.out (fun _ hk => (by simp [Value.ownBlock]))⟩, ⟨by first | exact Kd.R_nil _ _ _ _ _ | exact Kd.N_nil _ _ _ _ _ | exact Kd.V_nil _ _ _ _ _ | exact Kd.Q_nil _ _ _ _ _ | exact Kd.S_nil _ _ _ _ _⟩, ⟨by repeat (first | (with_reducible first | exact HB.out | apply below_alloc | apply pw_below_drewN | apply below_drew1) | exact HB.out)⟩⟩
                    · rw [if_neg c34] at H
                      have c34b0 : decide (0 < (l0.length : Int)) = false := decide_eq_false c34
                      have c34b1 : decide (0 < l0.length) = false := decide_eq_false (by omega)
                      clear c34
                      (first | rw [c34b0] | rw [c34b1] | (simp only [i64_w, i32_w]; rw [c34b0]) | skip)
                      have H' := Aside0.mk H
                      clear H
                      go_wp2
                      go_meet
                      case rel => exact ⟨_, (0), (by first | rfl | (simp; done) | (simp [*]; done)), H', ⟨by have := HJ3.out; have := HJ14.out; first | omega | exact Nat.le_refl _⟩, ⟨by (with_reducible repeat (first | apply Kd.R_alloc | apply Kd.R_drewN | apply Kd.R_drew)); exact Kd.R_mono HO135.out (fun _ hk => (by simp [Value.ownBlock]))⟩, ⟨by first | exact Kd.R_nil _ _ _ _ _ | exact Kd.N_nil _ _ _ _ _ | exact Kd.V_nil _ _ _ _ _ | exact Kd.Q_nil _ _ _ _ _ | exact Kd.S_nil _ _ _ _ _⟩, ⟨by repeat (first | (with_reducible first | exact HB.out | apply below_alloc | apply pw_below_drewN | apply below_drew1) | exact HB.out)⟩⟩
                  case rest =>
                    clear HC31
                    try clear c1
                    try clear p1
                    try clear q1
                    try clear hx1
                    try clear c2
                    try clear p2
                    try clear c3
                    try clear c6
                    try clear p6
                    try clear c7
                    try clear c7b0
                    try clear c7b1
                    try clear c9
                    try clear c11
                    try clear c12
                    try clear p12
                    try clear q12
                    try clear hx12
                    try clear c16
                    try clear c16b0
                    try clear c17
                    try clear c17b0
                    try clear c18
                    try clear c18b0
                    try clear c20
                    try clear c20b0
                    try clear c20b1
                    try clear c21
                    try clear c21b0
                    try clear c21b1
                    try clear c22
                    try clear c22b0
                    try clear c22b1
                    try clear c24
                    try clear c27
                    try clear c27b0
                    try clear c27b1
                    try clear c28
                    try clear c28b0
                    try clear c28b1
                    try clear c30
                    try clear c34
                    try clear c34b0
                    try clear c34b1
                    try clear c35
                    try clear c35b0
                    try clear c35b1
                    try clear c35b2
                    try clear hx125_0
                    try clear p1
                    try clear p12
                    try clear p125
                    try clear p2
                    try clear p6
                    try clear q1
                    try clear q12
                    try clear q125
                    obtain ⟨kq, x13_30, rfl, HA, HJ30, HO_8, HO_12, HB⟩ := hcut
                    cases kq with
                    | zero => exact absurd HA.out (by simp [pelotonlaw01_RoundGroups.j3])
                    | succ kj30 =>
                      have H := HA.out
                      clear HA
                      simp only [pelotonlaw01_RoundGroups.j3] at H
                      have H' := Aside0.mk H
                      clear H
                      go_wp2
                      go_loopg [12, 14] kj30 (fun kq v12 v14 w' => ∃ (x12_4 : List Int) (x14_4 : Int), v14 = .int .i64 x14_4 ∧ Aside0 (pelotonlaw01_RoundGroups.l1 kq l0 t124 y133 x12_4 x13_30 x14_4 = some r) ∧ Aside0 (kq ≤ kj30) ∧ Aside0 (Kd.R (Kd.int .i32) 21 w' w.heap.size (fun k_ => some k_ ≠ (v12 : Value).ownBlock) v134 y133) ∧ Aside0 (Kd.R (Kd.int .i32) 21 w' w.heap.size (fun k_ => some k_ ≠ (v134 : Value).ownBlock) v12 x12_4) ∧ Aside0 (Below w.heap.size w w'))
                      case atStart => exact ⟨(([] : List Int)), (wrap64 ((l0.length : Int) - 1)), (by first | rfl | (simp; done) | (simp [*]; done)), H', ⟨Nat.le_refl _⟩, ⟨by (with_reducible repeat (first | apply Kd.R_alloc | apply Kd.R_drewN | apply Kd.R_drew)); exact HO_8.out⟩, ⟨by (with_reducible repeat (first | apply Kd.R_alloc | apply Kd.R_drewN | apply Kd.R_drew)); exact HO_12.out⟩, ⟨by repeat (first | (with_reducible first | exact HB.out | apply below_alloc | apply pw_below_drewN | apply below_drew1) | exact HB.out)⟩⟩
                      case round =>
                        clear H'
                        try clear c1
                        try clear p1
                        try clear q1
                        try clear hx1
                        try clear c2
                        try clear p2
                        try clear c3
                        try clear c6
                        try clear p6
                        try clear c7
                        try clear c7b0
                        try clear c7b1
                        try clear c9
                        try clear c11
                        try clear c12
                        try clear p12
                        try clear q12
                        try clear hx12
                        try clear c16
                        try clear c16b0
                        try clear c17
                        try clear c17b0
                        try clear c18
                        try clear c18b0
                        try clear c20
                        try clear c20b0
                        try clear c20b1
                        try clear c21
                        try clear c21b0
                        try clear c21b1
                        try clear c22
                        try clear c22b0
                        try clear c22b1
                        try clear c24
                        try clear c27
                        try clear c27b0
                        try clear c27b1
                        try clear c28
                        try clear c28b0
                        try clear c28b1
                        try clear c30
                        try clear c34
                        try clear c34b0
                        try clear c34b1
                        try clear c35
                        try clear c35b0
                        try clear c35b1
                        try clear c35b2
                        try clear hx125_0
                        try clear p1
                        try clear p12
                        try clear p125
                        try clear p2
                        try clear p6
                        try clear q1
                        try clear q12
                        try clear q125
                        obtain ⟨x12_4, x14_4, rfl, HA, HK4, HO_8, HO_12, HB⟩ := hrel
                        cases gk with
                        | zero => exact absurd HA.out (by simp [pelotonlaw01_RoundGroups.l1])
                        | succ k4 =>
                          have H := HA.out
                          clear HA
                          simp only [pelotonlaw01_RoundGroups.l1] at H
                          by_cases c36 : x14_4 ≥ 0
                          · rw [if_pos c36] at H
                            have c36b0 : decide (0 ≤ x14_4) = true := decide_eq_true c36
                            clear c36
                            by_cases c37 : (l0.length : Int) = 0
                            · rw [if_pos c37] at H
                              exact absurd H (by simp)
                            · rw [if_neg c37] at H
                              have c37b0 : ((l0.length : Int) == 0) = false := beq_eq_false_iff_ne.mpr c37
                              have c37b1 : ((l0.length : Int) != 0) = true := bne_iff_ne.mpr c37
                              have c37b2 : ¬ (l0 = []) := fun h_ => c37 (by rw [h_]; rfl)
                              obtain ⟨ji38, hji38⟩ : ∃ j_ : Int, (Int.tmod (wrap64 (x14_4 + x13_30)) (l0.length : Int)) = j_ := ⟨_, rfl⟩
                              replace H : (if 0 ≤ (ji38) then (if (ji38) < (l0.length : Int) then (if x12_4.length < 35184372088832 then (pelotonlaw01_RoundGroups.l1 k4 l0 t124 y133 (x12_4 ++ [rd l0 (ji38)]) x13_30 (wrap64 (x14_4 - 1))) else (none)) else (none)) else (none)) = some r := by first | (rw [hji38] at H; exact H) | (simp only [hji38] at H ⊢; exact H)
                              by_cases c39 : 0 ≤ (ji38)
                              · rw [if_pos c39] at H
                                have c39b0 : decide (0 ≤ (ji38)) = true := decide_eq_true c39
                                clear c39
                                by_cases c40 : (ji38) < (l0.length : Int)
                                · rw [if_pos c40] at H
                                  have c40b0 : decide ((ji38) < (l0.length : Int)) = true := decide_eq_true c40
                                  clear c40
                                  by_cases c41 : x12_4.length < 35184372088832
                                  · rw [if_pos c41] at H
                                    have LMc41 := Aside0.mk c41
                                    clear c41
                                    obtain ⟨y137, hy137⟩ : ∃ y_ : List Int, y_ = (x12_4 ++ [rd l0 (ji38)]) := ⟨_, rfl⟩
                                    replace H : (pelotonlaw01_RoundGroups.l1 k4 l0 t124 y133 y137 x13_30 (wrap64 (x14_4 - 1))) = some r := by first | (rw [hy137]; with_reducible exact H) | (have H2_ := (Option.bind_some _ _).symm.trans H; rw [hy137]; with_reducible exact H2_) | (have H2_ := (Option.bind_some _ _).symm.trans H; with_reducible exact H2_) | with_reducible exact H | (rw [hy137]; exact H) | exact H
                                    have Ny137 := Aside0.mk hy137
                                    clear hy137
                                    have H' := Aside0.mk H
                                    clear H
                                    have p136 : 0 ≤ ((ji38) : Int) := of_decide_eq_true (by first | (with_reducible assumption) | assumption)
                                    have q136 : (ji38) < (l0.length : Int) := of_decide_eq_true (by first | (with_reducible assumption) | assumption)
                                    obtain ⟨ad136, e136, hx136_0⟩ := Kd.at_int HR0.out (ji38) p136 q136
                                    cases e136
                                    replace hx136_0 := (HB.out.cell (World.block_lt_of_cell? w _ hx136_0)).trans hx136_0
                                    replace p136 := eq_true p136
                                    replace q136 := eq_true q136
                                    go_wp2_with (first | ((with_reducible refine gate_builtin (b := .append) (xs := #[.tmp 94, .tmp 104]) rfl ?_); (try (refine gate_guard (by rfl) ?_; dsimp only)); at_builtin; refine Kd.R_append (Kd.int .i32) (w0 := w) w.heap.size rfl (.tmp 94) (.tmp 104) 34 21 (.int .i32 0) 4 rfl Try.underlying34 info21 rfl (by decide) (by omega) u12 x12_4 (rd l0 (ji38)) [.int .i32 (rd l0 (ji38))] (fun k_ => some k_ ≠ (v134 : Value).ownBlock) (fun _ => False) rfl rfl ?aP (fun _ hk => hk.elim) ?aF ?aO ?aB ?aS ?aL ?_; (case aP => exact rfl); (case aB => exact (by repeat (first | (with_reducible first | exact HB.out | apply below_alloc | apply pw_below_drewN | apply below_drew1) | exact HB.out))); (case aF => exact (fun k_ hk => Kd.fresh' (Kd.R_lt (by (with_reducible repeat (first | apply Kd.R_alloc | apply Kd.R_drewN | apply Kd.R_drew)); exact HO_8.out)) k_ hk)); (case aO => exact (by (with_reducible repeat (first | apply Kd.R_alloc | apply Kd.R_drewN | apply Kd.R_drew)); exact HO_12.out)); (case aS => exact (below_size (by repeat (first | (with_reducible first | exact HB.out | apply below_alloc | apply pw_below_drewN | apply below_drew1) | exact HB.out)))); (case aL => have := LMc41.out; omega); intro v138 w42 ho hb hg hat; rw [← Ny137.out] at ho; have n0_ := Aside0.mk (Kd.R_after (ok := (fun _ => True)) (by (with_reducible repeat (first | apply Kd.R_alloc | apply Kd.R_drewN | apply Kd.R_drew)); exact Kd.R_mono HO_8.out (fun _ hk => ⟨trivial, hk⟩)) hg hat); have n1_ := Aside0.mk (hb); have n2_ := Aside0.mk (ho); clear HO_8; clear HB; clear HO_12; have HO_8 := n0_; have HB := n1_; have HO139 := n2_; clear n0_ n1_ n2_; clear ho hb hg hat))
                                    go_roundg k4
                                    case measure => have := HJ3.out; have := HJ14.out; have := HJ30.out; have := HK4.out; omega
                                    case rel => exact ⟨(y137), (wrap64 (x14_4 - 1)), (by first | rfl | (simp; done) | (simp [*]; done)), H', ⟨by have := HJ3.out; have := HJ14.out; have := HJ30.out; have := HK4.out; omega⟩, ⟨by (with_reducible repeat (first | apply Kd.R_alloc | apply Kd.R_drewN | apply Kd.R_drew)); exact Kd.R_mono HO_8.out (fun _ hk => hk.2)⟩, ⟨by (with_reducible repeat (first | apply Kd.R_alloc | apply Kd.R_drewN | apply Kd.R_drew)); exact HO139.out⟩, ⟨by repeat (first | (with_reducible first | exact HB.out | apply below_alloc | apply pw_below_drewN | apply below_drew1) | exact HB.out)⟩⟩
                                  · rw [if_neg c41] at H
                                    exact absurd H (by simp)
                                · rw [if_neg c40] at H
                                  exact absurd H (by simp)
                              · rw [if_neg c39] at H
                                exact absurd H (by simp)
                          · rw [if_neg c36] at H
                            have c36b0 : decide (0 ≤ x14_4) = false := decide_eq_false c36
                            clear c36
                            replace H := Option.bind_eq_some_iff.mp H
                            obtain ⟨t140, A430, H⟩ := H
                            replace H : (if t140 = t124 then ((round_Sum.f k4 x12_4).bind fun t141 => (some (t141 == t124))) else (some false)) = some r := H
                            have A43 := Aside0.mk A430
                            clear A430
                            by_cases c44 : t140 = t124
                            · rw [if_pos c44] at H
                              have c44b0 : (t140 == t124) = true := beq_iff_eq.mpr c44
                              have c44b1 : (t140 != t124) = false := bne_eq_false_iff_eq.mpr c44
                              clear c44
                              replace H := Option.bind_eq_some_iff.mp H
                              obtain ⟨t141, A450, H⟩ := H
                              replace H : (some (t141 == t124)) = some r := H
                              have A45 := Aside0.mk A450
                              clear A450
                              obtain rfl := Option.some.inj H
                              obtain ⟨Ao46, co46, eo46⟩ := Kd.R_slice HO_8.out
                              subst eo46
                              go_wp2_with (first | ((with_reducible refine gate_callee (f := 21) rfl ?_); refine goesL_ (some 107) rfl rfl Try.func21 (by kernel_rfl) rfl #[.slice Ao46 y133.length co46] rfl (by (try simp only [List.map_toArray, List.map_cons, List.map_nil]); first | done | rfl | (simp only [List.length_drop, List.length_take]; rfl)) ?_; (with_reducible refine (round_Sum.calls k4 _ _ y133 t140 _ ?side1 ?side2 A43.out).mono ?_); (case side1 => repeat (first | exact (Kd.R_reads' HO_8.out).2.2 | (with_reducible refine Kd.C_alloc ?_ _) | (with_reducible refine Kd.C_drewN ?_ _) | (with_reducible refine Kd.C_drew ?_))); (case side2 => exact (Kd.R_reads' HO_8.out).2.1); rintro e w' ⟨rfl, ⟨nd, rfl⟩⟩; refine ⟨_, rfl, ?_⟩; obtain ⟨Ao47, co47, eo47⟩ := Kd.R_slice HO_12.out; subst eo47) | (go_at_call 21; (with_reducible refine (round_Sum.calls k4 _ _ x12_4 t141 _ ?side1 ?side2 A45.out).mono ?_); (case side1 => repeat (first | exact (Kd.R_reads' HO_12.out).2.2 | (with_reducible refine Kd.C_alloc ?_ _) | (with_reducible refine Kd.C_drewN ?_ _) | (with_reducible refine Kd.C_drew ?_))); (case side2 => exact (Kd.R_reads' HO_12.out).2.1); rintro e w' ⟨rfl, ⟨nd, rfl⟩⟩))
                              go_ret
                              exact ⟨by first | rfl | (simp [errW_none, errW_some] <;> rfl) | (simp [*, errW_none, errW_some] <;> rfl), by repeat (first | (with_reducible first | exact HB.out | apply below_alloc | apply pw_below_drewN | apply below_drew1) | exact HB.out)⟩
                            · rw [if_neg c44] at H
                              have c44b0 : (t140 == t124) = false := beq_eq_false_iff_ne.mpr c44
                              have c44b1 : (t140 != t124) = true := bne_iff_ne.mpr c44
                              obtain rfl := Option.some.inj H
                              obtain ⟨Ao48, co48, eo48⟩ := Kd.R_slice HO_8.out
                              subst eo48
                              go_wp2_with (first | ((with_reducible refine gate_callee (f := 21) rfl ?_); refine goesL_ (some 107) rfl rfl Try.func21 (by kernel_rfl) rfl #[.slice Ao48 y133.length co48] rfl (by (try simp only [List.map_toArray, List.map_cons, List.map_nil]); first | done | rfl | (simp only [List.length_drop, List.length_take]; rfl)) ?_; (with_reducible refine (round_Sum.calls k4 _ _ y133 t140 _ ?side1 ?side2 A43.out).mono ?_); (case side1 => repeat (first | exact (Kd.R_reads' HO_8.out).2.2 | (with_reducible refine Kd.C_alloc ?_ _) | (with_reducible refine Kd.C_drewN ?_ _) | (with_reducible refine Kd.C_drew ?_))); (case side2 => exact (Kd.R_reads' HO_8.out).2.1); rintro e w' ⟨rfl, ⟨nd, rfl⟩⟩; refine ⟨_, rfl, ?_⟩))
                              go_ret
                              exact ⟨by first | rfl | (simp [errW_none, errW_some] <;> rfl) | (simp [*, errW_none, errW_some] <;> rfl), by repeat (first | (with_reducible first | exact HB.out | apply below_alloc | apply pw_below_drewN | apply below_drew1) | exact HB.out)⟩
                · rw [if_neg c30] at H
                  exact absurd H (by simp)
              · rw [if_neg c28] at H
                exact absurd H (by simp)
            · rw [if_neg c27] at H
              exact absurd H (by simp)

/-- THE ONE PURE STATEMENT of pelotonlaw01_RoundGroups: yours. -/
def pelotonlaw01_RoundGroups.Pure : Prop := ∀ (l0 : List Int) (l1 : List Int) (a2 : Int), l0.length ≤ maxLen → l0.length * 4 ≤ 140737488351232 → (∀ x ∈ l0, (Lit.int .i32 x).wf = true) → l1.length ≤ maxLen → l1.length * 8 ≤ 140737488351232 → (∀ x ∈ l1, (Lit.int .i64 x).wf = true) → (Lit.int .i64 a2).wf = true → ∃ k, pelotonlaw01_RoundGroups.f k l0 l1 a2 = some true
theorem pelotonlaw01_RoundGroups.walk (P : pelotonlaw01_RoundGroups.Pure) (a0 : Option Addr) (len0 cap0 : Nat) (z0 : List Int) (a1 : Option Addr) (len1 cap1 : Nat) (z1 : List Int) (a2 : Int) (w : World) (w0 : (a0 = none ∧ len0 = 0 ∧ cap0 = 0 ∧ z0 = []) ∨ ∃ x, a0 = some x ∧ len0 ≤ cap0 ∧ cap0 ≤ maxLen ∧ z0.length = cap0 ∧ (∀ i, i < z0.length → w.cell? (x.add i) = some (.int .i32 (z0.getD i 0))) ∧ ∀ n ∈ z0, (Lit.int .i32 n).wf = true) (y0 : len0 * 4 ≤ 140737488351232) (w1 : (a1 = none ∧ len1 = 0 ∧ cap1 = 0 ∧ z1 = []) ∨ ∃ x, a1 = some x ∧ len1 ≤ cap1 ∧ cap1 ≤ maxLen ∧ z1.length = cap1 ∧ (∀ i, i < z1.length → w.cell? (x.add i) = some (.int .i64 (z1.getD i 0))) ∧ ∀ n ∈ z1, (Lit.int .i64 n).wf = true) (y1 : len1 * 8 ≤ 140737488351232) (w2 : (Lit.int .i64 a2).wf = true) :
    Calls Try.prog 9 #[.slice a0 len0 cap0, .slice a1 len1 cap1, .int .i64 a2] w fun e w' => e = .returned (.bool true) ∧ Below w.heap.size w w' := by
  obtain ⟨l0, rfl, hr0, hm0, hw0, hc0⟩ := ReadsInt.ofRowC w0
  obtain ⟨l1, rfl, hr1, hm1, hw1, hc1⟩ := ReadsInt.ofRowC w1
  obtain ⟨k, h⟩ := P l0 l1 a2 hm0 y0 hw0 hm1 y1 hw1 w2
  refine (pelotonlaw01_RoundGroups.calls k _ _ l0 _ _ l1 a2 true w (Kd.C_of_reads (d := (0 : Int)) (h1 := fun _ => rfl) hr0) hc0 (Kd.C_of_reads (d := (0 : Int)) (h1 := fun _ => rfl) hr1) hc1 h).mono ?_
  rintro e w' ⟨rfl, hd⟩
  exact ⟨rfl, hd⟩

end Go.Proofs.Ytbbemkdfbiffbaa.PRoundGroups
