/- RoundPieces: functions of this law and their contracts, text 2 of it; turned from what the print wrote. No condition beside the contracts' own. -/
import Derived.Test.YtbbemkdfbiffbaaPRoundPiecesx0
import Derived.Test.YtbbemkdfbiffbaaORoundPiecesx1
namespace Go.Proofs.Ytbbemkdfbiffbaa.PRoundPieces
open Go.RowKit Go.Proofs.YtbbemkdfbiffbaaW.PrintWords Go.Proofs.YtbbemkdfbiffbaaW.PrintLast Go.Proofs.YtbbemkdfbiffbaaW.PrintMore
attribute [local go_sem] max2_int min2_int max_two min_two max_three min_three max_four min_four   -- for this text's walks alone
set_option linter.unusedVariables false
set_option linter.unusedSimpArgs false

/-! ### pelotonlaw01_RoundPieces: function 11 -/
def pelotonlaw01_RoundPieces.j0 : Nat → List Int → List Int → Int → Bool → Option (Bool)
  | 0, _, _, _, _ => none
  | k + 1, x0, x1, x2, x20 => if x20 = true then ((pelotonlaw01_awake.f k).bind fun t125 => (some t125)) else (if (wrap64 ((mn (x0.length : Int) (x1.length : Int)) + 1)) = 0 then (none) else ((round_Dot.f k x0 x1).bind fun t126 => (if 0 ≤ (Int.tmod (wrap64 ((wrap64 ((Int.tmod x2 (wrap64 ((mn (x0.length : Int) (x1.length : Int)) + 1))) + (mn (x0.length : Int) (x1.length : Int)))) + 1)) (wrap64 ((mn (x0.length : Int) (x1.length : Int)) + 1))) then (if (Int.tmod (wrap64 ((wrap64 ((Int.tmod x2 (wrap64 ((mn (x0.length : Int) (x1.length : Int)) + 1))) + (mn (x0.length : Int) (x1.length : Int)))) + 1)) (wrap64 ((mn (x0.length : Int) (x1.length : Int)) + 1))) ≤ (x0.length : Int) then (if (Int.tmod (wrap64 ((wrap64 ((Int.tmod x2 (wrap64 ((mn (x0.length : Int) (x1.length : Int)) + 1))) + (mn (x0.length : Int) (x1.length : Int)))) + 1)) (wrap64 ((mn (x0.length : Int) (x1.length : Int)) + 1))) ≤ (x1.length : Int) then ((round_Dot.f k (x0.take ((Int.tmod (wrap64 ((wrap64 ((Int.tmod x2 (wrap64 ((mn (x0.length : Int) (x1.length : Int)) + 1))) + (mn (x0.length : Int) (x1.length : Int)))) + 1)) (wrap64 ((mn (x0.length : Int) (x1.length : Int)) + 1))) : Int).toNat) (x1.take ((Int.tmod (wrap64 ((wrap64 ((Int.tmod x2 (wrap64 ((mn (x0.length : Int) (x1.length : Int)) + 1))) + (mn (x0.length : Int) (x1.length : Int)))) + 1)) (wrap64 ((mn (x0.length : Int) (x1.length : Int)) + 1))) : Int).toNat)).bind fun t129 => (if (Int.tmod (wrap64 ((wrap64 ((Int.tmod x2 (wrap64 ((mn (x0.length : Int) (x1.length : Int)) + 1))) + (mn (x0.length : Int) (x1.length : Int)))) + 1)) (wrap64 ((mn (x0.length : Int) (x1.length : Int)) + 1))) ≤ (mn (x0.length : Int) (x1.length : Int)) then (if (mn (x0.length : Int) (x1.length : Int)) ≤ (x0.length : Int) then (if (mn (x0.length : Int) (x1.length : Int)) ≤ (x1.length : Int) then ((round_Dot.f k ((x0.take ((mn (x0.length : Int) (x1.length : Int)) : Int).toNat).drop ((Int.tmod (wrap64 ((wrap64 ((Int.tmod x2 (wrap64 ((mn (x0.length : Int) (x1.length : Int)) + 1))) + (mn (x0.length : Int) (x1.length : Int)))) + 1)) (wrap64 ((mn (x0.length : Int) (x1.length : Int)) + 1))) : Int).toNat) ((x1.take ((mn (x0.length : Int) (x1.length : Int)) : Int).toNat).drop ((Int.tmod (wrap64 ((wrap64 ((Int.tmod x2 (wrap64 ((mn (x0.length : Int) (x1.length : Int)) + 1))) + (mn (x0.length : Int) (x1.length : Int)))) + 1)) (wrap64 ((mn (x0.length : Int) (x1.length : Int)) + 1))) : Int).toNat)).bind fun t132 => ((round_Sum.f k (([t129, t132] : List Int))).bind fun t136 => (if t126 = t136 then ((round_Dot.f k x0 x1).bind fun t137 => ((round_Dot.f k x1 x0).bind fun t138 => (some (t137 == t138)))) else (some false)))) else (none)) else (none)) else (none))) else (none)) else (none)) else (none))))
def pelotonlaw01_RoundPieces.f (k : Nat) (l0 : List Int) (l1 : List Int) (a2 : Int) : Option (Bool) := (pelotonlaw01_awake.f k).bind fun t124 => (if t124 = true then (if (l0.length : Int) > 300 then (pelotonlaw01_RoundPieces.j0 k l0 l1 a2 true) else (pelotonlaw01_RoundPieces.j0 k l0 l1 a2 (decide ((l1.length : Int) > 300)))) else (pelotonlaw01_RoundPieces.j0 k l0 l1 a2 true))
theorem pelotonlaw01_RoundPieces.mono_l : ∀ k, (∀ y0 y1 y2 y3, LeO (pelotonlaw01_RoundPieces.j0 k y0 y1 y2 y3) (pelotonlaw01_RoundPieces.j0 (k + 1) y0 y1 y2 y3))
  | 0 => fun _ _ _ _ r h => by simp [pelotonlaw01_RoundPieces.j0] at h
  | k + 1 => by
    have ih0 := pelotonlaw01_RoundPieces.mono_l k
    · intro y0 y1 y2 y3
      unfold pelotonlaw01_RoundPieces.j0
      repeat' first
      | (with_reducible exact ih0 _ _ _ _)
      | (with_reducible exact pelotonlaw01_awake.mono _)
      | (with_reducible exact round_Dot.mono _ _ _)
      | (with_reducible exact round_Sum.mono _ _)
      | (with_reducible exact LeO.refl _)
      | (with_reducible exact LeO.none _)
      | (with_reducible refine LeO.ite ?_ ?_)
      | (with_reducible refine LeO.bind ?_ (fun _ => ?_))
      | exact ih0 _ _ _ _
      | exact pelotonlaw01_awake.mono _
      | exact round_Dot.mono _ _ _
      | exact round_Sum.mono _ _
      | exact LeO.none _
      | refine LeO.ite ?_ ?_
      | refine LeO.bind ?_ (fun _ => ?_)
theorem pelotonlaw01_RoundPieces.mono : ∀ a0 a1 a2 k, LeO (pelotonlaw01_RoundPieces.f k a0 a1 a2) (pelotonlaw01_RoundPieces.f (k + 1) a0 a1 a2) := by
  intro a0 a1 a2 k
  have ih0 := pelotonlaw01_RoundPieces.mono_l k
  unfold pelotonlaw01_RoundPieces.f
  repeat' first
      | (with_reducible exact ih0 _ _ _ _)
      | (with_reducible exact pelotonlaw01_awake.mono _)
      | (with_reducible exact round_Dot.mono _ _ _)
      | (with_reducible exact round_Sum.mono _ _)
      | (with_reducible exact LeO.refl _)
      | (with_reducible exact LeO.none _)
      | (with_reducible refine LeO.ite ?_ ?_)
      | (with_reducible refine LeO.bind ?_ (fun _ => ?_))
      | exact ih0 _ _ _ _
      | exact pelotonlaw01_awake.mono _
      | exact round_Dot.mono _ _ _
      | exact round_Sum.mono _ _
      | exact LeO.none _
      | refine LeO.ite ?_ ?_
      | refine LeO.bind ?_ (fun _ => ?_)
def pelotonlaw01_RoundPieces.T5 : Bool × List (List Nat × List Nat) := (true, [([], []), ([], []), ([0, 1], [0, 1]), ([], []), ([], []), ([3, 4], [3, 4]), ([], []), ([], []), ([6, 7], [6, 7]), ([5, 8, 2], [5, 8]), ([], []), ([], []), ([], []), ([10, 11, 12], [10, 11, 12]), ([], []), ([], []), ([], []), ([14, 15, 16], [14, 15, 16]), ([13, 17, 9], [13, 17]), ([9, 18], [9, 18]), ([19, 18], [19]), ([2, 20], [2, 20]), ([21, 20], [21]), ([22], [22]), ([22], [22]), ([23, 24, 22, 22], [22, 23, 24]), ([22], [22]), ([22], [22]), ([26, 27, 25, 22], [22, 26, 27]), ([25, 28, 22], [22, 25, 28]), ([22, 29], [22, 29]), ([30, 28, 0, 1, 2, 3, 4, 5, 6, 7, 8, 9, 10, 11, 12, 13, 14, 15, 16, 17, 18, 19, 20, 21, 22, 23, 24, 25, 26, 27, 28, 29, 30], [30])])
def pelotonlaw01_RoundPieces.B5 : List Nat := [0, 0, 3, 0, 0, 24, 0, 0, 192, 511, 0, 0, 0, 7168, 0, 0, 0, 114688, 262143, 524287, 1048575, 2097151, 4194303, 8388607, 8388607, 33554431, 8388607, 8388607, 268435455, 536870911, 1073741823, 2147483647]
theorem pelotonlaw01_RoundPieces.tab5 : rtab .any (opsOf Try.f11 5) = pelotonlaw01_RoundPieces.T5 := by kernel_rfl
theorem pelotonlaw01_RoundPieces.bits5 : waitsOk pelotonlaw01_RoundPieces.T5.2 pelotonlaw01_RoundPieces.B5 = true := by kernel_rfl
set_option maxHeartbeats 8000000 in
set_option maxRecDepth 100000 in
theorem pelotonlaw01_RoundPieces.calls (k : Nat) (A0 : Option Addr) (c0 : Nat) (l0 : List Int) (A1 : Option Addr) (c1 : Nat) (l1 : List Int) (a2 : Int) (r : Bool) (w : World) (hr0 : Kd.C (Kd.int .i8) w A0 l0.length l0) (hc0 : l0.length ≤ c0) (hr1 : Kd.C (Kd.int .i8) w A1 l1.length l1) (hc1 : l1.length ≤ c1) (h : pelotonlaw01_RoundPieces.f k l0 l1 a2 = some r) :
    Calls Try.prog 11 #[.slice A0 l0.length c0, .slice A1 l1.length c1, .int .i64 a2] w fun e w' => e = .returned (.bool r) ∧ Below w.heap.size w w' := by
  have HR0 := Aside0.mk hr0
  have HC0 := Aside0.mk hc0
  clear hr0 hc0
  have HR1 := Aside0.mk hr1
  have HC1 := Aside0.mk hc1
  clear hr1 hc1
  have HB := Aside0.mk (Below.refl w.heap.size w)
  have H : ((pelotonlaw01_awake.f k).bind fun t124 => (if t124 = true then (if (l0.length : Int) > 300 then (pelotonlaw01_RoundPieces.j0 k l0 l1 a2 true) else (pelotonlaw01_RoundPieces.j0 k l0 l1 a2 (decide ((l1.length : Int) > 300)))) else (pelotonlaw01_RoundPieces.j0 k l0 l1 a2 true))) = some r := h
  clear h
  have HC4 := Aside0.mk H
  clear H
  go_enter Try.func11, Try.ntmps11
  go_upto_region 1 with (fail)
  go_cut [20] (fun v20 wc => ∃ (kq : Nat) (x20_3 : Bool), v20 = .bool x20_3 ∧ Aside0 (pelotonlaw01_RoundPieces.j0 kq l0 l1 a2 x20_3 = some r) ∧ Aside0 (kq ≤ k) ∧ Aside0 (Below w.heap.size w wc))
  case first =>
    have H := HC4.out
    clear HC4
    replace H := Option.bind_eq_some_iff.mp H
    obtain ⟨t124, A50, H⟩ := H
    replace H : (if t124 = true then (if (l0.length : Int) > 300 then (pelotonlaw01_RoundPieces.j0 k l0 l1 a2 true) else (pelotonlaw01_RoundPieces.j0 k l0 l1 a2 (decide ((l1.length : Int) > 300)))) else (pelotonlaw01_RoundPieces.j0 k l0 l1 a2 true)) = some r := H
    have A5 := Aside0.mk A50
    clear A50
    by_cases c6 : t124 = true
    · subst c6
      have H1 : (if (l0.length : Int) > 300 then (pelotonlaw01_RoundPieces.j0 k l0 l1 a2 true) else (pelotonlaw01_RoundPieces.j0 k l0 l1 a2 (decide ((l1.length : Int) > 300)))) = some r := by rw [if_pos rfl] at H; exact H
      clear H
      have H := H1
      clear H1
      by_cases c7 : (l0.length : Int) > 300
      · rw [if_pos c7] at H
        have c7b0 : decide (300 < (l0.length : Int)) = true := decide_eq_true c7
        have c7b1 : decide (300 < l0.length) = true := decide_eq_true (by omega)
        clear c7
        (first | rw [c7b0] | (simp only [i64_w, i32_w]; rw [c7b0]) | skip)
        have H' := Aside0.mk H
        clear H
        go_wp2_with (first | ((with_reducible refine gate_callee (f := 12) rfl ?_); refine goesL_ (some 9) rfl rfl Try.func12 (by kernel_rfl) rfl #[] rfl (by (try simp only [List.map_toArray, List.map_cons, List.map_nil]); first | done | rfl | (simp only [List.length_drop, List.length_take]; rfl)) ?_; (with_reducible refine (pelotonlaw01_awake.calls k  true _ A5.out).mono ?_); rintro e w8 ⟨rfl, hb⟩; refine ⟨_, rfl, ?_⟩; have n0_ := Aside0.mk (below_step (by repeat (first | (with_reducible first | exact HB.out | apply below_alloc | apply pw_below_drewN | apply below_drew1) | exact HB.out)) hb); clear HB; have HB := n0_; clear n0_; (try clear hb); (try clear hb2); (try clear hk); (try clear hi)))
        go_meet
        case rel => exact ⟨_, (true), (by first | rfl | (simp; done) | (simp [*]; done)), H', ⟨by first | omega | exact Nat.le_refl _⟩, ⟨by repeat (first | (with_reducible first | exact HB.out | apply below_alloc | apply pw_below_drewN | apply below_drew1) | exact HB.out)⟩⟩
      · rw [if_neg c7] at H
        have c7b0 : decide (300 < (l0.length : Int)) = false := decide_eq_false c7
        have c7b1 : decide (300 < l0.length) = false := decide_eq_false (by omega)
        clear c7
        (first | rw [c7b0] | (simp only [i64_w, i32_w]; rw [c7b0]) | skip)
        have H' := Aside0.mk H
        clear H
        go_wp2_with (first | ((with_reducible refine gate_callee (f := 12) rfl ?_); refine goesL_ (some 9) rfl rfl Try.func12 (by kernel_rfl) rfl #[] rfl (by (try simp only [List.map_toArray, List.map_cons, List.map_nil]); first | done | rfl | (simp only [List.length_drop, List.length_take]; rfl)) ?_; (with_reducible refine (pelotonlaw01_awake.calls k  true _ A5.out).mono ?_); rintro e w9 ⟨rfl, hb⟩; refine ⟨_, rfl, ?_⟩; have n0_ := Aside0.mk (below_step (by repeat (first | (with_reducible first | exact HB.out | apply below_alloc | apply pw_below_drewN | apply below_drew1) | exact HB.out)) hb); clear HB; have HB := n0_; clear n0_; (try clear hb); (try clear hb2); (try clear hk); (try clear hi)))
        go_meet
        case rel => exact ⟨_, (decide ((l1.length : Int) > 300)), (by first | rfl | (simp; done) | (simp [*]; done)), H', ⟨by first | omega | exact Nat.le_refl _⟩, ⟨by repeat (first | (with_reducible first | exact HB.out | apply below_alloc | apply pw_below_drewN | apply below_drew1) | exact HB.out)⟩⟩
    · replace c6 := Bool.eq_false_iff.mpr c6
      subst c6
      have H1 : (pelotonlaw01_RoundPieces.j0 k l0 l1 a2 true) = some r := by rw [if_neg (show ¬ (false = true) by decide)] at H; exact H
      clear H
      have H := H1
      clear H1
      have H' := Aside0.mk H
      clear H
      go_wp2_with (first | ((with_reducible refine gate_callee (f := 12) rfl ?_); refine goesL_ (some 9) rfl rfl Try.func12 (by kernel_rfl) rfl #[] rfl (by (try simp only [List.map_toArray, List.map_cons, List.map_nil]); first | done | rfl | (simp only [List.length_drop, List.length_take]; rfl)) ?_; (with_reducible refine (pelotonlaw01_awake.calls k  false _ A5.out).mono ?_); rintro e w10 ⟨rfl, hb⟩; refine ⟨_, rfl, ?_⟩; have n0_ := Aside0.mk (below_step (by repeat (first | (with_reducible first | exact HB.out | apply below_alloc | apply pw_below_drewN | apply below_drew1) | exact HB.out)) hb); clear HB; have HB := n0_; clear n0_; (try clear hb); (try clear hb2); (try clear hk); (try clear hi)))
      go_meet
      case rel => exact ⟨_, (true), (by first | rfl | (simp; done) | (simp [*]; done)), H', ⟨by first | omega | exact Nat.le_refl _⟩, ⟨by repeat (first | (with_reducible first | exact HB.out | apply below_alloc | apply pw_below_drewN | apply below_drew1) | exact HB.out)⟩⟩
  case rest =>
    clear HC4
    try clear c1
    try clear p2
    try clear c6
    try clear c7
    try clear c7b0
    try clear c7b1
    obtain ⟨kq, x20_3, rfl, HA, HJ3, HB⟩ := hcut
    cases kq with
    | zero => exact absurd HA.out (by simp [pelotonlaw01_RoundPieces.j0])
    | succ kj3 =>
      have H := HA.out
      clear HA
      simp only [pelotonlaw01_RoundPieces.j0] at H
      by_cases c11 : x20_3 = true
      · subst c11
        have H1 : ((pelotonlaw01_awake.f kj3).bind fun t125 => (some t125)) = some r := by rw [if_pos rfl] at H; exact H
        clear H
        have H := H1
        clear H1
        replace H := Option.bind_eq_some_iff.mp H
        obtain ⟨t125, A120, H⟩ := H
        replace H : (some t125) = some r := H
        have A12 := Aside0.mk A120
        clear A120
        obtain rfl := Option.some.inj H
        go_wp2_with (first | ((with_reducible refine gate_callee (f := 12) rfl ?_); refine goesL_ (some 21) rfl rfl Try.func12 (by kernel_rfl) rfl #[] rfl (by (try simp only [List.map_toArray, List.map_cons, List.map_nil]); first | done | rfl | (simp only [List.length_drop, List.length_take]; rfl)) ?_; (with_reducible refine (pelotonlaw01_awake.calls kj3  t125 _ A12.out).mono ?_); rintro e w13 ⟨rfl, hb⟩; refine ⟨_, rfl, ?_⟩; have n0_ := Aside0.mk (below_step (by repeat (first | (with_reducible first | exact HB.out | apply below_alloc | apply pw_below_drewN | apply below_drew1) | exact HB.out)) hb); clear HB; have HB := n0_; clear n0_; (try clear hb); (try clear hb2); (try clear hk); (try clear hi)))
        go_ret
        exact ⟨by first | rfl | (simp [errW_none, errW_some] <;> rfl) | (simp [*, errW_none, errW_some] <;> rfl), by repeat (first | (with_reducible first | exact HB.out | apply below_alloc | apply pw_below_drewN | apply below_drew1) | exact HB.out)⟩
      · replace c11 := Bool.eq_false_iff.mpr c11
        subst c11
        have H1 : (if (wrap64 ((mn (l0.length : Int) (l1.length : Int)) + 1)) = 0 then (none) else ((round_Dot.f kj3 l0 l1).bind fun t126 => (if 0 ≤ (Int.tmod (wrap64 ((wrap64 ((Int.tmod a2 (wrap64 ((mn (l0.length : Int) (l1.length : Int)) + 1))) + (mn (l0.length : Int) (l1.length : Int)))) + 1)) (wrap64 ((mn (l0.length : Int) (l1.length : Int)) + 1))) then (if (Int.tmod (wrap64 ((wrap64 ((Int.tmod a2 (wrap64 ((mn (l0.length : Int) (l1.length : Int)) + 1))) + (mn (l0.length : Int) (l1.length : Int)))) + 1)) (wrap64 ((mn (l0.length : Int) (l1.length : Int)) + 1))) ≤ (l0.length : Int) then (if (Int.tmod (wrap64 ((wrap64 ((Int.tmod a2 (wrap64 ((mn (l0.length : Int) (l1.length : Int)) + 1))) + (mn (l0.length : Int) (l1.length : Int)))) + 1)) (wrap64 ((mn (l0.length : Int) (l1.length : Int)) + 1))) ≤ (l1.length : Int) then ((round_Dot.f kj3 (l0.take ((Int.tmod (wrap64 ((wrap64 ((Int.tmod a2 (wrap64 ((mn (l0.length : Int) (l1.length : Int)) + 1))) + (mn (l0.length : Int) (l1.length : Int)))) + 1)) (wrap64 ((mn (l0.length : Int) (l1.length : Int)) + 1))) : Int).toNat) (l1.take ((Int.tmod (wrap64 ((wrap64 ((Int.tmod a2 (wrap64 ((mn (l0.length : Int) (l1.length : Int)) + 1))) + (mn (l0.length : Int) (l1.length : Int)))) + 1)) (wrap64 ((mn (l0.length : Int) (l1.length : Int)) + 1))) : Int).toNat)).bind fun t129 => (if (Int.tmod (wrap64 ((wrap64 ((Int.tmod a2 (wrap64 ((mn (l0.length : Int) (l1.length : Int)) + 1))) + (mn (l0.length : Int) (l1.length : Int)))) + 1)) (wrap64 ((mn (l0.length : Int) (l1.length : Int)) + 1))) ≤ (mn (l0.length : Int) (l1.length : Int)) then (if (mn (l0.length : Int) (l1.length : Int)) ≤ (l0.length : Int) then (if (mn (l0.length : Int) (l1.length : Int)) ≤ (l1.length : Int) then ((round_Dot.f kj3 ((l0.take ((mn (l0.length : Int) (l1.length : Int)) : Int).toNat).drop ((Int.tmod (wrap64 ((wrap64 ((Int.tmod a2 (wrap64 ((mn (l0.length : Int) (l1.length : Int)) + 1))) + (mn (l0.length : Int) (l1.length : Int)))) + 1)) (wrap64 ((mn (l0.length : Int) (l1.length : Int)) + 1))) : Int).toNat) ((l1.take ((mn (l0.length : Int) (l1.length : Int)) : Int).toNat).drop ((Int.tmod (wrap64 ((wrap64 ((Int.tmod a2 (wrap64 ((mn (l0.length : Int) (l1.length : Int)) + 1))) + (mn (l0.length : Int) (l1.length : Int)))) + 1)) (wrap64 ((mn (l0.length : Int) (l1.length : Int)) + 1))) : Int).toNat)).bind fun t132 => ((round_Sum.f kj3 (([t129, t132] : List Int))).bind fun t136 => (if t126 = t136 then ((round_Dot.f kj3 l0 l1).bind fun t137 => ((round_Dot.f kj3 l1 l0).bind fun t138 => (some (t137 == t138)))) else (some false)))) else (none)) else (none)) else (none))) else (none)) else (none)) else (none)))) = some r := by rw [if_neg (show ¬ (false = true) by decide)] at H; exact H
        clear H
        have H := H1
        clear H1
        obtain ⟨ji14, hji14⟩ : ∃ j_ : Int, (mn (l0.length : Int) (l1.length : Int)) = j_ := ⟨_, rfl⟩
        replace H : (if (wrap64 ((ji14) + 1)) = 0 then (none) else ((round_Dot.f kj3 l0 l1).bind fun t126 => (if 0 ≤ (Int.tmod (wrap64 ((wrap64 ((Int.tmod a2 (wrap64 ((ji14) + 1))) + (ji14))) + 1)) (wrap64 ((ji14) + 1))) then (if (Int.tmod (wrap64 ((wrap64 ((Int.tmod a2 (wrap64 ((ji14) + 1))) + (ji14))) + 1)) (wrap64 ((ji14) + 1))) ≤ (l0.length : Int) then (if (Int.tmod (wrap64 ((wrap64 ((Int.tmod a2 (wrap64 ((ji14) + 1))) + (ji14))) + 1)) (wrap64 ((ji14) + 1))) ≤ (l1.length : Int) then ((round_Dot.f kj3 (l0.take ((Int.tmod (wrap64 ((wrap64 ((Int.tmod a2 (wrap64 ((ji14) + 1))) + (ji14))) + 1)) (wrap64 ((ji14) + 1))) : Int).toNat) (l1.take ((Int.tmod (wrap64 ((wrap64 ((Int.tmod a2 (wrap64 ((ji14) + 1))) + (ji14))) + 1)) (wrap64 ((ji14) + 1))) : Int).toNat)).bind fun t129 => (if (Int.tmod (wrap64 ((wrap64 ((Int.tmod a2 (wrap64 ((ji14) + 1))) + (ji14))) + 1)) (wrap64 ((ji14) + 1))) ≤ (ji14) then (if (ji14) ≤ (l0.length : Int) then (if (ji14) ≤ (l1.length : Int) then ((round_Dot.f kj3 ((l0.take ((ji14) : Int).toNat).drop ((Int.tmod (wrap64 ((wrap64 ((Int.tmod a2 (wrap64 ((ji14) + 1))) + (ji14))) + 1)) (wrap64 ((ji14) + 1))) : Int).toNat) ((l1.take ((ji14) : Int).toNat).drop ((Int.tmod (wrap64 ((wrap64 ((Int.tmod a2 (wrap64 ((ji14) + 1))) + (ji14))) + 1)) (wrap64 ((ji14) + 1))) : Int).toNat)).bind fun t132 => ((round_Sum.f kj3 (([t129, t132] : List Int))).bind fun t136 => (if t126 = t136 then ((round_Dot.f kj3 l0 l1).bind fun t137 => ((round_Dot.f kj3 l1 l0).bind fun t138 => (some (t137 == t138)))) else (some false)))) else (none)) else (none)) else (none))) else (none)) else (none)) else (none)))) = some r := by first | (rw [hji14] at H; exact H) | (simp only [hji14] at H ⊢; exact H)
        (try (have hji14l : 0 ≤ ji14 := by (rw [← hji14]; unfold mn; (repeat' split) <;> omega)))
        (try (have hji14m : 0 ≤ ji14 := by omega))
        have hji14_ : (if (l1.length : Int) < (l0.length : Int) then (l1.length : Int) else (l0.length : Int)) = ji14 := hji14
        have hji14n : (if l1.length < l0.length then (l1.length : Int) else (l0.length : Int)) = ji14 := by rw [← hji14]; unfold mn; (repeat' split) <;> omega
        by_cases c15 : (wrap64 ((ji14) + 1)) = 0
        · rw [if_pos c15] at H
          exact absurd H (by simp)
        · rw [if_neg c15] at H
          have c15b0 : ((wrap64 ((ji14) + 1)) == 0) = false := beq_eq_false_iff_ne.mpr c15
          have c15b1 : ((wrap64 ((ji14) + 1)) != 0) = true := bne_iff_ne.mpr c15
          replace H := Option.bind_eq_some_iff.mp H
          obtain ⟨t126, A160, H⟩ := H
          replace H : (if 0 ≤ (Int.tmod (wrap64 ((wrap64 ((Int.tmod a2 (wrap64 ((ji14) + 1))) + (ji14))) + 1)) (wrap64 ((ji14) + 1))) then (if (Int.tmod (wrap64 ((wrap64 ((Int.tmod a2 (wrap64 ((ji14) + 1))) + (ji14))) + 1)) (wrap64 ((ji14) + 1))) ≤ (l0.length : Int) then (if (Int.tmod (wrap64 ((wrap64 ((Int.tmod a2 (wrap64 ((ji14) + 1))) + (ji14))) + 1)) (wrap64 ((ji14) + 1))) ≤ (l1.length : Int) then ((round_Dot.f kj3 (l0.take ((Int.tmod (wrap64 ((wrap64 ((Int.tmod a2 (wrap64 ((ji14) + 1))) + (ji14))) + 1)) (wrap64 ((ji14) + 1))) : Int).toNat) (l1.take ((Int.tmod (wrap64 ((wrap64 ((Int.tmod a2 (wrap64 ((ji14) + 1))) + (ji14))) + 1)) (wrap64 ((ji14) + 1))) : Int).toNat)).bind fun t129 => (if (Int.tmod (wrap64 ((wrap64 ((Int.tmod a2 (wrap64 ((ji14) + 1))) + (ji14))) + 1)) (wrap64 ((ji14) + 1))) ≤ (ji14) then (if (ji14) ≤ (l0.length : Int) then (if (ji14) ≤ (l1.length : Int) then ((round_Dot.f kj3 ((l0.take ((ji14) : Int).toNat).drop ((Int.tmod (wrap64 ((wrap64 ((Int.tmod a2 (wrap64 ((ji14) + 1))) + (ji14))) + 1)) (wrap64 ((ji14) + 1))) : Int).toNat) ((l1.take ((ji14) : Int).toNat).drop ((Int.tmod (wrap64 ((wrap64 ((Int.tmod a2 (wrap64 ((ji14) + 1))) + (ji14))) + 1)) (wrap64 ((ji14) + 1))) : Int).toNat)).bind fun t132 => ((round_Sum.f kj3 (([t129, t132] : List Int))).bind fun t136 => (if t126 = t136 then ((round_Dot.f kj3 l0 l1).bind fun t137 => ((round_Dot.f kj3 l1 l0).bind fun t138 => (some (t137 == t138)))) else (some false)))) else (none)) else (none)) else (none))) else (none)) else (none)) else (none)) = some r := H
          have A16 := Aside0.mk A160
          clear A160
          obtain ⟨ji17, hji17⟩ : ∃ j_ : Int, (Int.tmod (wrap64 ((wrap64 ((Int.tmod a2 (wrap64 ((ji14) + 1))) + (ji14))) + 1)) (wrap64 ((ji14) + 1))) = j_ := ⟨_, rfl⟩
          replace H : (if 0 ≤ (ji17) then (if (ji17) ≤ (l0.length : Int) then (if (ji17) ≤ (l1.length : Int) then ((round_Dot.f kj3 (l0.take ((ji17) : Int).toNat) (l1.take ((ji17) : Int).toNat)).bind fun t129 => (if (ji17) ≤ (ji14) then (if (ji14) ≤ (l0.length : Int) then (if (ji14) ≤ (l1.length : Int) then ((round_Dot.f kj3 ((l0.take ((ji14) : Int).toNat).drop ((ji17) : Int).toNat) ((l1.take ((ji14) : Int).toNat).drop ((ji17) : Int).toNat)).bind fun t132 => ((round_Sum.f kj3 (([t129, t132] : List Int))).bind fun t136 => (if t126 = t136 then ((round_Dot.f kj3 l0 l1).bind fun t137 => ((round_Dot.f kj3 l1 l0).bind fun t138 => (some (t137 == t138)))) else (some false)))) else (none)) else (none)) else (none))) else (none)) else (none)) else (none)) = some r := by first | (rw [hji17] at H; exact H) | (simp only [hji17] at H ⊢; exact H)
          (try rw [hji17] at A16)
          by_cases c18 : 0 ≤ (ji17)
          · rw [if_pos c18] at H
            have c18b0 := eq_true c18
            have c18b1 : decide (0 ≤ (ji17)) = true := decide_eq_true c18
            clear c18
            by_cases c19 : (ji17) ≤ (l0.length : Int)
            · rw [if_pos c19] at H
              have c19b0 := eq_true c19
              have c19b1 : decide ((ji17) ≤ (l0.length : Int)) = true := decide_eq_true c19
              clear c19
              have c20b0 := eq_true (of_decide_eq_true (by first | (with_reducible assumption) | assumption) : 0 ≤ (ji17))
              by_cases c21 : (ji17) ≤ (l1.length : Int)
              · rw [if_pos c21] at H
                have c21b0 := eq_true c21
                have c21b1 : decide ((ji17) ≤ (l1.length : Int)) = true := decide_eq_true c21
                clear c21
                replace H := Option.bind_eq_some_iff.mp H
                obtain ⟨t129, A220, H⟩ := H
                replace H : (if (ji17) ≤ (ji14) then (if (ji14) ≤ (l0.length : Int) then (if (ji14) ≤ (l1.length : Int) then ((round_Dot.f kj3 ((l0.take ((ji14) : Int).toNat).drop ((ji17) : Int).toNat) ((l1.take ((ji14) : Int).toNat).drop ((ji17) : Int).toNat)).bind fun t132 => ((round_Sum.f kj3 (([t129, t132] : List Int))).bind fun t136 => (if t126 = t136 then ((round_Dot.f kj3 l0 l1).bind fun t137 => ((round_Dot.f kj3 l1 l0).bind fun t138 => (some (t137 == t138)))) else (some false)))) else (none)) else (none)) else (none)) = some r := H
                have A22 := Aside0.mk A220
                clear A220
                have c23b0 := eq_true (of_decide_eq_true (by first | (with_reducible assumption) | assumption) : 0 ≤ (ji17))
                by_cases c24 : (ji17) ≤ (ji14)
                · rw [if_pos c24] at H
                  have c24b0 := eq_true c24
                  have c24b1 : decide ((ji17) ≤ (ji14)) = true := decide_eq_true c24
                  clear c24
                  by_cases c25 : (ji14) ≤ (l0.length : Int)
                  · rw [if_pos c25] at H
                    have c25b0 := eq_true c25
                    have c25b1 : decide ((ji14) ≤ (l0.length : Int)) = true := decide_eq_true c25
                    clear c25
                    have c26b0 := eq_true (of_decide_eq_true (by first | (with_reducible assumption) | assumption) : 0 ≤ (ji17))
                    have c27b0 := eq_true (of_decide_eq_true (by first | (with_reducible assumption) | assumption) : (ji17) ≤ (ji14))
                    by_cases c28 : (ji14) ≤ (l1.length : Int)
                    · rw [if_pos c28] at H
                      have c28b0 := eq_true c28
                      have c28b1 : decide ((ji14) ≤ (l1.length : Int)) = true := decide_eq_true c28
                      clear c28
                      replace H := Option.bind_eq_some_iff.mp H
                      obtain ⟨t132, A290, H⟩ := H
                      replace H : ((round_Sum.f kj3 (([t129, t132] : List Int))).bind fun t136 => (if t126 = t136 then ((round_Dot.f kj3 l0 l1).bind fun t137 => ((round_Dot.f kj3 l1 l0).bind fun t138 => (some (t137 == t138)))) else (some false))) = some r := H
                      have A29 := Aside0.mk A290
                      clear A290
                      obtain ⟨y133, hy133⟩ : ∃ y_ : List Int, y_ = (([t129, t132] : List Int)) := ⟨_, rfl⟩
                      replace H : ((round_Sum.f kj3 y133).bind fun t136 => (if t126 = t136 then ((round_Dot.f kj3 l0 l1).bind fun t137 => ((round_Dot.f kj3 l1 l0).bind fun t138 => (some (t137 == t138)))) else (some false))) = some r := by first | (rw [hy133]; with_reducible exact H) | (have H2_ := (Option.bind_some _ _).symm.trans H; rw [hy133]; with_reducible exact H2_) | (have H2_ := (Option.bind_some _ _).symm.trans H; with_reducible exact H2_) | with_reducible exact H | (rw [hy133]; exact H) | exact H
                      have Ny133 := Aside0.mk hy133
                      clear hy133
                      replace H := Option.bind_eq_some_iff.mp H
                      obtain ⟨t136, A300, H⟩ := H
                      replace H : (if t126 = t136 then ((round_Dot.f kj3 l0 l1).bind fun t137 => ((round_Dot.f kj3 l1 l0).bind fun t138 => (some (t137 == t138)))) else (some false)) = some r := H
                      have A30 := Aside0.mk A300
                      clear A300
                      by_cases c31 : t126 = t136
                      · rw [if_pos c31] at H
                        have c31b0 : (t126 == t136) = true := beq_iff_eq.mpr c31
                        have c31b1 : (t126 != t136) = false := bne_eq_false_iff_eq.mpr c31
                        clear c31
                        replace H := Option.bind_eq_some_iff.mp H
                        obtain ⟨t137, A320, H⟩ := H
                        replace H : ((round_Dot.f kj3 l1 l0).bind fun t138 => (some (t137 == t138))) = some r := H
                        have A32 := Aside0.mk A320
                        clear A320
                        replace H := Option.bind_eq_some_iff.mp H
                        obtain ⟨t138, A330, H⟩ := H
                        replace H : (some (t137 == t138)) = some r := H
                        have A33 := Aside0.mk A330
                        clear A330
                        obtain rfl := Option.some.inj H
                        try go_wp2
                        have n0_ := Aside0.mk (below_drew1 HB.out)
                        clear HB
                        have HB := n0_
                        clear n0_
                        obtain ⟨i035, hi035, _, hsz35, _⟩ := info_parts info26
                        obtain ⟨hcut35, hA35, hC35⟩ := print_take_of (P := Try.prog) (Value.int .i8) 0 39 26 .i64 Try.underlying39 hi035 hsz35 A0 c0 l0 (ji17) (of_decide_eq_true (by first | (with_reducible assumption) | assumption)) (of_decide_eq_true (by first | (with_reducible assumption) | assumption)) HC0.out
                        have HR127 := Aside0.mk (Kd.C_of_reads (h1 := fun _ => rfl) (hA35 _ (Kd.reads_of_C HR0.out)))
                        have HC127 := Aside0.mk hC35
                        clear hA35 hC35 hi035 hsz35
                        obtain ⟨i036, hi036, _, hsz36, _⟩ := info_parts info26
                        obtain ⟨hcut36, hA36, hC36⟩ := print_take_of (P := Try.prog) (Value.int .i8) 0 39 26 .i64 Try.underlying39 hi036 hsz36 A1 c1 l1 (ji17) (of_decide_eq_true (by first | (with_reducible assumption) | assumption)) (of_decide_eq_true (by first | (with_reducible assumption) | assumption)) HC1.out
                        have HR128 := Aside0.mk (Kd.C_of_reads (h1 := fun _ => rfl) (hA36 _ (Kd.reads_of_C HR1.out)))
                        have HC128 := Aside0.mk hC36
                        clear hA36 hC36 hi036 hsz36
                        obtain ⟨i037, hi037, _, hsz37, _⟩ := info_parts info26
                        obtain ⟨A37, hcut37, hA37, hC37⟩ := print_mid_of (P := Try.prog) (Value.int .i8) 0 39 26 .i64 .i64 Try.underlying39 hi037 hsz37 A0 c0 l0 (ji17) (ji14) (of_decide_eq_true (by first | (with_reducible assumption) | assumption)) (by first | omega | exact of_decide_eq_true (by first | (with_reducible assumption) | assumption)) (of_decide_eq_true (by first | (with_reducible assumption) | assumption)) HC0.out
                        have HR130 := Aside0.mk (Kd.C_of_reads (h1 := fun _ => rfl) (hA37 _ (Kd.reads_of_C HR0.out)))
                        have HC130 := Aside0.mk hC37
                        clear hA37 hC37 hi037 hsz37
                        obtain ⟨i038, hi038, _, hsz38, _⟩ := info_parts info26
                        obtain ⟨A38, hcut38, hA38, hC38⟩ := print_mid_of (P := Try.prog) (Value.int .i8) 0 39 26 .i64 .i64 Try.underlying39 hi038 hsz38 A1 c1 l1 (ji17) (ji14) (of_decide_eq_true (by first | (with_reducible assumption) | assumption)) (by first | omega | exact of_decide_eq_true (by first | (with_reducible assumption) | assumption)) (of_decide_eq_true (by first | (with_reducible assumption) | assumption)) HC1.out
                        have HR131 := Aside0.mk (Kd.C_of_reads (h1 := fun _ => rfl) (hA38 _ (Kd.reads_of_C HR1.out)))
                        have HC131 := Aside0.mk hC38
                        clear hA38 hC38 hi038 hsz38
                        refine start_ (n := 32) (S := fun w' => True) (ds := []) #[false, false, false, false, false, false, false, false, false, false, false, false, false, false, false, false, false, false, false, false, false, false, false, false, false, false, false, false, false, false, false, false] (by kernel_rfl) rfl rfl trivial (fun hHeld => ?_); refine with_tabW pelotonlaw01_RoundPieces.tab5 pelotonlaw01_RoundPieces.bits5 (fun HT_ HW_ => ?_)
                        generalize wc.drew = w34 at HB HR127 HR128 HR130 HR131 hHeld ⊢
                        refine pure_ (i := 0) (N := some 37) (v := ?_) (a' := ?_) #[true, false, false, false, false, false, false, false, false, false, false, false, false, false, false, false, false, false, false, false, false, false, false, false, false, false, false, false, false, false, false, false] rfl rfl (any_of HT_.out (by kernel_rfl)) (fun _ _ _ h => h) (Or.inl ⟨by rfl, ?_⟩) ?_ ?_
                        rotate_left
                        · intro w'
                          go_simp
                          with_reducible rfl
                        rotate_left
                        · simp only [Act.put, List.setIfInBounds_toArray, List.set_cons_zero, List.set_cons_succ, i64_w, i32_w]
                          rfl
                        refine pure_ (i := 1) (N := some 38) (v := ?_) (a' := ?_) #[true, true, false, false, false, false, false, false, false, false, false, false, false, false, false, false, false, false, false, false, false, false, false, false, false, false, false, false, false, false, false, false] rfl rfl (any_of HT_.out (by kernel_rfl)) (fun _ _ _ h => h) (Or.inl ⟨by rfl, ?_⟩) ?_ ?_
                        rotate_left
                        · intro w'
                          go_simp
                          with_reducible rfl
                        rotate_left
                        · simp only [Act.put, List.setIfInBounds_toArray, List.set_cons_zero, List.set_cons_succ, i64_w, i32_w]
                          rfl
                        refine pure_ (i := 3) (N := some 40) (v := ?_) (a' := ?_) #[true, true, false, true, false, false, false, false, false, false, false, false, false, false, false, false, false, false, false, false, false, false, false, false, false, false, false, false, false, false, false, false] rfl rfl (any_of HT_.out (by kernel_rfl)) (fun _ _ _ h => h) (Or.inl ⟨by rfl, ?_⟩) ?_ ?_
                        rotate_left
                        · intro w'
                          go_simp
                          with_reducible rfl
                        rotate_left
                        · simp only [Act.put, List.setIfInBounds_toArray, List.set_cons_zero, List.set_cons_succ, i64_w, i32_w]
                          rfl
                        refine pure_ (i := 4) (N := some 41) (v := ?_) (a' := ?_) #[true, true, false, true, true, false, false, false, false, false, false, false, false, false, false, false, false, false, false, false, false, false, false, false, false, false, false, false, false, false, false, false] rfl rfl (any_of HT_.out (by kernel_rfl)) (fun _ _ _ h => h) (Or.inl ⟨by rfl, ?_⟩) ?_ ?_
                        rotate_left
                        · intro w'
                          go_simp
                          with_reducible rfl
                        rotate_left
                        · simp only [Act.put, List.setIfInBounds_toArray, List.set_cons_zero, List.set_cons_succ, i64_w, i32_w]
                          rfl
                        refine pure_ (i := 5) (N := some 42) (v := ?_) (a' := ?_) #[true, true, false, true, true, true, false, false, false, false, false, false, false, false, false, false, false, false, false, false, false, false, false, false, false, false, false, false, false, false, false, false] rfl rfl (any_of HT_.out (by kernel_rfl)) (fun _ _ _ h => h) (Or.inl ⟨by rfl, ?_⟩) ?_ ?_
                        rotate_left
                        · intro w'
                          go_simp
                          with_reducible rfl
                        rotate_left
                        · simp only [Act.put, List.setIfInBounds_toArray, List.set_cons_zero, List.set_cons_succ, i64_w, i32_w]
                          rfl
                        refine pure_ (i := 6) (N := some 43) (v := ?_) (a' := ?_) #[true, true, false, true, true, true, true, false, false, false, false, false, false, false, false, false, false, false, false, false, false, false, false, false, false, false, false, false, false, false, false, false] rfl rfl (any_of HT_.out (by kernel_rfl)) (fun _ _ _ h => h) (Or.inl ⟨by rfl, ?_⟩) ?_ ?_
                        rotate_left
                        · intro w'
                          go_simp
                          with_reducible rfl
                        rotate_left
                        · simp only [Act.put, List.setIfInBounds_toArray, List.set_cons_zero, List.set_cons_succ, i64_w, i32_w]
                          rfl
                        refine pure_ (i := 7) (N := some 44) (v := ?_) (a' := ?_) #[true, true, false, true, true, true, true, true, false, false, false, false, false, false, false, false, false, false, false, false, false, false, false, false, false, false, false, false, false, false, false, false] rfl rfl (any_of HT_.out (by kernel_rfl)) (fun _ _ _ h => h) (Or.inl ⟨by rfl, ?_⟩) ?_ ?_
                        rotate_left
                        · intro w'
                          go_simp
                          with_reducible rfl
                        rotate_left
                        · simp only [Act.put, List.setIfInBounds_toArray, List.set_cons_zero, List.set_cons_succ, i64_w, i32_w]
                          rfl
                        refine pure_ (i := 8) (N := some 45) (v := ?_) (a' := ?_) #[true, true, false, true, true, true, true, true, true, false, false, false, false, false, false, false, false, false, false, false, false, false, false, false, false, false, false, false, false, false, false, false] rfl rfl (any_of HT_.out (by kernel_rfl)) (fun _ _ _ h => h) (Or.inl ⟨by rfl, ?_⟩) ?_ ?_
                        rotate_left
                        · intro w'
                          go_simp
                          with_reducible rfl
                        rotate_left
                        · simp only [Act.put, List.setIfInBounds_toArray, List.set_cons_zero, List.set_cons_succ, i64_w, i32_w]
                          rfl
                        refine pure_ (i := 10) (N := some 47) (v := ?_) (a' := ?_) #[true, true, false, true, true, true, true, true, true, false, true, false, false, false, false, false, false, false, false, false, false, false, false, false, false, false, false, false, false, false, false, false] rfl rfl (any_of HT_.out (by kernel_rfl)) (fun _ _ _ h => h) (Or.inl ⟨by rfl, ?_⟩) ?_ ?_
                        rotate_left
                        · intro w'
                          go_simp
                          with_reducible rfl
                        rotate_left
                        · simp only [Act.put, List.setIfInBounds_toArray, List.set_cons_zero, List.set_cons_succ, i64_w, i32_w]
                          rfl
                        refine pure_ (i := 11) (N := some 48) (v := ?_) (a' := ?_) #[true, true, false, true, true, true, true, true, true, false, true, true, false, false, false, false, false, false, false, false, false, false, false, false, false, false, false, false, false, false, false, false] rfl rfl (any_of HT_.out (by kernel_rfl)) (fun _ _ _ h => h) (Or.inl ⟨by rfl, ?_⟩) ?_ ?_
                        rotate_left
                        · intro w'
                          go_simp
                          with_reducible rfl
                        rotate_left
                        · simp only [Act.put, List.setIfInBounds_toArray, List.set_cons_zero, List.set_cons_succ, i64_w, i32_w]
                          rfl
                        refine pure_ (i := 12) (N := some 49) (v := ?_) (a' := ?_) #[true, true, false, true, true, true, true, true, true, false, true, true, true, false, false, false, false, false, false, false, false, false, false, false, false, false, false, false, false, false, false, false] rfl rfl (any_of HT_.out (by kernel_rfl)) (fun _ _ _ h => h) (Or.inl ⟨by rfl, ?_⟩) ?_ ?_
                        rotate_left
                        · intro w'
                          go_simp
                          with_reducible rfl
                        rotate_left
                        · simp only [Act.put, List.setIfInBounds_toArray, List.set_cons_zero, List.set_cons_succ, i64_w, i32_w]
                          rfl
                        refine pure_ (i := 13) (N := some 50) (v := ?_) (a' := ?_) #[true, true, false, true, true, true, true, true, true, false, true, true, true, true, false, false, false, false, false, false, false, false, false, false, false, false, false, false, false, false, false, false] rfl rfl (any_of HT_.out (by kernel_rfl)) (fun _ _ _ h => h) (Or.inl ⟨by rfl, ?_⟩) ?_ ?_
                        rotate_left
                        · intro w'
                          go_simp
                          with_reducible rfl
                        rotate_left
                        · simp only [Act.put, List.setIfInBounds_toArray, List.set_cons_zero, List.set_cons_succ, i64_w, i32_w]
                          rfl
                        refine pure_ (i := 14) (N := some 51) (v := ?_) (a' := ?_) #[true, true, false, true, true, true, true, true, true, false, true, true, true, true, true, false, false, false, false, false, false, false, false, false, false, false, false, false, false, false, false, false] rfl rfl (any_of HT_.out (by kernel_rfl)) (fun _ _ _ h => h) (Or.inl ⟨by rfl, ?_⟩) ?_ ?_
                        rotate_left
                        · intro w'
                          go_simp
                          with_reducible rfl
                        rotate_left
                        · simp only [Act.put, List.setIfInBounds_toArray, List.set_cons_zero, List.set_cons_succ, i64_w, i32_w]
                          rfl
                        refine pure_ (i := 15) (N := some 52) (v := ?_) (a' := ?_) #[true, true, false, true, true, true, true, true, true, false, true, true, true, true, true, true, false, false, false, false, false, false, false, false, false, false, false, false, false, false, false, false] rfl rfl (any_of HT_.out (by kernel_rfl)) (fun _ _ _ h => h) (Or.inl ⟨by rfl, ?_⟩) ?_ ?_
                        rotate_left
                        · intro w'
                          go_simp
                          with_reducible rfl
                        rotate_left
                        · simp only [Act.put, List.setIfInBounds_toArray, List.set_cons_zero, List.set_cons_succ, i64_w, i32_w]
                          rfl
                        refine pure_ (i := 16) (N := some 53) (v := ?_) (a' := ?_) #[true, true, false, true, true, true, true, true, true, false, true, true, true, true, true, true, true, false, false, false, false, false, false, false, false, false, false, false, false, false, false, false] rfl rfl (any_of HT_.out (by kernel_rfl)) (fun _ _ _ h => h) (Or.inl ⟨by rfl, ?_⟩) ?_ ?_
                        rotate_left
                        · intro w'
                          go_simp
                          with_reducible rfl
                        rotate_left
                        · simp only [Act.put, List.setIfInBounds_toArray, List.set_cons_zero, List.set_cons_succ, i64_w, i32_w]
                          rfl
                        refine pure_ (i := 17) (N := some 54) (v := ?_) (a' := ?_) #[true, true, false, true, true, true, true, true, true, false, true, true, true, true, true, true, true, true, false, false, false, false, false, false, false, false, false, false, false, false, false, false] rfl rfl (any_of HT_.out (by kernel_rfl)) (fun _ _ _ h => h) (Or.inl ⟨by rfl, ?_⟩) ?_ ?_
                        rotate_left
                        · intro w'
                          go_simp
                          with_reducible rfl
                        rotate_left
                        · simp only [Act.put, List.setIfInBounds_toArray, List.set_cons_zero, List.set_cons_succ, i64_w, i32_w]
                          rfl
                        refine one_ (i := 2) (N := some 39) #[true, true, true, true, true, true, true, true, true, false, true, true, true, true, true, true, true, true, false, false, false, false, false, false, false, false, false, false, false, false, false, false] rfl rfl (one_of HT_.out (by kernel_rfl)) (by decide) (fun K hK => ?_)
                        refine goes_ Try.func22 (by kernel_rfl) rfl #[.slice A0 l0.length c0, .slice A1 l1.length c1] (by rfl) rfl rfl (by (try simp only [List.map_toArray, List.map_cons, List.map_nil]); first | done | rfl | (simp only [List.length_drop, List.length_take]; rfl)) ?_
                        with_reducible refine (round_Dot.calls kj3 _ _ l0 _ _ l1 t126 _ ?side1 ?side2 ?side3 ?side4 A16.out).mono ?_
                        (case side1 => repeat (first | exact (Kd.C_below HR0.out HB.out) | (with_reducible refine Kd.C_alloc ?_ _) | (with_reducible refine Kd.C_drewN ?_ _) | (with_reducible refine Kd.C_drew ?_)))
                        (case side2 => exact HC0.out)
                        (case side3 => repeat (first | exact (Kd.C_below HR1.out HB.out) | (with_reducible refine Kd.C_alloc ?_ _) | (with_reducible refine Kd.C_drewN ?_ _) | (with_reducible refine Kd.C_drew ?_)))
                        (case side4 => exact HC1.out)
                        rintro e w39 ⟨rfl, hb⟩
                        refine ⟨_, rfl, ?_⟩
                        have n0_ := Aside0.mk (below_step (by repeat (first | (with_reducible first | exact HB.out | apply below_alloc | apply pw_below_drewN | apply below_drew1) | exact HB.out)) hb)
                        clear HB
                        have HB := n0_
                        clear n0_
                        (try clear hb)
                        (try clear hb2)
                        (try clear hk)
                        (try clear hi)
                        refine hK.out _ _ trivial (fun hHeld => ?_)
                        clear hK K
                        refine norm_ (a' := ?_) ?_ ?_
                        rotate_left
                        · show Act.put _ (some 39) _ = _
                          simp only [Act.put, List.setIfInBounds_toArray, List.set_cons_zero, List.set_cons_succ, i64_w, i32_w]
                          rfl
                        refine one_ (i := 9) (N := some 46) #[true, true, true, true, true, true, true, true, true, true, true, true, true, true, true, true, true, true, false, false, false, false, false, false, false, false, false, false, false, false, false, false] rfl rfl (one_of HT_.out (by kernel_rfl)) (by decide) (fun K hK => ?_)
                        refine goes_ Try.func22 (by kernel_rfl) rfl #[.slice A0 (l0.take ((ji17) : Int).toNat).length c0, .slice A1 (l1.take ((ji17) : Int).toNat).length c1] (by rfl) rfl rfl (by (try simp only [List.map_toArray, List.map_cons, List.map_nil]); first | done | (rw [show (l0.take ((ji17) : Int).toNat).length = (ji17).toNat from (by rw [List.length_take]; have h_ : ((ji17) : Int) ≤ (l0.length : Int) := of_decide_eq_true (by first | (with_reducible assumption) | assumption); omega), show (l1.take ((ji17) : Int).toNat).length = (ji17).toNat from (by rw [List.length_take]; have h_ : ((ji17) : Int) ≤ (l1.length : Int) := of_decide_eq_true (by first | (with_reducible assumption) | assumption); omega)] <;> rfl) | (rw [show (l0.take ((ji17) : Int).toNat).length = (ji17).toNat from (by rw [List.length_take]; have h_ : ((ji17) : Int) ≤ (l0.length : Int) := of_decide_eq_true (by first | (with_reducible assumption) | assumption); omega)] <;> rfl) | (rw [show (l1.take ((ji17) : Int).toNat).length = (ji17).toNat from (by rw [List.length_take]; have h_ : ((ji17) : Int) ≤ (l1.length : Int) := of_decide_eq_true (by first | (with_reducible assumption) | assumption); omega)] <;> rfl) | (simp only [hji17]; rfl) | rfl | (simp only [List.length_drop, List.length_take]; rfl)) ?_
                        with_reducible refine (round_Dot.calls kj3 _ _ (l0.take ((ji17) : Int).toNat) _ _ (l1.take ((ji17) : Int).toNat) t129 _ ?side1 ?side2 ?side3 ?side4 A22.out).mono ?_
                        (case side1 => repeat (first | exact (Kd.C_below HR127.out HB.out) | (with_reducible refine Kd.C_alloc ?_ _) | (with_reducible refine Kd.C_drewN ?_ _) | (with_reducible refine Kd.C_drew ?_)))
                        (case side2 => exact HC127.out)
                        (case side3 => repeat (first | exact (Kd.C_below HR128.out HB.out) | (with_reducible refine Kd.C_alloc ?_ _) | (with_reducible refine Kd.C_drewN ?_ _) | (with_reducible refine Kd.C_drew ?_)))
                        (case side4 => exact HC128.out)
                        rintro e w40 ⟨rfl, hb⟩
                        refine ⟨_, rfl, ?_⟩
                        have n0_ := Aside0.mk (below_step (by repeat (first | (with_reducible first | exact HB.out | apply below_alloc | apply pw_below_drewN | apply below_drew1) | exact HB.out)) hb)
                        clear HB
                        have HB := n0_
                        clear n0_
                        (try clear hb)
                        (try clear hb2)
                        (try clear hk)
                        (try clear hi)
                        refine hK.out _ _ trivial (fun hHeld => ?_)
                        clear hK K
                        refine norm_ (a' := ?_) ?_ ?_
                        rotate_left
                        · show Act.put _ (some 46) _ = _
                          simp only [Act.put, List.setIfInBounds_toArray, List.set_cons_zero, List.set_cons_succ, i64_w, i32_w]
                          rfl
                        refine one_ (i := 18) (N := some 55) #[true, true, true, true, true, true, true, true, true, true, true, true, true, true, true, true, true, true, true, false, false, false, false, false, false, false, false, false, false, false, false, false] rfl rfl (one_of HT_.out (by kernel_rfl)) (by decide) (fun K hK => ?_)
                        refine goes_ Try.func22 (by kernel_rfl) rfl #[.slice A37 ((l0.take ((ji14) : Int).toNat).drop ((ji17) : Int).toNat).length (c0 - (ji17).toNat), .slice A38 ((l1.take ((ji14) : Int).toNat).drop ((ji17) : Int).toNat).length (c1 - (ji17).toNat)] (by rfl) rfl rfl (by (try simp only [List.map_toArray, List.map_cons, List.map_nil]); first | done | (rw [show ((l0.take ((ji14) : Int).toNat).drop ((ji17) : Int).toNat).length = ((ji14).toNat - (ji17).toNat) from (by rw [List.length_drop, List.length_take]; have h_ : ((ji14) : Int) ≤ (l0.length : Int) := of_decide_eq_true (by first | (with_reducible assumption) | assumption); omega), show ((l1.take ((ji14) : Int).toNat).drop ((ji17) : Int).toNat).length = ((ji14).toNat - (ji17).toNat) from (by rw [List.length_drop, List.length_take]; have h_ : ((ji14) : Int) ≤ (l1.length : Int) := of_decide_eq_true (by first | (with_reducible assumption) | assumption); omega)] <;> rfl) | (rw [show ((l0.take ((ji14) : Int).toNat).drop ((ji17) : Int).toNat).length = ((ji14).toNat - (ji17).toNat) from (by rw [List.length_drop, List.length_take]; have h_ : ((ji14) : Int) ≤ (l0.length : Int) := of_decide_eq_true (by first | (with_reducible assumption) | assumption); omega)] <;> rfl) | (rw [show ((l1.take ((ji14) : Int).toNat).drop ((ji17) : Int).toNat).length = ((ji14).toNat - (ji17).toNat) from (by rw [List.length_drop, List.length_take]; have h_ : ((ji14) : Int) ≤ (l1.length : Int) := of_decide_eq_true (by first | (with_reducible assumption) | assumption); omega)] <;> rfl) | (simp only [hji14, hji17]; rfl) | rfl | (simp only [List.length_drop, List.length_take]; rfl)) ?_
                        with_reducible refine (round_Dot.calls kj3 _ _ ((l0.take ((ji14) : Int).toNat).drop ((ji17) : Int).toNat) _ _ ((l1.take ((ji14) : Int).toNat).drop ((ji17) : Int).toNat) t132 _ ?side1 ?side2 ?side3 ?side4 A29.out).mono ?_
                        (case side1 => repeat (first | exact (Kd.C_below HR130.out HB.out) | (with_reducible refine Kd.C_alloc ?_ _) | (with_reducible refine Kd.C_drewN ?_ _) | (with_reducible refine Kd.C_drew ?_)))
                        (case side2 => exact HC130.out)
                        (case side3 => repeat (first | exact (Kd.C_below HR131.out HB.out) | (with_reducible refine Kd.C_alloc ?_ _) | (with_reducible refine Kd.C_drewN ?_ _) | (with_reducible refine Kd.C_drew ?_)))
                        (case side4 => exact HC131.out)
                        rintro e w41 ⟨rfl, hb⟩
                        refine ⟨_, rfl, ?_⟩
                        have n0_ := Aside0.mk (below_step (by repeat (first | (with_reducible first | exact HB.out | apply below_alloc | apply pw_below_drewN | apply below_drew1) | exact HB.out)) hb)
                        clear HB
                        have HB := n0_
                        clear n0_
                        (try clear hb)
                        (try clear hb2)
                        (try clear hk)
                        (try clear hi)
                        refine hK.out _ _ trivial (fun hHeld => ?_)
                        clear hK K
                        refine norm_ (a' := ?_) ?_ ?_
                        rotate_left
                        · show Act.put _ (some 55) _ = _
                          simp only [Act.put, List.setIfInBounds_toArray, List.set_cons_zero, List.set_cons_succ, i64_w, i32_w]
                          rfl
                        refine one_ (i := 19) (N := some 56) #[true, true, true, true, true, true, true, true, true, true, true, true, true, true, true, true, true, true, true, true, false, false, false, false, false, false, false, false, false, false, false, false] rfl rfl (one_of HT_.out (by kernel_rfl)) (by decide) (fun K hK => ?_)
                        refine Kd.R_lit_step (Kd.int .i32) _ 21 ?hg (N := 56) ?hd (xs := ([t129, t132] : List Int)) (inner := [.int .i32 t129, .int .i32 t132]) (ok := fun _ => True) (okp := fun _ => True) ?hr ?hp (fun _ hk => hk) trivial (Below.refl _ _) (Nat.le_refl _) (by simp) ?_; (case hd => rfl); (case hg => rfl); (case hr => first | (go_simp; done) | (go_simp; rfl)); (case hp => exact (Reps.one (show Kd.M (Kd.int .i32) _ _ _ t129 [.int .i32 t129] from rfl) (Reps.one (show Kd.M (Kd.int .i32) _ _ _ t132 [.int .i32 t132] from rfl) (Reps.none _ _))))
                        intro v134 w42 ho43 hb hg_ hnew_
                        clear hg_ hnew_
                        (first | rw [← Ny133.out] at ho43 | (simp only [Int.reduceToNat] at ho43; rw [← Ny133.out] at ho43))
                        have n0_ := Aside0.mk (Kd.R_lower ho43 (below_size (by repeat (first | (with_reducible first | exact HB.out | apply below_alloc | apply pw_below_drewN | apply below_drew1) | exact HB.out))))
                        have n1_ := Aside0.mk (below_step (by repeat (first | (with_reducible first | exact HB.out | apply below_alloc | apply pw_below_drewN | apply below_drew1) | exact HB.out)) hb)
                        clear HB
                        have HO135 := n0_
                        have HB := n1_
                        clear n0_ n1_
                        clear hb ho43
                        obtain ⟨Ao44, co44, eo44⟩ := Kd.R_slice HO135.out
                        (first | subst eo44 | (injection eo44 with f1_ f2_ f3_; have f4_ := f1_.symm; have f5_ := f3_.symm; clear f1_ f2_ f3_; subst f4_; subst f5_))
                        refine hK.out _ _ trivial (fun hHeld => ?_)
                        clear hK K
                        refine norm_ (a' := ?_) ?_ ?_
                        rotate_left
                        · show Act.put _ (some 56) _ = _
                          simp only [Act.put, List.setIfInBounds_toArray, List.set_cons_zero, List.set_cons_succ, i64_w, i32_w]
                          rfl
                        refine one_ (i := 20) (N := some 57) #[true, true, true, true, true, true, true, true, true, true, true, true, true, true, true, true, true, true, true, true, true, false, false, false, false, false, false, false, false, false, false, false] rfl rfl (one_of HT_.out (by kernel_rfl)) (by decide) (fun K hK => ?_)
                        refine goes_ Try.func21 (by kernel_rfl) rfl #[.slice Ao44 y133.length co44] (by rfl) rfl rfl (by (try simp only [List.map_toArray, List.map_cons, List.map_nil]); first | done | rfl | (simp only [List.length_drop, List.length_take]; rfl)) ?_
                        with_reducible refine (round_Sum.calls kj3 _ _ y133 t136 _ ?side1 ?side2 A30.out).mono ?_
                        (case side1 => repeat (first | exact (Kd.R_reads' HO135.out).2.2 | (with_reducible refine Kd.C_alloc ?_ _) | (with_reducible refine Kd.C_drewN ?_ _) | (with_reducible refine Kd.C_drew ?_)))
                        (case side2 => exact (Kd.R_reads' HO135.out).2.1)
                        rintro e w' ⟨rfl, ⟨nd, rfl⟩⟩
                        refine ⟨_, rfl, ?_⟩
                        refine hK.out _ _ trivial (fun hHeld => ?_)
                        clear hK K
                        refine norm_ (a' := ?_) ?_ ?_
                        rotate_left
                        · show Act.put _ (some 57) _ = _
                          simp only [Act.put, List.setIfInBounds_toArray, List.set_cons_zero, List.set_cons_succ, i64_w, i32_w]
                          rfl
                        refine pure_ (i := 21) (N := some 58) (v := ?_) (a' := ?_) #[true, true, true, true, true, true, true, true, true, true, true, true, true, true, true, true, true, true, true, true, true, true, false, false, false, false, false, false, false, false, false, false] rfl rfl (any_of HT_.out (by kernel_rfl)) (fun _ _ _ h => h) (Or.inl ⟨by rfl, ?_⟩) ?_ ?_
                        rotate_left
                        · intro w'
                          go_simp
                          with_reducible rfl
                        rotate_left
                        · simp only [Act.put, List.setIfInBounds_toArray, List.set_cons_zero, List.set_cons_succ, i64_w, i32_w]
                          rfl
                        refine pure_ (i := 22) (N := some 59) (v := ?_) (a' := ?_) #[true, true, true, true, true, true, true, true, true, true, true, true, true, true, true, true, true, true, true, true, true, true, true, false, false, false, false, false, false, false, false, false] rfl rfl (any_of HT_.out (by kernel_rfl)) (fun _ _ _ h => h) (Or.inl ⟨by rfl, ?_⟩) ?_ ?_
                        rotate_left
                        · intro w'
                          go_simp
                          with_reducible rfl
                        rotate_left
                        · simp only [Act.put, List.setIfInBounds_toArray, List.set_cons_zero, List.set_cons_succ, i64_w, i32_w]
                          rfl
                        refine pure_ (i := 23) (N := some 60) (v := ?_) (a' := ?_) #[true, true, true, true, true, true, true, true, true, true, true, true, true, true, true, true, true, true, true, true, true, true, true, true, false, false, false, false, false, false, false, false] rfl rfl (any_of HT_.out (by kernel_rfl)) (fun _ _ _ h => h) (Or.inl ⟨by rfl, ?_⟩) ?_ ?_
                        rotate_left
                        · intro w'
                          go_simp
                          with_reducible rfl
                        rotate_left
                        · simp only [Act.put, List.setIfInBounds_toArray, List.set_cons_zero, List.set_cons_succ, i64_w, i32_w]
                          rfl
                        refine pure_ (i := 24) (N := some 61) (v := ?_) (a' := ?_) #[true, true, true, true, true, true, true, true, true, true, true, true, true, true, true, true, true, true, true, true, true, true, true, true, true, false, false, false, false, false, false, false] rfl rfl (any_of HT_.out (by kernel_rfl)) (fun _ _ _ h => h) (Or.inl ⟨by rfl, ?_⟩) ?_ ?_
                        rotate_left
                        · intro w'
                          go_simp
                          with_reducible rfl
                        rotate_left
                        · simp only [Act.put, List.setIfInBounds_toArray, List.set_cons_zero, List.set_cons_succ, i64_w, i32_w]
                          rfl
                        refine pure_ (i := 26) (N := some 63) (v := ?_) (a' := ?_) #[true, true, true, true, true, true, true, true, true, true, true, true, true, true, true, true, true, true, true, true, true, true, true, true, true, false, true, false, false, false, false, false] rfl rfl (any_of HT_.out (by kernel_rfl)) (fun _ _ _ h => h) (Or.inl ⟨by rfl, ?_⟩) ?_ ?_
                        rotate_left
                        · intro w'
                          go_simp
                          with_reducible rfl
                        rotate_left
                        · simp only [Act.put, List.setIfInBounds_toArray, List.set_cons_zero, List.set_cons_succ, i64_w, i32_w]
                          rfl
                        refine pure_ (i := 27) (N := some 64) (v := ?_) (a' := ?_) #[true, true, true, true, true, true, true, true, true, true, true, true, true, true, true, true, true, true, true, true, true, true, true, true, true, false, true, true, false, false, false, false] rfl rfl (any_of HT_.out (by kernel_rfl)) (fun _ _ _ h => h) (Or.inl ⟨by rfl, ?_⟩) ?_ ?_
                        rotate_left
                        · intro w'
                          go_simp
                          with_reducible rfl
                        rotate_left
                        · simp only [Act.put, List.setIfInBounds_toArray, List.set_cons_zero, List.set_cons_succ, i64_w, i32_w]
                          rfl
                        refine one_ (i := 25) (N := some 62) #[true, true, true, true, true, true, true, true, true, true, true, true, true, true, true, true, true, true, true, true, true, true, true, true, true, true, true, true, false, false, false, false] rfl rfl (one_of HT_.out (by kernel_rfl)) (by decide) (fun K hK => ?_)
                        refine goes_ Try.func22 (by kernel_rfl) rfl #[.slice A0 l0.length c0, .slice A1 l1.length c1] (by rfl) rfl rfl (by (try simp only [List.map_toArray, List.map_cons, List.map_nil]); first | done | rfl | (simp only [List.length_drop, List.length_take]; rfl)) ?_
                        with_reducible refine (round_Dot.calls kj3 _ _ l0 _ _ l1 t137 _ ?side1 ?side2 ?side3 ?side4 A32.out).mono ?_
                        (case side1 => repeat (first | exact (Kd.C_below HR0.out (by repeat (first | (with_reducible first | exact HB.out | apply below_alloc | apply pw_below_drewN | apply below_drew1) | exact HB.out))) | (with_reducible refine Kd.C_alloc ?_ _) | (with_reducible refine Kd.C_drewN ?_ _) | (with_reducible refine Kd.C_drew ?_)))
                        (case side2 => exact HC0.out)
                        (case side3 => repeat (first | exact (Kd.C_below HR1.out (by repeat (first | (with_reducible first | exact HB.out | apply below_alloc | apply pw_below_drewN | apply below_drew1) | exact HB.out))) | (with_reducible refine Kd.C_alloc ?_ _) | (with_reducible refine Kd.C_drewN ?_ _) | (with_reducible refine Kd.C_drew ?_)))
                        (case side4 => exact HC1.out)
                        rintro e w45 ⟨rfl, hb⟩
                        refine ⟨_, rfl, ?_⟩
                        have n0_ := Aside0.mk (Kd.R_below (by (with_reducible repeat (first | apply Kd.R_alloc | apply Kd.R_drewN | apply Kd.R_drew)); exact HO135.out) hb)
                        have n1_ := Aside0.mk (below_step (by repeat (first | (with_reducible first | exact HB.out | apply below_alloc | apply pw_below_drewN | apply below_drew1) | exact HB.out)) hb)
                        clear HO135
                        clear HB
                        have HO135 := n0_
                        have HB := n1_
                        clear n0_ n1_
                        (try clear hb)
                        (try clear hb2)
                        (try clear hk)
                        (try clear hi)
                        refine hK.out _ _ trivial (fun hHeld => ?_)
                        clear hK K
                        refine norm_ (a' := ?_) ?_ ?_
                        rotate_left
                        · show Act.put _ (some 62) _ = _
                          simp only [Act.put, List.setIfInBounds_toArray, List.set_cons_zero, List.set_cons_succ, i64_w, i32_w]
                          rfl
                        refine one_ (i := 28) (N := some 65) #[true, true, true, true, true, true, true, true, true, true, true, true, true, true, true, true, true, true, true, true, true, true, true, true, true, true, true, true, true, false, false, false] rfl rfl (one_of HT_.out (by kernel_rfl)) (by decide) (fun K hK => ?_)
                        refine goes_ Try.func22 (by kernel_rfl) rfl #[.slice A1 l1.length c1, .slice A0 l0.length c0] (by rfl) rfl rfl (by (try simp only [List.map_toArray, List.map_cons, List.map_nil]); first | done | rfl | (simp only [List.length_drop, List.length_take]; rfl)) ?_
                        with_reducible refine (round_Dot.calls kj3 _ _ l1 _ _ l0 t138 _ ?side1 ?side2 ?side3 ?side4 A33.out).mono ?_
                        (case side1 => repeat (first | exact (Kd.C_below HR1.out HB.out) | (with_reducible refine Kd.C_alloc ?_ _) | (with_reducible refine Kd.C_drewN ?_ _) | (with_reducible refine Kd.C_drew ?_)))
                        (case side2 => exact HC1.out)
                        (case side3 => repeat (first | exact (Kd.C_below HR0.out HB.out) | (with_reducible refine Kd.C_alloc ?_ _) | (with_reducible refine Kd.C_drewN ?_ _) | (with_reducible refine Kd.C_drew ?_)))
                        (case side4 => exact HC0.out)
                        rintro e w46 ⟨rfl, hb⟩
                        refine ⟨_, rfl, ?_⟩
                        have n0_ := Aside0.mk (Kd.R_below (by (with_reducible repeat (first | apply Kd.R_alloc | apply Kd.R_drewN | apply Kd.R_drew)); exact HO135.out) hb)
                        have n1_ := Aside0.mk (below_step (by repeat (first | (with_reducible first | exact HB.out | apply below_alloc | apply pw_below_drewN | apply below_drew1) | exact HB.out)) hb)
                        clear HO135
                        clear HB
                        have HO135 := n0_
                        have HB := n1_
                        clear n0_ n1_
                        (try clear hb)
                        (try clear hb2)
                        (try clear hk)
                        (try clear hi)
                        refine hK.out _ _ trivial (fun hHeld => ?_)
                        clear hK K
                        refine norm_ (a' := ?_) ?_ ?_
                        rotate_left
                        · show Act.put _ (some 65) _ = _
                          simp only [Act.put, List.setIfInBounds_toArray, List.set_cons_zero, List.set_cons_succ, i64_w, i32_w]
                          rfl
                        refine pure_ (i := 29) (N := some 66) (v := ?_) (a' := ?_) #[true, true, true, true, true, true, true, true, true, true, true, true, true, true, true, true, true, true, true, true, true, true, true, true, true, true, true, true, true, true, false, false] rfl rfl (any_of HT_.out (by kernel_rfl)) (fun _ _ _ h => h) (Or.inl ⟨by rfl, ?_⟩) ?_ ?_
                        rotate_left
                        · intro w'
                          go_simp
                          with_reducible rfl
                        rotate_left
                        · simp only [Act.put, List.setIfInBounds_toArray, List.set_cons_zero, List.set_cons_succ, i64_w, i32_w]
                          rfl
                        refine pure_ (i := 30) (N := some 67) (v := ?_) (a' := ?_) #[true, true, true, true, true, true, true, true, true, true, true, true, true, true, true, true, true, true, true, true, true, true, true, true, true, true, true, true, true, true, true, false] rfl rfl (any_of HT_.out (by kernel_rfl)) (fun _ _ _ h => h) (Or.inl ⟨by rfl, ?_⟩) ?_ ?_
                        rotate_left
                        · intro w'
                          go_simp
                          with_reducible rfl
                        rotate_left
                        · simp only [Act.put, List.setIfInBounds_toArray, List.set_cons_zero, List.set_cons_succ, i64_w, i32_w]
                          rfl
                        refine pure_ (i := 31) (N := some 6) (v := ?_) (a' := ?_) #[true, true, true, true, true, true, true, true, true, true, true, true, true, true, true, true, true, true, true, true, true, true, true, true, true, true, true, true, true, true, true, true] rfl rfl (any_of HT_.out (by kernel_rfl)) (fun _ _ _ h => h) (Or.inl ⟨by rfl, ?_⟩) ?_ ?_
                        rotate_left
                        · intro w'
                          go_simp
                          with_reducible rfl
                        rotate_left
                        · simp only [Act.put, List.setIfInBounds_toArray, List.set_cons_zero, List.set_cons_succ, i64_w, i32_w]
                          rfl
                        refine done_ (done_of HT_.out (by kernel_rfl)) ?_
                        try go_wp2
                        go_ret
                        exact ⟨by first | rfl | (simp [errW_none, errW_some] <;> rfl) | (simp only [← hji14, ← hji17]; first | rfl | (simp [errW_none, errW_some] <;> rfl)) | (simp [*, errW_none, errW_some] <;> rfl), by repeat (first | (with_reducible first | exact HB.out | apply below_alloc | apply pw_below_drewN | apply below_drew1) | exact HB.out)⟩
                      · rw [if_neg c31] at H
                        have c31b0 : (t126 == t136) = false := beq_eq_false_iff_ne.mpr c31
                        have c31b1 : (t126 != t136) = true := bne_iff_ne.mpr c31
                        obtain rfl := Option.some.inj H
                        try go_wp2
                        have n0_ := Aside0.mk (below_drew1 HB.out)
                        clear HB
                        have HB := n0_
                        clear n0_
                        obtain ⟨i048, hi048, _, hsz48, _⟩ := info_parts info26
                        obtain ⟨hcut48, hA48, hC48⟩ := print_take_of (P := Try.prog) (Value.int .i8) 0 39 26 .i64 Try.underlying39 hi048 hsz48 A0 c0 l0 (ji17) (of_decide_eq_true (by first | (with_reducible assumption) | assumption)) (of_decide_eq_true (by first | (with_reducible assumption) | assumption)) HC0.out
                        have HR127 := Aside0.mk (Kd.C_of_reads (h1 := fun _ => rfl) (hA48 _ (Kd.reads_of_C HR0.out)))
                        have HC127 := Aside0.mk hC48
                        clear hA48 hC48 hi048 hsz48
                        obtain ⟨i049, hi049, _, hsz49, _⟩ := info_parts info26
                        obtain ⟨hcut49, hA49, hC49⟩ := print_take_of (P := Try.prog) (Value.int .i8) 0 39 26 .i64 Try.underlying39 hi049 hsz49 A1 c1 l1 (ji17) (of_decide_eq_true (by first | (with_reducible assumption) | assumption)) (of_decide_eq_true (by first | (with_reducible assumption) | assumption)) HC1.out
                        have HR128 := Aside0.mk (Kd.C_of_reads (h1 := fun _ => rfl) (hA49 _ (Kd.reads_of_C HR1.out)))
                        have HC128 := Aside0.mk hC49
                        clear hA49 hC49 hi049 hsz49
                        obtain ⟨i050, hi050, _, hsz50, _⟩ := info_parts info26
                        obtain ⟨A50, hcut50, hA50, hC50⟩ := print_mid_of (P := Try.prog) (Value.int .i8) 0 39 26 .i64 .i64 Try.underlying39 hi050 hsz50 A0 c0 l0 (ji17) (ji14) (of_decide_eq_true (by first | (with_reducible assumption) | assumption)) (by first | omega | exact of_decide_eq_true (by first | (with_reducible assumption) | assumption)) (of_decide_eq_true (by first | (with_reducible assumption) | assumption)) HC0.out
                        have HR130 := Aside0.mk (Kd.C_of_reads (h1 := fun _ => rfl) (hA50 _ (Kd.reads_of_C HR0.out)))
                        have HC130 := Aside0.mk hC50
                        clear hA50 hC50 hi050 hsz50
                        obtain ⟨i051, hi051, _, hsz51, _⟩ := info_parts info26
                        obtain ⟨A51, hcut51, hA51, hC51⟩ := print_mid_of (P := Try.prog) (Value.int .i8) 0 39 26 .i64 .i64 Try.underlying39 hi051 hsz51 A1 c1 l1 (ji17) (ji14) (of_decide_eq_true (by first | (with_reducible assumption) | assumption)) (by first | omega | exact of_decide_eq_true (by first | (with_reducible assumption) | assumption)) (of_decide_eq_true (by first | (with_reducible assumption) | assumption)) HC1.out
                        have HR131 := Aside0.mk (Kd.C_of_reads (h1 := fun _ => rfl) (hA51 _ (Kd.reads_of_C HR1.out)))
                        have HC131 := Aside0.mk hC51
                        clear hA51 hC51 hi051 hsz51
                        refine start_ (n := 32) (S := fun w' => True) (ds := []) #[false, false, false, false, false, false, false, false, false, false, false, false, false, false, false, false, false, false, false, false, false, false, false, false, false, false, false, false, false, false, false, false] (by kernel_rfl) rfl rfl trivial (fun hHeld => ?_); refine with_tabW pelotonlaw01_RoundPieces.tab5 pelotonlaw01_RoundPieces.bits5 (fun HT_ HW_ => ?_)
                        generalize wc.drew = w47 at HB HR127 HR128 HR130 HR131 hHeld ⊢
                        refine pure_ (i := 0) (N := some 37) (v := ?_) (a' := ?_) #[true, false, false, false, false, false, false, false, false, false, false, false, false, false, false, false, false, false, false, false, false, false, false, false, false, false, false, false, false, false, false, false] rfl rfl (any_of HT_.out (by kernel_rfl)) (fun _ _ _ h => h) (Or.inl ⟨by rfl, ?_⟩) ?_ ?_
                        rotate_left
                        · intro w'
                          go_simp
                          with_reducible rfl
                        rotate_left
                        · simp only [Act.put, List.setIfInBounds_toArray, List.set_cons_zero, List.set_cons_succ, i64_w, i32_w]
                          rfl
                        refine pure_ (i := 1) (N := some 38) (v := ?_) (a' := ?_) #[true, true, false, false, false, false, false, false, false, false, false, false, false, false, false, false, false, false, false, false, false, false, false, false, false, false, false, false, false, false, false, false] rfl rfl (any_of HT_.out (by kernel_rfl)) (fun _ _ _ h => h) (Or.inl ⟨by rfl, ?_⟩) ?_ ?_
                        rotate_left
                        · intro w'
                          go_simp
                          with_reducible rfl
                        rotate_left
                        · simp only [Act.put, List.setIfInBounds_toArray, List.set_cons_zero, List.set_cons_succ, i64_w, i32_w]
                          rfl
                        refine pure_ (i := 3) (N := some 40) (v := ?_) (a' := ?_) #[true, true, false, true, false, false, false, false, false, false, false, false, false, false, false, false, false, false, false, false, false, false, false, false, false, false, false, false, false, false, false, false] rfl rfl (any_of HT_.out (by kernel_rfl)) (fun _ _ _ h => h) (Or.inl ⟨by rfl, ?_⟩) ?_ ?_
                        rotate_left
                        · intro w'
                          go_simp
                          with_reducible rfl
                        rotate_left
                        · simp only [Act.put, List.setIfInBounds_toArray, List.set_cons_zero, List.set_cons_succ, i64_w, i32_w]
                          rfl
                        refine pure_ (i := 4) (N := some 41) (v := ?_) (a' := ?_) #[true, true, false, true, true, false, false, false, false, false, false, false, false, false, false, false, false, false, false, false, false, false, false, false, false, false, false, false, false, false, false, false] rfl rfl (any_of HT_.out (by kernel_rfl)) (fun _ _ _ h => h) (Or.inl ⟨by rfl, ?_⟩) ?_ ?_
                        rotate_left
                        · intro w'
                          go_simp
                          with_reducible rfl
                        rotate_left
                        · simp only [Act.put, List.setIfInBounds_toArray, List.set_cons_zero, List.set_cons_succ, i64_w, i32_w]
                          rfl
                        refine pure_ (i := 5) (N := some 42) (v := ?_) (a' := ?_) #[true, true, false, true, true, true, false, false, false, false, false, false, false, false, false, false, false, false, false, false, false, false, false, false, false, false, false, false, false, false, false, false] rfl rfl (any_of HT_.out (by kernel_rfl)) (fun _ _ _ h => h) (Or.inl ⟨by rfl, ?_⟩) ?_ ?_
                        rotate_left
                        · intro w'
                          go_simp
                          with_reducible rfl
                        rotate_left
                        · simp only [Act.put, List.setIfInBounds_toArray, List.set_cons_zero, List.set_cons_succ, i64_w, i32_w]
                          rfl
                        refine pure_ (i := 6) (N := some 43) (v := ?_) (a' := ?_) #[true, true, false, true, true, true, true, false, false, false, false, false, false, false, false, false, false, false, false, false, false, false, false, false, false, false, false, false, false, false, false, false] rfl rfl (any_of HT_.out (by kernel_rfl)) (fun _ _ _ h => h) (Or.inl ⟨by rfl, ?_⟩) ?_ ?_
                        rotate_left
                        · intro w'
                          go_simp
                          with_reducible rfl
                        rotate_left
                        · simp only [Act.put, List.setIfInBounds_toArray, List.set_cons_zero, List.set_cons_succ, i64_w, i32_w]
                          rfl
                        refine pure_ (i := 7) (N := some 44) (v := ?_) (a' := ?_) #[true, true, false, true, true, true, true, true, false, false, false, false, false, false, false, false, false, false, false, false, false, false, false, false, false, false, false, false, false, false, false, false] rfl rfl (any_of HT_.out (by kernel_rfl)) (fun _ _ _ h => h) (Or.inl ⟨by rfl, ?_⟩) ?_ ?_
                        rotate_left
                        · intro w'
                          go_simp
                          with_reducible rfl
                        rotate_left
                        · simp only [Act.put, List.setIfInBounds_toArray, List.set_cons_zero, List.set_cons_succ, i64_w, i32_w]
                          rfl
                        refine pure_ (i := 8) (N := some 45) (v := ?_) (a' := ?_) #[true, true, false, true, true, true, true, true, true, false, false, false, false, false, false, false, false, false, false, false, false, false, false, false, false, false, false, false, false, false, false, false] rfl rfl (any_of HT_.out (by kernel_rfl)) (fun _ _ _ h => h) (Or.inl ⟨by rfl, ?_⟩) ?_ ?_
                        rotate_left
                        · intro w'
                          go_simp
                          with_reducible rfl
                        rotate_left
                        · simp only [Act.put, List.setIfInBounds_toArray, List.set_cons_zero, List.set_cons_succ, i64_w, i32_w]
                          rfl
                        refine pure_ (i := 10) (N := some 47) (v := ?_) (a' := ?_) #[true, true, false, true, true, true, true, true, true, false, true, false, false, false, false, false, false, false, false, false, false, false, false, false, false, false, false, false, false, false, false, false] rfl rfl (any_of HT_.out (by kernel_rfl)) (fun _ _ _ h => h) (Or.inl ⟨by rfl, ?_⟩) ?_ ?_
                        rotate_left
                        · intro w'
                          go_simp
                          with_reducible rfl
                        rotate_left
                        · simp only [Act.put, List.setIfInBounds_toArray, List.set_cons_zero, List.set_cons_succ, i64_w, i32_w]
                          rfl
                        refine pure_ (i := 11) (N := some 48) (v := ?_) (a' := ?_) #[true, true, false, true, true, true, true, true, true, false, true, true, false, false, false, false, false, false, false, false, false, false, false, false, false, false, false, false, false, false, false, false] rfl rfl (any_of HT_.out (by kernel_rfl)) (fun _ _ _ h => h) (Or.inl ⟨by rfl, ?_⟩) ?_ ?_
                        rotate_left
                        · intro w'
                          go_simp
                          with_reducible rfl
                        rotate_left
                        · simp only [Act.put, List.setIfInBounds_toArray, List.set_cons_zero, List.set_cons_succ, i64_w, i32_w]
                          rfl
                        refine pure_ (i := 12) (N := some 49) (v := ?_) (a' := ?_) #[true, true, false, true, true, true, true, true, true, false, true, true, true, false, false, false, false, false, false, false, false, false, false, false, false, false, false, false, false, false, false, false] rfl rfl (any_of HT_.out (by kernel_rfl)) (fun _ _ _ h => h) (Or.inl ⟨by rfl, ?_⟩) ?_ ?_
                        rotate_left
                        · intro w'
                          go_simp
                          with_reducible rfl
                        rotate_left
                        · simp only [Act.put, List.setIfInBounds_toArray, List.set_cons_zero, List.set_cons_succ, i64_w, i32_w]
                          rfl
                        refine pure_ (i := 13) (N := some 50) (v := ?_) (a' := ?_) #[true, true, false, true, true, true, true, true, true, false, true, true, true, true, false, false, false, false, false, false, false, false, false, false, false, false, false, false, false, false, false, false] rfl rfl (any_of HT_.out (by kernel_rfl)) (fun _ _ _ h => h) (Or.inl ⟨by rfl, ?_⟩) ?_ ?_
                        rotate_left
                        · intro w'
                          go_simp
                          with_reducible rfl
                        rotate_left
                        · simp only [Act.put, List.setIfInBounds_toArray, List.set_cons_zero, List.set_cons_succ, i64_w, i32_w]
                          rfl
                        refine pure_ (i := 14) (N := some 51) (v := ?_) (a' := ?_) #[true, true, false, true, true, true, true, true, true, false, true, true, true, true, true, false, false, false, false, false, false, false, false, false, false, false, false, false, false, false, false, false] rfl rfl (any_of HT_.out (by kernel_rfl)) (fun _ _ _ h => h) (Or.inl ⟨by rfl, ?_⟩) ?_ ?_
                        rotate_left
                        · intro w'
                          go_simp
                          with_reducible rfl
                        rotate_left
                        · simp only [Act.put, List.setIfInBounds_toArray, List.set_cons_zero, List.set_cons_succ, i64_w, i32_w]
                          rfl
                        refine pure_ (i := 15) (N := some 52) (v := ?_) (a' := ?_) #[true, true, false, true, true, true, true, true, true, false, true, true, true, true, true, true, false, false, false, false, false, false, false, false, false, false, false, false, false, false, false, false] rfl rfl (any_of HT_.out (by kernel_rfl)) (fun _ _ _ h => h) (Or.inl ⟨by rfl, ?_⟩) ?_ ?_
                        rotate_left
                        · intro w'
                          go_simp
                          with_reducible rfl
                        rotate_left
                        · simp only [Act.put, List.setIfInBounds_toArray, List.set_cons_zero, List.set_cons_succ, i64_w, i32_w]
                          rfl
                        refine pure_ (i := 16) (N := some 53) (v := ?_) (a' := ?_) #[true, true, false, true, true, true, true, true, true, false, true, true, true, true, true, true, true, false, false, false, false, false, false, false, false, false, false, false, false, false, false, false] rfl rfl (any_of HT_.out (by kernel_rfl)) (fun _ _ _ h => h) (Or.inl ⟨by rfl, ?_⟩) ?_ ?_
                        rotate_left
                        · intro w'
                          go_simp
                          with_reducible rfl
                        rotate_left
                        · simp only [Act.put, List.setIfInBounds_toArray, List.set_cons_zero, List.set_cons_succ, i64_w, i32_w]
                          rfl
                        refine pure_ (i := 17) (N := some 54) (v := ?_) (a' := ?_) #[true, true, false, true, true, true, true, true, true, false, true, true, true, true, true, true, true, true, false, false, false, false, false, false, false, false, false, false, false, false, false, false] rfl rfl (any_of HT_.out (by kernel_rfl)) (fun _ _ _ h => h) (Or.inl ⟨by rfl, ?_⟩) ?_ ?_
                        rotate_left
                        · intro w'
                          go_simp
                          with_reducible rfl
                        rotate_left
                        · simp only [Act.put, List.setIfInBounds_toArray, List.set_cons_zero, List.set_cons_succ, i64_w, i32_w]
                          rfl
                        refine one_ (i := 2) (N := some 39) #[true, true, true, true, true, true, true, true, true, false, true, true, true, true, true, true, true, true, false, false, false, false, false, false, false, false, false, false, false, false, false, false] rfl rfl (one_of HT_.out (by kernel_rfl)) (by decide) (fun K hK => ?_)
                        refine goes_ Try.func22 (by kernel_rfl) rfl #[.slice A0 l0.length c0, .slice A1 l1.length c1] (by rfl) rfl rfl (by (try simp only [List.map_toArray, List.map_cons, List.map_nil]); first | done | rfl | (simp only [List.length_drop, List.length_take]; rfl)) ?_
                        with_reducible refine (round_Dot.calls kj3 _ _ l0 _ _ l1 t126 _ ?side1 ?side2 ?side3 ?side4 A16.out).mono ?_
                        (case side1 => repeat (first | exact (Kd.C_below HR0.out HB.out) | (with_reducible refine Kd.C_alloc ?_ _) | (with_reducible refine Kd.C_drewN ?_ _) | (with_reducible refine Kd.C_drew ?_)))
                        (case side2 => exact HC0.out)
                        (case side3 => repeat (first | exact (Kd.C_below HR1.out HB.out) | (with_reducible refine Kd.C_alloc ?_ _) | (with_reducible refine Kd.C_drewN ?_ _) | (with_reducible refine Kd.C_drew ?_)))
                        (case side4 => exact HC1.out)
                        rintro e w52 ⟨rfl, hb⟩
                        refine ⟨_, rfl, ?_⟩
                        have n0_ := Aside0.mk (below_step (by repeat (first | (with_reducible first | exact HB.out | apply below_alloc | apply pw_below_drewN | apply below_drew1) | exact HB.out)) hb)
                        clear HB
                        have HB := n0_
                        clear n0_
                        (try clear hb)
                        (try clear hb2)
                        (try clear hk)
                        (try clear hi)
                        refine hK.out _ _ trivial (fun hHeld => ?_)
                        clear hK K
                        refine norm_ (a' := ?_) ?_ ?_
                        rotate_left
                        · show Act.put _ (some 39) _ = _
                          simp only [Act.put, List.setIfInBounds_toArray, List.set_cons_zero, List.set_cons_succ, i64_w, i32_w]
                          rfl
                        refine one_ (i := 9) (N := some 46) #[true, true, true, true, true, true, true, true, true, true, true, true, true, true, true, true, true, true, false, false, false, false, false, false, false, false, false, false, false, false, false, false] rfl rfl (one_of HT_.out (by kernel_rfl)) (by decide) (fun K hK => ?_)
                        refine goes_ Try.func22 (by kernel_rfl) rfl #[.slice A0 (l0.take ((ji17) : Int).toNat).length c0, .slice A1 (l1.take ((ji17) : Int).toNat).length c1] (by rfl) rfl rfl (by (try simp only [List.map_toArray, List.map_cons, List.map_nil]); first | done | (rw [show (l0.take ((ji17) : Int).toNat).length = (ji17).toNat from (by rw [List.length_take]; have h_ : ((ji17) : Int) ≤ (l0.length : Int) := of_decide_eq_true (by first | (with_reducible assumption) | assumption); omega), show (l1.take ((ji17) : Int).toNat).length = (ji17).toNat from (by rw [List.length_take]; have h_ : ((ji17) : Int) ≤ (l1.length : Int) := of_decide_eq_true (by first | (with_reducible assumption) | assumption); omega)] <;> rfl) | (rw [show (l0.take ((ji17) : Int).toNat).length = (ji17).toNat from (by rw [List.length_take]; have h_ : ((ji17) : Int) ≤ (l0.length : Int) := of_decide_eq_true (by first | (with_reducible assumption) | assumption); omega)] <;> rfl) | (rw [show (l1.take ((ji17) : Int).toNat).length = (ji17).toNat from (by rw [List.length_take]; have h_ : ((ji17) : Int) ≤ (l1.length : Int) := of_decide_eq_true (by first | (with_reducible assumption) | assumption); omega)] <;> rfl) | (simp only [hji17]; rfl) | rfl | (simp only [List.length_drop, List.length_take]; rfl)) ?_
                        with_reducible refine (round_Dot.calls kj3 _ _ (l0.take ((ji17) : Int).toNat) _ _ (l1.take ((ji17) : Int).toNat) t129 _ ?side1 ?side2 ?side3 ?side4 A22.out).mono ?_
                        (case side1 => repeat (first | exact (Kd.C_below HR127.out HB.out) | (with_reducible refine Kd.C_alloc ?_ _) | (with_reducible refine Kd.C_drewN ?_ _) | (with_reducible refine Kd.C_drew ?_)))
                        (case side2 => exact HC127.out)
                        (case side3 => repeat (first | exact (Kd.C_below HR128.out HB.out) | (with_reducible refine Kd.C_alloc ?_ _) | (with_reducible refine Kd.C_drewN ?_ _) | (with_reducible refine Kd.C_drew ?_)))
                        (case side4 => exact HC128.out)
                        rintro e w53 ⟨rfl, hb⟩
                        refine ⟨_, rfl, ?_⟩
                        have n0_ := Aside0.mk (below_step (by repeat (first | (with_reducible first | exact HB.out | apply below_alloc | apply pw_below_drewN | apply below_drew1) | exact HB.out)) hb)
                        clear HB
                        have HB := n0_
                        clear n0_
                        (try clear hb)
                        (try clear hb2)
                        (try clear hk)
                        (try clear hi)
                        refine hK.out _ _ trivial (fun hHeld => ?_)
                        clear hK K
                        refine norm_ (a' := ?_) ?_ ?_
                        rotate_left
                        · show Act.put _ (some 46) _ = _
                          simp only [Act.put, List.setIfInBounds_toArray, List.set_cons_zero, List.set_cons_succ, i64_w, i32_w]
                          rfl
                        refine one_ (i := 18) (N := some 55) #[true, true, true, true, true, true, true, true, true, true, true, true, true, true, true, true, true, true, true, false, false, false, false, false, false, false, false, false, false, false, false, false] rfl rfl (one_of HT_.out (by kernel_rfl)) (by decide) (fun K hK => ?_)
                        refine goes_ Try.func22 (by kernel_rfl) rfl #[.slice A50 ((l0.take ((ji14) : Int).toNat).drop ((ji17) : Int).toNat).length (c0 - (ji17).toNat), .slice A51 ((l1.take ((ji14) : Int).toNat).drop ((ji17) : Int).toNat).length (c1 - (ji17).toNat)] (by rfl) rfl rfl (by (try simp only [List.map_toArray, List.map_cons, List.map_nil]); first | done | (rw [show ((l0.take ((ji14) : Int).toNat).drop ((ji17) : Int).toNat).length = ((ji14).toNat - (ji17).toNat) from (by rw [List.length_drop, List.length_take]; have h_ : ((ji14) : Int) ≤ (l0.length : Int) := of_decide_eq_true (by first | (with_reducible assumption) | assumption); omega), show ((l1.take ((ji14) : Int).toNat).drop ((ji17) : Int).toNat).length = ((ji14).toNat - (ji17).toNat) from (by rw [List.length_drop, List.length_take]; have h_ : ((ji14) : Int) ≤ (l1.length : Int) := of_decide_eq_true (by first | (with_reducible assumption) | assumption); omega)] <;> rfl) | (rw [show ((l0.take ((ji14) : Int).toNat).drop ((ji17) : Int).toNat).length = ((ji14).toNat - (ji17).toNat) from (by rw [List.length_drop, List.length_take]; have h_ : ((ji14) : Int) ≤ (l0.length : Int) := of_decide_eq_true (by first | (with_reducible assumption) | assumption); omega)] <;> rfl) | (rw [show ((l1.take ((ji14) : Int).toNat).drop ((ji17) : Int).toNat).length = ((ji14).toNat - (ji17).toNat) from (by rw [List.length_drop, List.length_take]; have h_ : ((ji14) : Int) ≤ (l1.length : Int) := of_decide_eq_true (by first | (with_reducible assumption) | assumption); omega)] <;> rfl) | (simp only [hji14, hji17]; rfl) | rfl | (simp only [List.length_drop, List.length_take]; rfl)) ?_
                        with_reducible refine (round_Dot.calls kj3 _ _ ((l0.take ((ji14) : Int).toNat).drop ((ji17) : Int).toNat) _ _ ((l1.take ((ji14) : Int).toNat).drop ((ji17) : Int).toNat) t132 _ ?side1 ?side2 ?side3 ?side4 A29.out).mono ?_
                        (case side1 => repeat (first | exact (Kd.C_below HR130.out HB.out) | (with_reducible refine Kd.C_alloc ?_ _) | (with_reducible refine Kd.C_drewN ?_ _) | (with_reducible refine Kd.C_drew ?_)))
                        (case side2 => exact HC130.out)
                        (case side3 => repeat (first | exact (Kd.C_below HR131.out HB.out) | (with_reducible refine Kd.C_alloc ?_ _) | (with_reducible refine Kd.C_drewN ?_ _) | (with_reducible refine Kd.C_drew ?_)))
                        (case side4 => exact HC131.out)
                        rintro e w54 ⟨rfl, hb⟩
                        refine ⟨_, rfl, ?_⟩
                        have n0_ := Aside0.mk (below_step (by repeat (first | (with_reducible first | exact HB.out | apply below_alloc | apply pw_below_drewN | apply below_drew1) | exact HB.out)) hb)
                        clear HB
                        have HB := n0_
                        clear n0_
                        (try clear hb)
                        (try clear hb2)
                        (try clear hk)
                        (try clear hi)
                        refine hK.out _ _ trivial (fun hHeld => ?_)
                        clear hK K
                        refine norm_ (a' := ?_) ?_ ?_
                        rotate_left
                        · show Act.put _ (some 55) _ = _
                          simp only [Act.put, List.setIfInBounds_toArray, List.set_cons_zero, List.set_cons_succ, i64_w, i32_w]
                          rfl
                        refine one_ (i := 19) (N := some 56) #[true, true, true, true, true, true, true, true, true, true, true, true, true, true, true, true, true, true, true, true, false, false, false, false, false, false, false, false, false, false, false, false] rfl rfl (one_of HT_.out (by kernel_rfl)) (by decide) (fun K hK => ?_)
                        refine Kd.R_lit_step (Kd.int .i32) _ 21 ?hg (N := 56) ?hd (xs := ([t129, t132] : List Int)) (inner := [.int .i32 t129, .int .i32 t132]) (ok := fun _ => True) (okp := fun _ => True) ?hr ?hp (fun _ hk => hk) trivial (Below.refl _ _) (Nat.le_refl _) (by simp) ?_; (case hd => rfl); (case hg => rfl); (case hr => first | (go_simp; done) | (go_simp; rfl)); (case hp => exact (Reps.one (show Kd.M (Kd.int .i32) _ _ _ t129 [.int .i32 t129] from rfl) (Reps.one (show Kd.M (Kd.int .i32) _ _ _ t132 [.int .i32 t132] from rfl) (Reps.none _ _))))
                        intro v134 w55 ho56 hb hg_ hnew_
                        clear hg_ hnew_
                        (first | rw [← Ny133.out] at ho56 | (simp only [Int.reduceToNat] at ho56; rw [← Ny133.out] at ho56))
                        have n0_ := Aside0.mk (Kd.R_lower ho56 (below_size (by repeat (first | (with_reducible first | exact HB.out | apply below_alloc | apply pw_below_drewN | apply below_drew1) | exact HB.out))))
                        have n1_ := Aside0.mk (below_step (by repeat (first | (with_reducible first | exact HB.out | apply below_alloc | apply pw_below_drewN | apply below_drew1) | exact HB.out)) hb)
                        clear HB
                        have HO135 := n0_
                        have HB := n1_
                        clear n0_ n1_
                        clear hb ho56
                        obtain ⟨Ao57, co57, eo57⟩ := Kd.R_slice HO135.out
                        (first | subst eo57 | (injection eo57 with f1_ f2_ f3_; have f4_ := f1_.symm; have f5_ := f3_.symm; clear f1_ f2_ f3_; subst f4_; subst f5_))
                        refine hK.out _ _ trivial (fun hHeld => ?_)
                        clear hK K
                        refine norm_ (a' := ?_) ?_ ?_
                        rotate_left
                        · show Act.put _ (some 56) _ = _
                          simp only [Act.put, List.setIfInBounds_toArray, List.set_cons_zero, List.set_cons_succ, i64_w, i32_w]
                          rfl
                        refine one_ (i := 20) (N := some 57) #[true, true, true, true, true, true, true, true, true, true, true, true, true, true, true, true, true, true, true, true, true, false, false, false, false, false, false, false, false, false, false, false] rfl rfl (one_of HT_.out (by kernel_rfl)) (by decide) (fun K hK => ?_)
                        refine goes_ Try.func21 (by kernel_rfl) rfl #[.slice Ao57 y133.length co57] (by rfl) rfl rfl (by (try simp only [List.map_toArray, List.map_cons, List.map_nil]); first | done | rfl | (simp only [List.length_drop, List.length_take]; rfl)) ?_
                        with_reducible refine (round_Sum.calls kj3 _ _ y133 t136 _ ?side1 ?side2 A30.out).mono ?_
                        (case side1 => repeat (first | exact (Kd.R_reads' HO135.out).2.2 | (with_reducible refine Kd.C_alloc ?_ _) | (with_reducible refine Kd.C_drewN ?_ _) | (with_reducible refine Kd.C_drew ?_)))
                        (case side2 => exact (Kd.R_reads' HO135.out).2.1)
                        rintro e w' ⟨rfl, ⟨nd, rfl⟩⟩
                        refine ⟨_, rfl, ?_⟩
                        refine hK.out _ _ trivial (fun hHeld => ?_)
                        clear hK K
                        refine norm_ (a' := ?_) ?_ ?_
                        rotate_left
                        · show Act.put _ (some 57) _ = _
                          simp only [Act.put, List.setIfInBounds_toArray, List.set_cons_zero, List.set_cons_succ, i64_w, i32_w]
                          rfl
                        refine pure_ (i := 21) (N := some 58) (v := ?_) (a' := ?_) #[true, true, true, true, true, true, true, true, true, true, true, true, true, true, true, true, true, true, true, true, true, true, false, false, false, false, false, false, false, false, false, false] rfl rfl (any_of HT_.out (by kernel_rfl)) (fun _ _ _ h => h) (Or.inl ⟨by rfl, ?_⟩) ?_ ?_
                        rotate_left
                        · intro w'
                          go_simp
                          with_reducible rfl
                        rotate_left
                        · simp only [Act.put, List.setIfInBounds_toArray, List.set_cons_zero, List.set_cons_succ, i64_w, i32_w]
                          rfl
                        refine pure_ (i := 22) (N := some 59) (v := ?_) (a' := ?_) #[true, true, true, true, true, true, true, true, true, true, true, true, true, true, true, true, true, true, true, true, true, true, true, false, false, false, false, false, false, false, false, false] rfl rfl (any_of HT_.out (by kernel_rfl)) (fun _ _ _ h => h) (Or.inl ⟨by rfl, ?_⟩) ?_ ?_
                        rotate_left
                        · intro w'
                          go_simp
                          with_reducible rfl
                        rotate_left
                        · simp only [Act.put, List.setIfInBounds_toArray, List.set_cons_zero, List.set_cons_succ, i64_w, i32_w]
                          rfl
                        refine pure_ (i := 23) (N := some 60) (v := undef) (a' := ?_) #[true, true, true, true, true, true, true, true, true, true, true, true, true, true, true, true, true, true, true, true, true, true, true, true, false, false, false, false, false, false, false, false] rfl rfl (any_of HT_.out (by kernel_rfl)) (fun _ _ _ h => h) (Or.inr ⟨by rfl, rfl⟩) ?_ ?_
                        rotate_left
                        · simp only [Act.put, List.setIfInBounds_toArray, List.set_cons_zero, List.set_cons_succ, i64_w, i32_w]
                          rfl
                        refine pure_ (i := 24) (N := some 61) (v := undef) (a' := ?_) #[true, true, true, true, true, true, true, true, true, true, true, true, true, true, true, true, true, true, true, true, true, true, true, true, true, false, false, false, false, false, false, false] rfl rfl (any_of HT_.out (by kernel_rfl)) (fun _ _ _ h => h) (Or.inr ⟨by rfl, rfl⟩) ?_ ?_
                        rotate_left
                        · simp only [Act.put, List.setIfInBounds_toArray, List.set_cons_zero, List.set_cons_succ, i64_w, i32_w]
                          rfl
                        refine pure_ (i := 25) (N := some 62) (v := undef) (a' := ?_) #[true, true, true, true, true, true, true, true, true, true, true, true, true, true, true, true, true, true, true, true, true, true, true, true, true, true, false, false, false, false, false, false] rfl rfl (any_of HT_.out (by kernel_rfl)) (fun _ _ _ h => h) (Or.inr ⟨by rfl, rfl⟩) ?_ ?_
                        rotate_left
                        · simp only [Act.put, List.setIfInBounds_toArray, List.set_cons_zero, List.set_cons_succ, i64_w, i32_w]
                          rfl
                        refine pure_ (i := 26) (N := some 63) (v := undef) (a' := ?_) #[true, true, true, true, true, true, true, true, true, true, true, true, true, true, true, true, true, true, true, true, true, true, true, true, true, true, true, false, false, false, false, false] rfl rfl (any_of HT_.out (by kernel_rfl)) (fun _ _ _ h => h) (Or.inr ⟨by rfl, rfl⟩) ?_ ?_
                        rotate_left
                        · simp only [Act.put, List.setIfInBounds_toArray, List.set_cons_zero, List.set_cons_succ, i64_w, i32_w]
                          rfl
                        refine pure_ (i := 27) (N := some 64) (v := undef) (a' := ?_) #[true, true, true, true, true, true, true, true, true, true, true, true, true, true, true, true, true, true, true, true, true, true, true, true, true, true, true, true, false, false, false, false] rfl rfl (any_of HT_.out (by kernel_rfl)) (fun _ _ _ h => h) (Or.inr ⟨by rfl, rfl⟩) ?_ ?_
                        rotate_left
                        · simp only [Act.put, List.setIfInBounds_toArray, List.set_cons_zero, List.set_cons_succ, i64_w, i32_w]
                          rfl
                        refine pure_ (i := 28) (N := some 65) (v := undef) (a' := ?_) #[true, true, true, true, true, true, true, true, true, true, true, true, true, true, true, true, true, true, true, true, true, true, true, true, true, true, true, true, true, false, false, false] rfl rfl (any_of HT_.out (by kernel_rfl)) (fun _ _ _ h => h) (Or.inr ⟨by rfl, rfl⟩) ?_ ?_
                        rotate_left
                        · simp only [Act.put, List.setIfInBounds_toArray, List.set_cons_zero, List.set_cons_succ, i64_w, i32_w]
                          rfl
                        refine pure_ (i := 29) (N := some 66) (v := undef) (a' := ?_) #[true, true, true, true, true, true, true, true, true, true, true, true, true, true, true, true, true, true, true, true, true, true, true, true, true, true, true, true, true, true, false, false] rfl rfl (any_of HT_.out (by kernel_rfl)) (fun _ _ _ h => h) (Or.inr ⟨by rfl, rfl⟩) ?_ ?_
                        rotate_left
                        · simp only [Act.put, List.setIfInBounds_toArray, List.set_cons_zero, List.set_cons_succ, i64_w, i32_w]
                          rfl
                        refine pure_ (i := 30) (N := some 67) (v := ?_) (a' := ?_) #[true, true, true, true, true, true, true, true, true, true, true, true, true, true, true, true, true, true, true, true, true, true, true, true, true, true, true, true, true, true, true, false] rfl rfl (any_of HT_.out (by kernel_rfl)) (fun _ _ _ h => h) (Or.inl ⟨by rfl, ?_⟩) ?_ ?_
                        rotate_left
                        · intro w'
                          go_simp
                          with_reducible rfl
                        rotate_left
                        · simp only [Act.put, List.setIfInBounds_toArray, List.set_cons_zero, List.set_cons_succ, i64_w, i32_w]
                          rfl
                        refine pure_ (i := 31) (N := some 6) (v := ?_) (a' := ?_) #[true, true, true, true, true, true, true, true, true, true, true, true, true, true, true, true, true, true, true, true, true, true, true, true, true, true, true, true, true, true, true, true] rfl rfl (any_of HT_.out (by kernel_rfl)) (fun _ _ _ h => h) (Or.inl ⟨by rfl, ?_⟩) ?_ ?_
                        rotate_left
                        · intro w'
                          go_simp
                          with_reducible rfl
                        rotate_left
                        · simp only [Act.put, List.setIfInBounds_toArray, List.set_cons_zero, List.set_cons_succ, i64_w, i32_w]
                          rfl
                        refine done_ (done_of HT_.out (by kernel_rfl)) ?_
                        try go_wp2
                        go_ret
                        exact ⟨by first | rfl | (simp [errW_none, errW_some] <;> rfl) | (simp only [← hji14, ← hji17]; first | rfl | (simp [errW_none, errW_some] <;> rfl)) | (simp [*, errW_none, errW_some] <;> rfl), by repeat (first | (with_reducible first | exact HB.out | apply below_alloc | apply pw_below_drewN | apply below_drew1) | exact HB.out)⟩
                    · rw [if_neg c28] at H
                      exact absurd H (by simp)
                  · rw [if_neg c25] at H
                    exact absurd H (by simp)
                · rw [if_neg c24] at H
                  exact absurd H (by simp)
              · rw [if_neg c21] at H
                exact absurd H (by simp)
            · rw [if_neg c19] at H
              exact absurd H (by simp)
          · rw [if_neg c18] at H
            exact absurd H (by simp)

/-- THE ONE PURE STATEMENT of pelotonlaw01_RoundPieces: yours. -/
def pelotonlaw01_RoundPieces.Pure : Prop := ∀ (l0 : List Int) (l1 : List Int) (a2 : Int), l0.length ≤ maxLen → l0.length * 1 ≤ 140737488351232 → (∀ x ∈ l0, (Lit.int .i8 x).wf = true) → l1.length ≤ maxLen → l1.length * 1 ≤ 140737488351232 → (∀ x ∈ l1, (Lit.int .i8 x).wf = true) → (Lit.int .i64 a2).wf = true → ∃ k, pelotonlaw01_RoundPieces.f k l0 l1 a2 = some true
theorem pelotonlaw01_RoundPieces.walk (P : pelotonlaw01_RoundPieces.Pure) (a0 : Option Addr) (len0 cap0 : Nat) (z0 : List Int) (a1 : Option Addr) (len1 cap1 : Nat) (z1 : List Int) (a2 : Int) (w : World) (w0 : (a0 = none ∧ len0 = 0 ∧ cap0 = 0 ∧ z0 = []) ∨ ∃ x, a0 = some x ∧ len0 ≤ cap0 ∧ cap0 ≤ maxLen ∧ z0.length = cap0 ∧ (∀ i, i < z0.length → w.cell? (x.add i) = some (.int .i8 (z0.getD i 0))) ∧ ∀ n ∈ z0, (Lit.int .i8 n).wf = true) (y0 : len0 * 1 ≤ 140737488351232) (w1 : (a1 = none ∧ len1 = 0 ∧ cap1 = 0 ∧ z1 = []) ∨ ∃ x, a1 = some x ∧ len1 ≤ cap1 ∧ cap1 ≤ maxLen ∧ z1.length = cap1 ∧ (∀ i, i < z1.length → w.cell? (x.add i) = some (.int .i8 (z1.getD i 0))) ∧ ∀ n ∈ z1, (Lit.int .i8 n).wf = true) (y1 : len1 * 1 ≤ 140737488351232) (w2 : (Lit.int .i64 a2).wf = true) :
    Calls Try.prog 11 #[.slice a0 len0 cap0, .slice a1 len1 cap1, .int .i64 a2] w fun e w' => e = .returned (.bool true) ∧ Below w.heap.size w w' := by
  obtain ⟨l0, rfl, hr0, hm0, hw0, hc0⟩ := ReadsInt.ofRowC w0
  obtain ⟨l1, rfl, hr1, hm1, hw1, hc1⟩ := ReadsInt.ofRowC w1
  obtain ⟨k, h⟩ := P l0 l1 a2 hm0 y0 hw0 hm1 y1 hw1 w2
  refine (pelotonlaw01_RoundPieces.calls k _ _ l0 _ _ l1 a2 true w (Kd.C_of_reads (d := (0 : Int)) (h1 := fun _ => rfl) hr0) hc0 (Kd.C_of_reads (d := (0 : Int)) (h1 := fun _ => rfl) hr1) hc1 h).mono ?_
  rintro e w' ⟨rfl, hd⟩
  exact ⟨rfl, hd⟩

end Go.Proofs.Ytbbemkdfbiffbaa.PRoundPieces
