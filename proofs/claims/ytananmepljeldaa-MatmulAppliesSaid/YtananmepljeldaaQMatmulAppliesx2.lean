-- Written by a program of this session (a turned copy of the print) out of the translation. Lean checks it.
import Derived.Test.YtananmepljeldaaQMatmulAppliesx0
import Derived.Test.YtananmepljeldaaQMatmulAppliesx1
namespace Go.Proofs.Ytananmepljeldaa.QMatmulApplies
open Go.RowKit Go.Proofs.YtananmepljeldaaW.PrintWords Go.Proofs.YtananmepljeldaaW.PrintLast Go.Proofs.YtananmepljeldaaW.PrintMore
attribute [local go_sem] max2_int min2_int max_two min_two max_three min_three max_four min_four   -- for this text's walks alone
open Go.Proofs.YtananmepljeldaaW.PrintWords renaming below_alloc → b_a, pw_below_drewN → b_n, below_drew1 → b_d, below_set → b_s, blk_drewN → k_n, blk_drew → k_d, blk_alloc → k_a
open List renaming setIfInBounds_toArray → l_1, set_cons_zero → l_2, set_cons_succ → l_3, map_toArray → l_4, map_cons → l_5, map_nil → l_6, length_drop → l_7, length_take → l_8
set_option linter.unusedVariables false
set_option linter.unusedSimpArgs false

/-! ### pelotonref04_Ints: function 15 -/
def pelotonref04_Ints.l0 : Nat → List Int → List Int → Int → Option (Bool)
 | 0, _, _, _ => none
 | k + 1, x0, x1, x5 => if x5 < (x0.length : Int) then (if 0 ≤ x5 then (if x5 < (x1.length : Int) then (if (rd x0 x5) = (rd x1 x5) then (pelotonref04_Ints.l0 k x0 x1 (wrap64 (x5 + 1))) else (some false)) else (none)) else (none)) else (some true)
def pelotonref04_Ints.f (k : Nat) (l0 : List Int) (l1 : List Int) : Option (Bool) := if (l0.length : Int) = (l1.length : Int) then (pelotonref04_Ints.l0 k l0 l1 0) else (some false)
theorem pelotonref04_Ints.mono_l : ∀ k, (∀ y0 y1 y2, LeO (pelotonref04_Ints.l0 k y0 y1 y2) (pelotonref04_Ints.l0 (k + 1) y0 y1 y2))
 | 0 => fun _ _ _ r h => by simp [pelotonref04_Ints.l0] at h
 | k + 1 => by
  have ih0 := pelotonref04_Ints.mono_l k
  ·
   intro y0 y1 y2
   unfold pelotonref04_Ints.l0
   repeat' first
   | (with_reducible exact ih0 _ _ _)
   | (with_reducible exact LeO.refl _)
   | (with_reducible exact LeO.none _)
   | (with_reducible refine LeO.ite ?_ ?_)
   | (with_reducible refine LeO.bind ?_ (fun _ => ?_))
   | exact ih0 _ _ _
   | exact LeO.none _
   | refine LeO.ite ?_ ?_
   | refine LeO.bind ?_ (fun _ => ?_)
theorem pelotonref04_Ints.mono : ∀ a0 a1 k, LeO (pelotonref04_Ints.f k a0 a1) (pelotonref04_Ints.f (k + 1) a0 a1) := by
 intro a0 a1 k
 have ih0 := pelotonref04_Ints.mono_l k
 unfold pelotonref04_Ints.f
 repeat' first
   | (with_reducible exact ih0 _ _ _)
   | (with_reducible exact LeO.refl _)
   | (with_reducible exact LeO.none _)
   | (with_reducible refine LeO.ite ?_ ?_)
   | (with_reducible refine LeO.bind ?_ (fun _ => ?_))
   | exact ih0 _ _ _
   | exact LeO.none _
   | refine LeO.ite ?_ ?_
   | refine LeO.bind ?_ (fun _ => ?_)
set_option maxHeartbeats 60000000 in
set_option maxRecDepth 100000 in
theorem pelotonref04_Ints.calls (k : Nat) (A0 : Option Addr) (c0 : Nat) (l0 : List Int) (A1 : Option Addr) (c1 : Nat) (l1 : List Int) (r : Bool) (w : World) (hr0 : Kd.C (Kd.int .i32) w A0 l0.length l0) (hc0 : l0.length ≤ c0) (hr1 : Kd.C (Kd.int .i32) w A1 l1.length l1) (hc1 : l1.length ≤ c1) (h : pelotonref04_Ints.f k l0 l1 = some r) :
  Calls Try.prog 15 #[.slice A0 l0.length c0, .slice A1 l1.length c1] w fun e w' => e = .returned (.bool r) ∧ Drawn0 w w' := by
 have HR0 := Aside0.mk hr0
 have HC0 := Aside0.mk hc0
 clear hr0 hc0
 have HR1 := Aside0.mk hr1
 have HC1 := Aside0.mk hc1
 clear hr1 hc1
 have H : (if (l0.length : Int) = (l1.length : Int) then (pelotonref04_Ints.l0 k l0 l1 0) else (some false)) = some r := h
 clear h
 by_cases c3 : (l0.length : Int) = (l1.length : Int)
 rotate_left
 ·
  rw [if_neg c3] at H
  have c3b0 : ((l0.length : Int) == (l1.length : Int)) = false := beq_eq_false_iff_ne.mpr c3
  have c3b1 : ((l0.length : Int) != (l1.length : Int)) = true := bne_iff_ne.mpr c3
  have c3b2 : (l0.length == l1.length) = false := by first | simpa using c3 | (simp at c3 ⊢; omega)
  obtain rfl := Option.some.inj H
  go_enter Try.func15, Try.ntmps15
  go_wp2
  repeat (go_quiet (fail); try go_wp2)
  go_ret
  exact ⟨by first | rfl | (simp; done) | (simp [*]; done), by repeat (first | exact Drawn0.refl _ | apply Drawn0.step)⟩

 rw [if_pos c3] at H
 have c3b0 : ((l0.length : Int) == (l1.length : Int)) = true := beq_iff_eq.mpr c3
 have c3b1 : ((l0.length : Int) != (l1.length : Int)) = false := bne_eq_false_iff_eq.mpr c3
 have c3b2 : (l0.length == l1.length) = true := by first | simpa using c3 | (simp at c3 ⊢; omega)
 clear c3
 have H' := Aside0.mk H
 clear H
 go_enter Try.func15, Try.ntmps15
 go_wp2
 repeat (go_quiet (fail); try go_wp2)
 go_loopg [5] k (fun kq v5 w' => ∃ (x5_1 : Int), v5 = .int .i64 x5_1 ∧ Aside0 (pelotonref04_Ints.l0 kq l0 l1 x5_1 = some r) ∧ Aside0 (kq ≤ k) ∧ Drawn0 w w')
 case atStart => exact ⟨(0), (by first | rfl | (simp; done) | (simp [*]; done)), H', ⟨Nat.le_refl _⟩, by repeat (first | exact Drawn0.refl _ | apply Drawn0.step)⟩
 case round =>
  clear H'
  try clear c1
  try clear p2
  try clear c3
  try clear c3b0
  try clear c3b1
  try clear c3b2
  obtain ⟨x5_1, rfl, HA, HK1, ⟨m1, rfl⟩⟩ := hrel
  cases gk with
  | zero => exact absurd HA.out (by simp [pelotonref04_Ints.l0])
  | succ k1 =>
   have H := HA.out
   clear HA
   simp only [pelotonref04_Ints.l0] at H
   by_cases c4 : x5_1 < (l0.length : Int)
   rotate_left
   ·
    rw [if_neg c4] at H
    have c4b0 : decide (x5_1 < (l0.length : Int)) = false := decide_eq_false c4
    clear c4
    obtain rfl := Option.some.inj H
    go_wp2
    repeat (go_quiet (fail); try go_wp2)
    go_ret
    exact ⟨by first | rfl | (simp; done) | (simp [*]; done), by repeat (first | exact Drawn0.refl _ | apply Drawn0.step)⟩
   rw [if_pos c4] at H
   have c4b0 : decide (x5_1 < (l0.length : Int)) = true := decide_eq_true c4
   clear c4
   by_cases c5 : 0 ≤ x5_1
   rotate_left
   ·
    rw [if_neg c5] at H
    exact absurd H (by simp)
   rw [if_pos c5] at H
   have c5b0 : decide (0 ≤ x5_1) = true := decide_eq_true c5
   clear c5
   by_cases c6 : x5_1 < (l1.length : Int)
   rotate_left
   ·
    rw [if_neg c6] at H
    exact absurd H (by simp)
   rw [if_pos c6] at H
   have c6b0 : decide (x5_1 < (l1.length : Int)) = true := decide_eq_true c6
   clear c6
   by_cases c7 : (rd l0 x5_1) = (rd l1 x5_1)
   rotate_left
   ·
    rw [if_neg c7] at H
    have c7b0 : ((rd l0 x5_1) == (rd l1 x5_1)) = false := beq_eq_false_iff_ne.mpr c7
    have c7b1 : ((rd l0 x5_1) != (rd l1 x5_1)) = true := bne_iff_ne.mpr c7
    obtain rfl := Option.some.inj H
    have p118 : 0 ≤ (x5_1 : Int) := of_decide_eq_true (by first | (with_reducible assumption) | assumption)
    have q118 : x5_1 < (l0.length : Int) := of_decide_eq_true (by first | (with_reducible assumption) | assumption)
    obtain ⟨ad118, e118, hx118_0⟩ := Kd.at_int HR0.out x5_1 p118 q118
    cases e118
    replace p118 := eq_true p118
    replace q118 := eq_true q118
    have p119 : 0 ≤ (x5_1 : Int) := of_decide_eq_true (by first | (with_reducible assumption) | assumption)
    have q119 : x5_1 < (l1.length : Int) := of_decide_eq_true (by first | (with_reducible assumption) | assumption)
    obtain ⟨ad119, e119, hx119_0⟩ := Kd.at_int HR1.out x5_1 p119 q119
    cases e119
    replace p119 := eq_true p119
    replace q119 := eq_true q119
    go_wp2
    repeat (go_quiet (fail); try go_wp2)
    go_ret
    exact ⟨by first | rfl | (simp; done) | (simp [*]; done), by repeat (first | exact Drawn0.refl _ | apply Drawn0.step)⟩
   rw [if_pos c7] at H
   have c7b0 : ((rd l0 x5_1) == (rd l1 x5_1)) = true := beq_iff_eq.mpr c7
   have c7b1 : ((rd l0 x5_1) != (rd l1 x5_1)) = false := bne_eq_false_iff_eq.mpr c7
   clear c7
   have H' := Aside0.mk H
   clear H
   have p118 : 0 ≤ (x5_1 : Int) := of_decide_eq_true (by first | (with_reducible assumption) | assumption)
   have q118 : x5_1 < (l0.length : Int) := of_decide_eq_true (by first | (with_reducible assumption) | assumption)
   obtain ⟨ad118, e118, hx118_0⟩ := Kd.at_int HR0.out x5_1 p118 q118
   cases e118
   replace p118 := eq_true p118
   replace q118 := eq_true q118
   have p119 : 0 ≤ (x5_1 : Int) := of_decide_eq_true (by first | (with_reducible assumption) | assumption)
   have q119 : x5_1 < (l1.length : Int) := of_decide_eq_true (by first | (with_reducible assumption) | assumption)
   obtain ⟨ad119, e119, hx119_0⟩ := Kd.at_int HR1.out x5_1 p119 q119
   cases e119
   replace p119 := eq_true p119
   replace q119 := eq_true q119
   go_wp2
   repeat (go_quiet (fail); try go_wp2)
   go_roundg k1
   case measure => have := HK1.out; omega
   case rel => exact ⟨(wrap64 (x5_1 + 1)), (by first | rfl | (simp; done) | (simp [*]; done)), H', ⟨by have := HK1.out; omega⟩, by repeat (first | exact Drawn0.refl _ | apply Drawn0.step)⟩
/-! ### pelotonlaw04_awake: function 10 -/
def pelotonlaw04_awake.f (k : Nat)  : Option (Bool) := (matmul_Apply.f k 2 2 (([1, 2, 3, (-4)] : List Int)) (([5, 6] : List Int))).bind fun bt126 => ((matmul_Spans.f k 10 3).bind fun bt130 => (if bt126.2 = 0 then ((pelotonref04_Ints.f k bt126.1 (([17, (-9)] : List Int))).bind fun t137 => (if t137 = true then (if bt130.2 = 0 then (if (bt130.1.length : Int) = 4 then (if 0 < (bt130.1.length : Int) then (if (rd bt130.1 0) = 0 then (if 1 < (bt130.1.length : Int) then (if (rd bt130.1 1) = 3 then (if 2 < (bt130.1.length : Int) then (if (rd bt130.1 2) = 6 then (if 3 < (bt130.1.length : Int) then (some ((rd bt130.1 3) == 10)) else (none)) else (some false)) else (none)) else (some false)) else (none)) else (some false)) else (none)) else (some false)) else (some false)) else (some false))) else (some false)))
theorem pelotonlaw04_awake.mono : ∀ k, LeO (pelotonlaw04_awake.f k ) (pelotonlaw04_awake.f (k + 1) ) := by
 intro  k
 unfold pelotonlaw04_awake.f
 repeat' first
   | (with_reducible exact matmul_Apply.mono _ _ _ _ _)
   | (with_reducible exact matmul_Spans.mono _ _ _)
   | (with_reducible exact pelotonref04_Ints.mono _ _ _)
   | (with_reducible exact LeO.refl _)
   | (with_reducible exact LeO.none _)
   | (with_reducible refine LeO.ite ?_ ?_)
   | (with_reducible refine LeO.bind ?_ (fun _ => ?_))
   | exact matmul_Apply.mono _ _ _ _ _
   | exact matmul_Spans.mono _ _ _
   | exact pelotonref04_Ints.mono _ _ _
   | exact LeO.none _
   | refine LeO.ite ?_ ?_
   | refine LeO.bind ?_ (fun _ => ?_)
set_option maxHeartbeats 60000000 in
set_option maxRecDepth 100000 in
theorem pelotonlaw04_awake.calls (k : Nat)  (r : Bool) (w : World) (h : pelotonlaw04_awake.f k  = some r) :
  Calls Try.prog 10 #[] w fun e w' => e = .returned (.bool r) ∧ Below w.heap.size w w' := by
 have hu30 := Try.underlying30
 have HB := Aside0.mk (Below.refl w.heap.size w)
 have H : ((matmul_Apply.f k 2 2 (([1, 2, 3, (-4)] : List Int)) (([5, 6] : List Int))).bind fun bt126 => ((matmul_Spans.f k 10 3).bind fun bt130 => (if bt126.2 = 0 then ((pelotonref04_Ints.f k bt126.1 (([17, (-9)] : List Int))).bind fun t137 => (if t137 = true then (if bt130.2 = 0 then (if (bt130.1.length : Int) = 4 then (if 0 < (bt130.1.length : Int) then (if (rd bt130.1 0) = 0 then (if 1 < (bt130.1.length : Int) then (if (rd bt130.1 1) = 3 then (if 2 < (bt130.1.length : Int) then (if (rd bt130.1 2) = 6 then (if 3 < (bt130.1.length : Int) then (some ((rd bt130.1 3) == 10)) else (none)) else (some false)) else (none)) else (some false)) else (none)) else (some false)) else (none)) else (some false)) else (some false)) else (some false))) else (some false)))) = some r := h
 clear h
 obtain ⟨y120, hy120⟩ : ∃ y_ : List Int, y_ = (([1, 2, 3, (-4)] : List Int)) := ⟨_, rfl⟩
 replace H : ((matmul_Apply.f k 2 2 y120 (([5, 6] : List Int))).bind fun bt126 => ((matmul_Spans.f k 10 3).bind fun bt130 => (if bt126.2 = 0 then ((pelotonref04_Ints.f k bt126.1 (([17, (-9)] : List Int))).bind fun t137 => (if t137 = true then (if bt130.2 = 0 then (if (bt130.1.length : Int) = 4 then (if 0 < (bt130.1.length : Int) then (if (rd bt130.1 0) = 0 then (if 1 < (bt130.1.length : Int) then (if (rd bt130.1 1) = 3 then (if 2 < (bt130.1.length : Int) then (if (rd bt130.1 2) = 6 then (if 3 < (bt130.1.length : Int) then (some ((rd bt130.1 3) == 10)) else (none)) else (some false)) else (none)) else (some false)) else (none)) else (some false)) else (none)) else (some false)) else (some false)) else (some false))) else (some false)))) = some r := by first | (rw [hy120]; with_reducible exact H) | (have H2_ := (Option.bind_some _ _).symm.trans H; rw [hy120]; with_reducible exact H2_) | (have H2_ := (Option.bind_some _ _).symm.trans H; with_reducible exact H2_) | with_reducible exact H | (rw [hy120]; exact H) | exact H
 have Ny120 := Aside0.mk hy120
 clear hy120
 obtain ⟨y123, hy123⟩ : ∃ y_ : List Int, y_ = (([5, 6] : List Int)) := ⟨_, rfl⟩
 replace H : ((matmul_Apply.f k 2 2 y120 y123).bind fun bt126 => ((matmul_Spans.f k 10 3).bind fun bt130 => (if bt126.2 = 0 then ((pelotonref04_Ints.f k bt126.1 (([17, (-9)] : List Int))).bind fun t137 => (if t137 = true then (if bt130.2 = 0 then (if (bt130.1.length : Int) = 4 then (if 0 < (bt130.1.length : Int) then (if (rd bt130.1 0) = 0 then (if 1 < (bt130.1.length : Int) then (if (rd bt130.1 1) = 3 then (if 2 < (bt130.1.length : Int) then (if (rd bt130.1 2) = 6 then (if 3 < (bt130.1.length : Int) then (some ((rd bt130.1 3) == 10)) else (none)) else (some false)) else (none)) else (some false)) else (none)) else (some false)) else (none)) else (some false)) else (some false)) else (some false))) else (some false)))) = some r := by first | (rw [hy123]; with_reducible exact H) | (have H2_ := (Option.bind_some _ _).symm.trans H; rw [hy123]; with_reducible exact H2_) | (have H2_ := (Option.bind_some _ _).symm.trans H; with_reducible exact H2_) | with_reducible exact H | (rw [hy123]; exact H) | exact H
 have Ny123 := Aside0.mk hy123
 clear hy123
 replace H := Option.bind_eq_some_iff.mp H
 obtain ⟨⟨t126, t129⟩, A10, H⟩ := H
 replace H : ((matmul_Spans.f k 10 3).bind fun bt130 => (if t129 = 0 then ((pelotonref04_Ints.f k t126 (([17, (-9)] : List Int))).bind fun t137 => (if t137 = true then (if bt130.2 = 0 then (if (bt130.1.length : Int) = 4 then (if 0 < (bt130.1.length : Int) then (if (rd bt130.1 0) = 0 then (if 1 < (bt130.1.length : Int) then (if (rd bt130.1 1) = 3 then (if 2 < (bt130.1.length : Int) then (if (rd bt130.1 2) = 6 then (if 3 < (bt130.1.length : Int) then (some ((rd bt130.1 3) == 10)) else (none)) else (some false)) else (none)) else (some false)) else (none)) else (some false)) else (none)) else (some false)) else (some false)) else (some false))) else (some false))) = some r := H
 have A1 := Aside0.mk A10
 clear A10
 replace H := Option.bind_eq_some_iff.mp H
 obtain ⟨⟨t130, t131⟩, A20, H⟩ := H
 replace H : (if t129 = 0 then ((pelotonref04_Ints.f k t126 (([17, (-9)] : List Int))).bind fun t137 => (if t137 = true then (if t131 = 0 then (if (t130.length : Int) = 4 then (if 0 < (t130.length : Int) then (if (rd t130 0) = 0 then (if 1 < (t130.length : Int) then (if (rd t130 1) = 3 then (if 2 < (t130.length : Int) then (if (rd t130 2) = 6 then (if 3 < (t130.length : Int) then (some ((rd t130 3) == 10)) else (none)) else (some false)) else (none)) else (some false)) else (none)) else (some false)) else (none)) else (some false)) else (some false)) else (some false))) else (some false)) = some r := H
 have A2 := Aside0.mk A20
 clear A20
 by_cases c3 : t129 = 0
 rotate_left
 ·
  rw [if_neg c3] at H
  have c3b0 : (t129 == 0) = false := beq_eq_false_iff_ne.mpr c3
  have c3b1 : (t129 != 0) = true := bne_iff_ne.mpr c3
  obtain rfl := Option.some.inj H
  go_enter Try.func10, Try.ntmps10
  go_wp2_with (first | ((with_reducible refine gate_dst (N := 6) rfl ?_); (try (refine gate_guard (by rfl) ?_; dsimp only)); refine Kd.R_lit (Kd.int .i8) _ 35 ?hg (N := 6) ?hd (xs := ([1, 2, 3, (-4)] : List Int)) (inner := [.int .i8 1, .int .i8 2, .int .i8 3, .int .i8 (-4)]) (ok := fun _ => True) (okp := fun _ => True) ?hr ?hp (fun _ hk => hk) trivial (Below.refl _ _) (Nat.le_refl _) (by simp) ?_; (case hd => rfl); (case hg => rfl); (case hr => first | (go_simp; done) | (go_simp; rfl)); (case hp => exact (Reps.one (show Kd.M (Kd.int .i8) _ _ _ 1 [.int .i8 1] from rfl) (Reps.one (show Kd.M (Kd.int .i8) _ _ _ 2 [.int .i8 2] from rfl) (Reps.one (show Kd.M (Kd.int .i8) _ _ _ 3 [.int .i8 3] from rfl) (Reps.one (show Kd.M (Kd.int .i8) _ _ _ (-4) [.int .i8 (-4)] from rfl) (Reps.none _ _)))))); intro v121 w104 ho105 hb hg_ hnew_; clear hg_ hnew_; (first | rw [← Ny120.out] at ho105 | (simp only [Int.reduceToNat] at ho105; rw [← Ny120.out] at ho105)); have n0_ := Aside0.mk (Kd.R_lower ho105 (below_size (by repeat (first | (with_reducible first | exact HB.out | apply b_a | apply b_n | apply b_d) | exact HB.out)))); have n1_ := Aside0.mk (below_step (by repeat (first | (with_reducible first | exact HB.out | apply b_a | apply b_n | apply b_d) | exact HB.out)) hb); clear HB; have HO122 := n0_; have HB := n1_; clear n0_ n1_; clear hb ho105; obtain ⟨Ao106, co106, eo106⟩ := Kd.R_slice HO122.out; subst eo106) | ((with_reducible refine gate_dst (N := 8) rfl ?_); (try (refine gate_guard (by rfl) ?_; dsimp only)); refine Kd.R_lit (Kd.int .i8) _ 35 ?hg (N := 8) ?hd (xs := ([5, 6] : List Int)) (inner := [.int .i8 5, .int .i8 6]) (ok := fun _ => True) (okp := fun _ => True) ?hr ?hp (fun _ hk => hk) trivial (Below.refl _ _) (Nat.le_refl _) (by simp) ?_; (case hd => rfl); (case hg => rfl); (case hr => first | (go_simp; done) | (go_simp; rfl)); (case hp => exact (Reps.one (show Kd.M (Kd.int .i8) _ _ _ 5 [.int .i8 5] from rfl) (Reps.one (show Kd.M (Kd.int .i8) _ _ _ 6 [.int .i8 6] from rfl) (Reps.none _ _)))); intro v124 w107 ho108 hb hg_ hnew_; clear hg_ hnew_; (first | rw [← Ny123.out] at ho108 | (simp only [Int.reduceToNat] at ho108; rw [← Ny123.out] at ho108)); have n0_ := Aside0.mk (Kd.R_elder' (by (with_reducible repeat (first | apply Kd.R_alloc | apply Kd.R_drewN | apply Kd.R_drew)); exact HO122.out) (Kd.R_base ho108) hb); have n1_ := Aside0.mk (Kd.R_lower (Kd.R_new' ho108 (Kd.R_lt (by (with_reducible repeat (first | apply Kd.R_alloc | apply Kd.R_drewN | apply Kd.R_drew)); exact HO122.out))) (below_size (by repeat (first | (with_reducible first | exact HB.out | apply b_a | apply b_n | apply b_d) | exact HB.out)))); have n2_ := Aside0.mk (below_step (by repeat (first | (with_reducible first | exact HB.out | apply b_a | apply b_n | apply b_d) | exact HB.out)) hb); clear HO122; clear HB; have HO122 := n0_; have HO125 := n1_; have HB := n2_; clear n0_ n1_ n2_; clear hb ho108; obtain ⟨Ao109, co109, eo109⟩ := Kd.R_slice HO125.out; subst eo109) | ((with_reducible refine gate_callee (f := 14) rfl ?_); refine goesL_ (some 9) rfl rfl Try.func14 (by kernel_rfl) rfl #[.agg #[.int .i64 2, .int .i64 2, .slice Ao106 y120.length co106], .slice Ao109 y123.length co109] rfl (by (try simp only [l_4, l_5, l_6]); first | done | rfl | (simp only [l_7, l_8]; rfl)) ?_; (with_reducible refine (matmul_Apply.calls k 2 2 _ _ y120 _ _ y123 t126 t129 _ ?side1 ?side2 ?side3 ?side4 A1.out).mono ?_); (case side1 => repeat (first | exact (Kd.R_reads' HO122.out).2.2 | (with_reducible refine Kd.C_alloc ?_ _) | (with_reducible refine Kd.C_drewN ?_ _) | (with_reducible refine Kd.C_drew ?_))); (case side2 => exact (Kd.R_reads' HO122.out).2.1); (case side3 => repeat (first | exact (Kd.R_reads' HO125.out).2.2 | (with_reducible refine Kd.C_alloc ?_ _) | (with_reducible refine Kd.C_drewN ?_ _) | (with_reducible refine Kd.C_drew ?_))); (case side4 => exact (Kd.R_reads' HO125.out).2.1); rintro e w110 ⟨v127, rfl, ho0, hb⟩; (try clear A1); refine ⟨_, rfl, ?_⟩; have n0_ := Aside0.mk (Kd.R_below (by (with_reducible repeat (first | apply Kd.R_alloc | apply Kd.R_drewN | apply Kd.R_drew)); exact HO122.out) hb); have n1_ := Aside0.mk (Kd.R_below (by (with_reducible repeat (first | apply Kd.R_alloc | apply Kd.R_drewN | apply Kd.R_drew)); exact HO125.out) hb); have n2_ := Aside0.mk (Kd.R_lower ho0 (below_size (by repeat (first | (with_reducible first | exact HB.out | apply b_a | apply b_n | apply b_d) | exact HB.out)))); have n3_ := Aside0.mk (below_step (by repeat (first | (with_reducible first | exact HB.out | apply b_a | apply b_n | apply b_d) | exact HB.out)) hb); clear HO122; clear HO125; clear HB; have HO122 := n0_; have HO125 := n1_; have HO128 := n2_; have HB := n3_; clear n0_ n1_ n2_ n3_; (try clear hb); (try clear hb2); (try clear hk); (try clear hi); (try clear ho0)) | ((with_reducible refine gate_callee (f := 11) rfl ?_); refine goesL_ (some 13) rfl rfl Try.func11 (by kernel_rfl) rfl #[.int .i64 10, .int .i64 3] rfl (by (try simp only [l_4, l_5, l_6]); first | done | rfl | (simp only [l_7, l_8]; rfl)) ?_; (with_reducible refine (matmul_Spans.calls k 10 3 t130 t131 _ A2.out).mono ?_); rintro e w111 ⟨v132, rfl, ho0, hb⟩; (try clear A2); refine ⟨_, rfl, ?_⟩; have n0_ := Aside0.mk (Kd.R_below (by (with_reducible repeat (first | apply Kd.R_alloc | apply Kd.R_drewN | apply Kd.R_drew)); exact HO122.out) hb); have n1_ := Aside0.mk (Kd.R_below (by (with_reducible repeat (first | apply Kd.R_alloc | apply Kd.R_drewN | apply Kd.R_drew)); exact HO125.out) hb); have n2_ := Aside0.mk (Kd.R_below (by (with_reducible repeat (first | apply Kd.R_alloc | apply Kd.R_drewN | apply Kd.R_drew)); exact HO128.out) hb); have n3_ := Aside0.mk (Kd.R_lower ho0 (below_size (by repeat (first | (with_reducible first | exact HB.out | apply b_a | apply b_n | apply b_d) | exact HB.out)))); have n4_ := Aside0.mk (below_step (by repeat (first | (with_reducible first | exact HB.out | apply b_a | apply b_n | apply b_d) | exact HB.out)) hb); clear HO122; clear HO125; clear HO128; clear HB; have HO122 := n0_; have HO125 := n1_; have HO128 := n2_; have HO133 := n3_; have HB := n4_; clear n0_ n1_ n2_ n3_ n4_; (try clear hb); (try clear hb2); (try clear hk); (try clear hi); (try clear ho0)))
  go_ret
  exact ⟨by first | rfl | (simp [errW_none, errW_some] <;> rfl) | (simp [*, errW_none, errW_some] <;> rfl), by repeat (first | (with_reducible first | exact HB.out | apply b_a | apply b_n | apply b_d) | exact HB.out)⟩

 rw [if_pos c3] at H
 have c3b0 : (t129 == 0) = true := beq_iff_eq.mpr c3
 have c3b1 : (t129 != 0) = false := bne_eq_false_iff_eq.mpr c3
 clear c3
 obtain ⟨y134, hy134⟩ : ∃ y_ : List Int, y_ = (([17, (-9)] : List Int)) := ⟨_, rfl⟩
 replace H : ((pelotonref04_Ints.f k t126 y134).bind fun t137 => (if t137 = true then (if t131 = 0 then (if (t130.length : Int) = 4 then (if 0 < (t130.length : Int) then (if (rd t130 0) = 0 then (if 1 < (t130.length : Int) then (if (rd t130 1) = 3 then (if 2 < (t130.length : Int) then (if (rd t130 2) = 6 then (if 3 < (t130.length : Int) then (some ((rd t130 3) == 10)) else (none)) else (some false)) else (none)) else (some false)) else (none)) else (some false)) else (none)) else (some false)) else (some false)) else (some false))) = some r := by first | (rw [hy134]; with_reducible exact H) | (have H2_ := (Option.bind_some _ _).symm.trans H; rw [hy134]; with_reducible exact H2_) | (have H2_ := (Option.bind_some _ _).symm.trans H; with_reducible exact H2_) | with_reducible exact H | (rw [hy134]; exact H) | exact H
 have Ny134 := Aside0.mk hy134
 clear hy134
 replace H := Option.bind_eq_some_iff.mp H
 obtain ⟨t137, A40, H⟩ := H
 replace H : (if t137 = true then (if t131 = 0 then (if (t130.length : Int) = 4 then (if 0 < (t130.length : Int) then (if (rd t130 0) = 0 then (if 1 < (t130.length : Int) then (if (rd t130 1) = 3 then (if 2 < (t130.length : Int) then (if (rd t130 2) = 6 then (if 3 < (t130.length : Int) then (some ((rd t130 3) == 10)) else (none)) else (some false)) else (none)) else (some false)) else (none)) else (some false)) else (none)) else (some false)) else (some false)) else (some false)) = some r := H
 have A4 := Aside0.mk A40
 clear A40
 by_cases c5 : t137 = true
 rotate_left
 ·
  replace c5 := Bool.eq_false_iff.mpr c5
  subst c5
  have H1 : (some false) = some r := by rw [if_neg (show ¬ (false = true) by decide)] at H; exact H
  clear H
  have H := H1
  clear H1
  obtain rfl := Option.some.inj H
  go_enter Try.func10, Try.ntmps10
  go_wp2_with (first | ((with_reducible refine gate_dst (N := 6) rfl ?_); (try (refine gate_guard (by rfl) ?_; dsimp only)); refine Kd.R_lit (Kd.int .i8) _ 35 ?hg (N := 6) ?hd (xs := ([1, 2, 3, (-4)] : List Int)) (inner := [.int .i8 1, .int .i8 2, .int .i8 3, .int .i8 (-4)]) (ok := fun _ => True) (okp := fun _ => True) ?hr ?hp (fun _ hk => hk) trivial (Below.refl _ _) (Nat.le_refl _) (by simp) ?_; (case hd => rfl); (case hg => rfl); (case hr => first | (go_simp; done) | (go_simp; rfl)); (case hp => exact (Reps.one (show Kd.M (Kd.int .i8) _ _ _ 1 [.int .i8 1] from rfl) (Reps.one (show Kd.M (Kd.int .i8) _ _ _ 2 [.int .i8 2] from rfl) (Reps.one (show Kd.M (Kd.int .i8) _ _ _ 3 [.int .i8 3] from rfl) (Reps.one (show Kd.M (Kd.int .i8) _ _ _ (-4) [.int .i8 (-4)] from rfl) (Reps.none _ _)))))); intro v121 w92 ho93 hb hg_ hnew_; clear hg_ hnew_; (first | rw [← Ny120.out] at ho93 | (simp only [Int.reduceToNat] at ho93; rw [← Ny120.out] at ho93)); have n0_ := Aside0.mk (Kd.R_lower ho93 (below_size (by repeat (first | (with_reducible first | exact HB.out | apply b_a | apply b_n | apply b_d) | exact HB.out)))); have n1_ := Aside0.mk (below_step (by repeat (first | (with_reducible first | exact HB.out | apply b_a | apply b_n | apply b_d) | exact HB.out)) hb); clear HB; have HO122 := n0_; have HB := n1_; clear n0_ n1_; clear hb ho93; obtain ⟨Ao94, co94, eo94⟩ := Kd.R_slice HO122.out; subst eo94) | ((with_reducible refine gate_dst (N := 8) rfl ?_); (try (refine gate_guard (by rfl) ?_; dsimp only)); refine Kd.R_lit (Kd.int .i8) _ 35 ?hg (N := 8) ?hd (xs := ([5, 6] : List Int)) (inner := [.int .i8 5, .int .i8 6]) (ok := fun _ => True) (okp := fun _ => True) ?hr ?hp (fun _ hk => hk) trivial (Below.refl _ _) (Nat.le_refl _) (by simp) ?_; (case hd => rfl); (case hg => rfl); (case hr => first | (go_simp; done) | (go_simp; rfl)); (case hp => exact (Reps.one (show Kd.M (Kd.int .i8) _ _ _ 5 [.int .i8 5] from rfl) (Reps.one (show Kd.M (Kd.int .i8) _ _ _ 6 [.int .i8 6] from rfl) (Reps.none _ _)))); intro v124 w95 ho96 hb hg_ hnew_; clear hg_ hnew_; (first | rw [← Ny123.out] at ho96 | (simp only [Int.reduceToNat] at ho96; rw [← Ny123.out] at ho96)); have n0_ := Aside0.mk (Kd.R_elder' (by (with_reducible repeat (first | apply Kd.R_alloc | apply Kd.R_drewN | apply Kd.R_drew)); exact HO122.out) (Kd.R_base ho96) hb); have n1_ := Aside0.mk (Kd.R_lower (Kd.R_new' ho96 (Kd.R_lt (by (with_reducible repeat (first | apply Kd.R_alloc | apply Kd.R_drewN | apply Kd.R_drew)); exact HO122.out))) (below_size (by repeat (first | (with_reducible first | exact HB.out | apply b_a | apply b_n | apply b_d) | exact HB.out)))); have n2_ := Aside0.mk (below_step (by repeat (first | (with_reducible first | exact HB.out | apply b_a | apply b_n | apply b_d) | exact HB.out)) hb); clear HO122; clear HB; have HO122 := n0_; have HO125 := n1_; have HB := n2_; clear n0_ n1_ n2_; clear hb ho96; obtain ⟨Ao97, co97, eo97⟩ := Kd.R_slice HO125.out; subst eo97) | ((with_reducible refine gate_callee (f := 14) rfl ?_); refine goesL_ (some 9) rfl rfl Try.func14 (by kernel_rfl) rfl #[.agg #[.int .i64 2, .int .i64 2, .slice Ao94 y120.length co94], .slice Ao97 y123.length co97] rfl (by (try simp only [l_4, l_5, l_6]); first | done | rfl | (simp only [l_7, l_8]; rfl)) ?_; (with_reducible refine (matmul_Apply.calls k 2 2 _ _ y120 _ _ y123 t126 t129 _ ?side1 ?side2 ?side3 ?side4 A1.out).mono ?_); (case side1 => repeat (first | exact (Kd.R_reads' HO122.out).2.2 | (with_reducible refine Kd.C_alloc ?_ _) | (with_reducible refine Kd.C_drewN ?_ _) | (with_reducible refine Kd.C_drew ?_))); (case side2 => exact (Kd.R_reads' HO122.out).2.1); (case side3 => repeat (first | exact (Kd.R_reads' HO125.out).2.2 | (with_reducible refine Kd.C_alloc ?_ _) | (with_reducible refine Kd.C_drewN ?_ _) | (with_reducible refine Kd.C_drew ?_))); (case side4 => exact (Kd.R_reads' HO125.out).2.1); rintro e w98 ⟨v127, rfl, ho0, hb⟩; (try clear A1); refine ⟨_, rfl, ?_⟩; have n0_ := Aside0.mk (Kd.R_below (by (with_reducible repeat (first | apply Kd.R_alloc | apply Kd.R_drewN | apply Kd.R_drew)); exact HO122.out) hb); have n1_ := Aside0.mk (Kd.R_below (by (with_reducible repeat (first | apply Kd.R_alloc | apply Kd.R_drewN | apply Kd.R_drew)); exact HO125.out) hb); have n2_ := Aside0.mk (Kd.R_lower ho0 (below_size (by repeat (first | (with_reducible first | exact HB.out | apply b_a | apply b_n | apply b_d) | exact HB.out)))); have n3_ := Aside0.mk (below_step (by repeat (first | (with_reducible first | exact HB.out | apply b_a | apply b_n | apply b_d) | exact HB.out)) hb); clear HO122; clear HO125; clear HB; have HO122 := n0_; have HO125 := n1_; have HO128 := n2_; have HB := n3_; clear n0_ n1_ n2_ n3_; (try clear hb); (try clear hb2); (try clear hk); (try clear hi); (try clear ho0)) | ((with_reducible refine gate_callee (f := 11) rfl ?_); refine goesL_ (some 13) rfl rfl Try.func11 (by kernel_rfl) rfl #[.int .i64 10, .int .i64 3] rfl (by (try simp only [l_4, l_5, l_6]); first | done | rfl | (simp only [l_7, l_8]; rfl)) ?_; (with_reducible refine (matmul_Spans.calls k 10 3 t130 t131 _ A2.out).mono ?_); rintro e w99 ⟨v132, rfl, ho0, hb⟩; (try clear A2); refine ⟨_, rfl, ?_⟩; have n0_ := Aside0.mk (Kd.R_below (by (with_reducible repeat (first | apply Kd.R_alloc | apply Kd.R_drewN | apply Kd.R_drew)); exact HO122.out) hb); have n1_ := Aside0.mk (Kd.R_below (by (with_reducible repeat (first | apply Kd.R_alloc | apply Kd.R_drewN | apply Kd.R_drew)); exact HO125.out) hb); have n2_ := Aside0.mk (Kd.R_below (by (with_reducible repeat (first | apply Kd.R_alloc | apply Kd.R_drewN | apply Kd.R_drew)); exact HO128.out) hb); have n3_ := Aside0.mk (Kd.R_lower ho0 (below_size (by repeat (first | (with_reducible first | exact HB.out | apply b_a | apply b_n | apply b_d) | exact HB.out)))); have n4_ := Aside0.mk (below_step (by repeat (first | (with_reducible first | exact HB.out | apply b_a | apply b_n | apply b_d) | exact HB.out)) hb); clear HO122; clear HO125; clear HO128; clear HB; have HO122 := n0_; have HO125 := n1_; have HO128 := n2_; have HO133 := n3_; have HB := n4_; clear n0_ n1_ n2_ n3_ n4_; (try clear hb); (try clear hb2); (try clear hk); (try clear hi); (try clear ho0)) | ((with_reducible refine gate_dst (N := 20) rfl ?_); (try (refine gate_guard (by rfl) ?_; dsimp only)); refine Kd.R_lit (Kd.int .i32) _ 21 ?hg (N := 20) ?hd (xs := ([17, (-9)] : List Int)) (inner := [.int .i32 17, .int .i32 (-9)]) (ok := fun _ => True) (okp := fun _ => True) ?hr ?hp (fun _ hk => hk) trivial (Below.refl _ _) (Nat.le_refl _) (by simp) ?_; (case hd => rfl); (case hg => rfl); (case hr => first | (go_simp; done) | (go_simp; rfl)); (case hp => exact (Reps.one (show Kd.M (Kd.int .i32) _ _ _ 17 [.int .i32 17] from rfl) (Reps.one (show Kd.M (Kd.int .i32) _ _ _ (-9) [.int .i32 (-9)] from rfl) (Reps.none _ _)))); intro v135 w100 ho101 hb hg_ hnew_; clear hg_ hnew_; (first | rw [← Ny134.out] at ho101 | (simp only [Int.reduceToNat] at ho101; rw [← Ny134.out] at ho101)); have n0_ := Aside0.mk (Kd.R_below (by (with_reducible repeat (first | apply Kd.R_alloc | apply Kd.R_drewN | apply Kd.R_drew)); exact HO122.out) hb); have n1_ := Aside0.mk (Kd.R_below (by (with_reducible repeat (first | apply Kd.R_alloc | apply Kd.R_drewN | apply Kd.R_drew)); exact HO125.out) hb); have n2_ := Aside0.mk (Kd.R_elder' (by (with_reducible repeat (first | apply Kd.R_alloc | apply Kd.R_drewN | apply Kd.R_drew)); exact HO128.out) (Kd.R_base ho101) hb); have n3_ := Aside0.mk (Kd.R_below (by (with_reducible repeat (first | apply Kd.R_alloc | apply Kd.R_drewN | apply Kd.R_drew)); exact HO133.out) hb); have n4_ := Aside0.mk (Kd.R_lower (Kd.R_new' ho101 (Kd.R_lt (by (with_reducible repeat (first | apply Kd.R_alloc | apply Kd.R_drewN | apply Kd.R_drew)); exact HO128.out))) (below_size (by repeat (first | (with_reducible first | exact HB.out | apply b_a | apply b_n | apply b_d) | exact HB.out)))); have n5_ := Aside0.mk (below_step (by repeat (first | (with_reducible first | exact HB.out | apply b_a | apply b_n | apply b_d) | exact HB.out)) hb); clear HO122; clear HO125; clear HO128; clear HO133; clear HB; have HO122 := n0_; have HO125 := n1_; have HO128 := n2_; have HO133 := n3_; have HO136 := n4_; have HB := n5_; clear n0_ n1_ n2_ n3_ n4_ n5_; clear hb ho101; obtain ⟨Ao102, co102, eo102⟩ := Kd.R_slice HO128.out; subst eo102; obtain ⟨Ao103, co103, eo103⟩ := Kd.R_slice HO136.out; subst eo103) | (go_at_call 15; (with_reducible refine (pelotonref04_Ints.calls k _ _ t126 _ _ y134 false _ ?side1 ?side2 ?side3 ?side4 A4.out).mono ?_); (case side1 => repeat (first | exact (Kd.R_reads' HO128.out).2.2 | (with_reducible refine Kd.C_alloc ?_ _) | (with_reducible refine Kd.C_drewN ?_ _) | (with_reducible refine Kd.C_drew ?_))); (case side2 => exact (Kd.R_reads' HO128.out).2.1); (case side3 => repeat (first | exact (Kd.R_reads' HO136.out).2.2 | (with_reducible refine Kd.C_alloc ?_ _) | (with_reducible refine Kd.C_drewN ?_ _) | (with_reducible refine Kd.C_drew ?_))); (case side4 => exact (Kd.R_reads' HO136.out).2.1); rintro e w' ⟨rfl, ⟨nd, rfl⟩⟩))
  go_ret
  exact ⟨by first | rfl | (simp [errW_none, errW_some] <;> rfl) | (simp [*, errW_none, errW_some] <;> rfl), by repeat (first | (with_reducible first | exact HB.out | apply b_a | apply b_n | apply b_d) | exact HB.out)⟩
 subst c5
 have H1 : (if t131 = 0 then (if (t130.length : Int) = 4 then (if 0 < (t130.length : Int) then (if (rd t130 0) = 0 then (if 1 < (t130.length : Int) then (if (rd t130 1) = 3 then (if 2 < (t130.length : Int) then (if (rd t130 2) = 6 then (if 3 < (t130.length : Int) then (some ((rd t130 3) == 10)) else (none)) else (some false)) else (none)) else (some false)) else (none)) else (some false)) else (none)) else (some false)) else (some false)) = some r := by rw [if_pos rfl] at H; exact H
 clear H
 have H := H1
 clear H1
 by_cases c6 : t131 = 0
 rotate_left
 ·
  rw [if_neg c6] at H
  have c6b0 : (t131 == 0) = false := beq_eq_false_iff_ne.mpr c6
  have c6b1 : (t131 != 0) = true := bne_iff_ne.mpr c6
  obtain rfl := Option.some.inj H
  go_enter Try.func10, Try.ntmps10
  go_wp2_with (first | ((with_reducible refine gate_dst (N := 6) rfl ?_); (try (refine gate_guard (by rfl) ?_; dsimp only)); refine Kd.R_lit (Kd.int .i8) _ 35 ?hg (N := 6) ?hd (xs := ([1, 2, 3, (-4)] : List Int)) (inner := [.int .i8 1, .int .i8 2, .int .i8 3, .int .i8 (-4)]) (ok := fun _ => True) (okp := fun _ => True) ?hr ?hp (fun _ hk => hk) trivial (Below.refl _ _) (Nat.le_refl _) (by simp) ?_; (case hd => rfl); (case hg => rfl); (case hr => first | (go_simp; done) | (go_simp; rfl)); (case hp => exact (Reps.one (show Kd.M (Kd.int .i8) _ _ _ 1 [.int .i8 1] from rfl) (Reps.one (show Kd.M (Kd.int .i8) _ _ _ 2 [.int .i8 2] from rfl) (Reps.one (show Kd.M (Kd.int .i8) _ _ _ 3 [.int .i8 3] from rfl) (Reps.one (show Kd.M (Kd.int .i8) _ _ _ (-4) [.int .i8 (-4)] from rfl) (Reps.none _ _)))))); intro v121 w80 ho81 hb hg_ hnew_; clear hg_ hnew_; (first | rw [← Ny120.out] at ho81 | (simp only [Int.reduceToNat] at ho81; rw [← Ny120.out] at ho81)); have n0_ := Aside0.mk (Kd.R_lower ho81 (below_size (by repeat (first | (with_reducible first | exact HB.out | apply b_a | apply b_n | apply b_d) | exact HB.out)))); have n1_ := Aside0.mk (below_step (by repeat (first | (with_reducible first | exact HB.out | apply b_a | apply b_n | apply b_d) | exact HB.out)) hb); clear HB; have HO122 := n0_; have HB := n1_; clear n0_ n1_; clear hb ho81; obtain ⟨Ao82, co82, eo82⟩ := Kd.R_slice HO122.out; subst eo82) | ((with_reducible refine gate_dst (N := 8) rfl ?_); (try (refine gate_guard (by rfl) ?_; dsimp only)); refine Kd.R_lit (Kd.int .i8) _ 35 ?hg (N := 8) ?hd (xs := ([5, 6] : List Int)) (inner := [.int .i8 5, .int .i8 6]) (ok := fun _ => True) (okp := fun _ => True) ?hr ?hp (fun _ hk => hk) trivial (Below.refl _ _) (Nat.le_refl _) (by simp) ?_; (case hd => rfl); (case hg => rfl); (case hr => first | (go_simp; done) | (go_simp; rfl)); (case hp => exact (Reps.one (show Kd.M (Kd.int .i8) _ _ _ 5 [.int .i8 5] from rfl) (Reps.one (show Kd.M (Kd.int .i8) _ _ _ 6 [.int .i8 6] from rfl) (Reps.none _ _)))); intro v124 w83 ho84 hb hg_ hnew_; clear hg_ hnew_; (first | rw [← Ny123.out] at ho84 | (simp only [Int.reduceToNat] at ho84; rw [← Ny123.out] at ho84)); have n0_ := Aside0.mk (Kd.R_elder' (by (with_reducible repeat (first | apply Kd.R_alloc | apply Kd.R_drewN | apply Kd.R_drew)); exact HO122.out) (Kd.R_base ho84) hb); have n1_ := Aside0.mk (Kd.R_lower (Kd.R_new' ho84 (Kd.R_lt (by (with_reducible repeat (first | apply Kd.R_alloc | apply Kd.R_drewN | apply Kd.R_drew)); exact HO122.out))) (below_size (by repeat (first | (with_reducible first | exact HB.out | apply b_a | apply b_n | apply b_d) | exact HB.out)))); have n2_ := Aside0.mk (below_step (by repeat (first | (with_reducible first | exact HB.out | apply b_a | apply b_n | apply b_d) | exact HB.out)) hb); clear HO122; clear HB; have HO122 := n0_; have HO125 := n1_; have HB := n2_; clear n0_ n1_ n2_; clear hb ho84; obtain ⟨Ao85, co85, eo85⟩ := Kd.R_slice HO125.out; subst eo85) | ((with_reducible refine gate_callee (f := 14) rfl ?_); refine goesL_ (some 9) rfl rfl Try.func14 (by kernel_rfl) rfl #[.agg #[.int .i64 2, .int .i64 2, .slice Ao82 y120.length co82], .slice Ao85 y123.length co85] rfl (by (try simp only [l_4, l_5, l_6]); first | done | rfl | (simp only [l_7, l_8]; rfl)) ?_; (with_reducible refine (matmul_Apply.calls k 2 2 _ _ y120 _ _ y123 t126 t129 _ ?side1 ?side2 ?side3 ?side4 A1.out).mono ?_); (case side1 => repeat (first | exact (Kd.R_reads' HO122.out).2.2 | (with_reducible refine Kd.C_alloc ?_ _) | (with_reducible refine Kd.C_drewN ?_ _) | (with_reducible refine Kd.C_drew ?_))); (case side2 => exact (Kd.R_reads' HO122.out).2.1); (case side3 => repeat (first | exact (Kd.R_reads' HO125.out).2.2 | (with_reducible refine Kd.C_alloc ?_ _) | (with_reducible refine Kd.C_drewN ?_ _) | (with_reducible refine Kd.C_drew ?_))); (case side4 => exact (Kd.R_reads' HO125.out).2.1); rintro e w86 ⟨v127, rfl, ho0, hb⟩; (try clear A1); refine ⟨_, rfl, ?_⟩; have n0_ := Aside0.mk (Kd.R_below (by (with_reducible repeat (first | apply Kd.R_alloc | apply Kd.R_drewN | apply Kd.R_drew)); exact HO122.out) hb); have n1_ := Aside0.mk (Kd.R_below (by (with_reducible repeat (first | apply Kd.R_alloc | apply Kd.R_drewN | apply Kd.R_drew)); exact HO125.out) hb); have n2_ := Aside0.mk (Kd.R_lower ho0 (below_size (by repeat (first | (with_reducible first | exact HB.out | apply b_a | apply b_n | apply b_d) | exact HB.out)))); have n3_ := Aside0.mk (below_step (by repeat (first | (with_reducible first | exact HB.out | apply b_a | apply b_n | apply b_d) | exact HB.out)) hb); clear HO122; clear HO125; clear HB; have HO122 := n0_; have HO125 := n1_; have HO128 := n2_; have HB := n3_; clear n0_ n1_ n2_ n3_; (try clear hb); (try clear hb2); (try clear hk); (try clear hi); (try clear ho0)) | ((with_reducible refine gate_callee (f := 11) rfl ?_); refine goesL_ (some 13) rfl rfl Try.func11 (by kernel_rfl) rfl #[.int .i64 10, .int .i64 3] rfl (by (try simp only [l_4, l_5, l_6]); first | done | rfl | (simp only [l_7, l_8]; rfl)) ?_; (with_reducible refine (matmul_Spans.calls k 10 3 t130 t131 _ A2.out).mono ?_); rintro e w87 ⟨v132, rfl, ho0, hb⟩; (try clear A2); refine ⟨_, rfl, ?_⟩; have n0_ := Aside0.mk (Kd.R_below (by (with_reducible repeat (first | apply Kd.R_alloc | apply Kd.R_drewN | apply Kd.R_drew)); exact HO122.out) hb); have n1_ := Aside0.mk (Kd.R_below (by (with_reducible repeat (first | apply Kd.R_alloc | apply Kd.R_drewN | apply Kd.R_drew)); exact HO125.out) hb); have n2_ := Aside0.mk (Kd.R_below (by (with_reducible repeat (first | apply Kd.R_alloc | apply Kd.R_drewN | apply Kd.R_drew)); exact HO128.out) hb); have n3_ := Aside0.mk (Kd.R_lower ho0 (below_size (by repeat (first | (with_reducible first | exact HB.out | apply b_a | apply b_n | apply b_d) | exact HB.out)))); have n4_ := Aside0.mk (below_step (by repeat (first | (with_reducible first | exact HB.out | apply b_a | apply b_n | apply b_d) | exact HB.out)) hb); clear HO122; clear HO125; clear HO128; clear HB; have HO122 := n0_; have HO125 := n1_; have HO128 := n2_; have HO133 := n3_; have HB := n4_; clear n0_ n1_ n2_ n3_ n4_; (try clear hb); (try clear hb2); (try clear hk); (try clear hi); (try clear ho0)) | ((with_reducible refine gate_dst (N := 20) rfl ?_); (try (refine gate_guard (by rfl) ?_; dsimp only)); refine Kd.R_lit (Kd.int .i32) _ 21 ?hg (N := 20) ?hd (xs := ([17, (-9)] : List Int)) (inner := [.int .i32 17, .int .i32 (-9)]) (ok := fun _ => True) (okp := fun _ => True) ?hr ?hp (fun _ hk => hk) trivial (Below.refl _ _) (Nat.le_refl _) (by simp) ?_; (case hd => rfl); (case hg => rfl); (case hr => first | (go_simp; done) | (go_simp; rfl)); (case hp => exact (Reps.one (show Kd.M (Kd.int .i32) _ _ _ 17 [.int .i32 17] from rfl) (Reps.one (show Kd.M (Kd.int .i32) _ _ _ (-9) [.int .i32 (-9)] from rfl) (Reps.none _ _)))); intro v135 w88 ho89 hb hg_ hnew_; clear hg_ hnew_; (first | rw [← Ny134.out] at ho89 | (simp only [Int.reduceToNat] at ho89; rw [← Ny134.out] at ho89)); have n0_ := Aside0.mk (Kd.R_below (by (with_reducible repeat (first | apply Kd.R_alloc | apply Kd.R_drewN | apply Kd.R_drew)); exact HO122.out) hb); have n1_ := Aside0.mk (Kd.R_below (by (with_reducible repeat (first | apply Kd.R_alloc | apply Kd.R_drewN | apply Kd.R_drew)); exact HO125.out) hb); have n2_ := Aside0.mk (Kd.R_elder' (by (with_reducible repeat (first | apply Kd.R_alloc | apply Kd.R_drewN | apply Kd.R_drew)); exact HO128.out) (Kd.R_base ho89) hb); have n3_ := Aside0.mk (Kd.R_below (by (with_reducible repeat (first | apply Kd.R_alloc | apply Kd.R_drewN | apply Kd.R_drew)); exact HO133.out) hb); have n4_ := Aside0.mk (Kd.R_lower (Kd.R_new' ho89 (Kd.R_lt (by (with_reducible repeat (first | apply Kd.R_alloc | apply Kd.R_drewN | apply Kd.R_drew)); exact HO128.out))) (below_size (by repeat (first | (with_reducible first | exact HB.out | apply b_a | apply b_n | apply b_d) | exact HB.out)))); have n5_ := Aside0.mk (below_step (by repeat (first | (with_reducible first | exact HB.out | apply b_a | apply b_n | apply b_d) | exact HB.out)) hb); clear HO122; clear HO125; clear HO128; clear HO133; clear HB; have HO122 := n0_; have HO125 := n1_; have HO128 := n2_; have HO133 := n3_; have HO136 := n4_; have HB := n5_; clear n0_ n1_ n2_ n3_ n4_ n5_; clear hb ho89; obtain ⟨Ao90, co90, eo90⟩ := Kd.R_slice HO128.out; subst eo90; obtain ⟨Ao91, co91, eo91⟩ := Kd.R_slice HO136.out; subst eo91) | (go_at_call 15; (with_reducible refine (pelotonref04_Ints.calls k _ _ t126 _ _ y134 true _ ?side1 ?side2 ?side3 ?side4 A4.out).mono ?_); (case side1 => repeat (first | exact (Kd.R_reads' HO128.out).2.2 | (with_reducible refine Kd.C_alloc ?_ _) | (with_reducible refine Kd.C_drewN ?_ _) | (with_reducible refine Kd.C_drew ?_))); (case side2 => exact (Kd.R_reads' HO128.out).2.1); (case side3 => repeat (first | exact (Kd.R_reads' HO136.out).2.2 | (with_reducible refine Kd.C_alloc ?_ _) | (with_reducible refine Kd.C_drewN ?_ _) | (with_reducible refine Kd.C_drew ?_))); (case side4 => exact (Kd.R_reads' HO136.out).2.1); rintro e w' ⟨rfl, ⟨nd, rfl⟩⟩))
  go_ret
  exact ⟨by first | rfl | (simp [errW_none, errW_some] <;> rfl) | (simp [*, errW_none, errW_some] <;> rfl), by repeat (first | (with_reducible first | exact HB.out | apply b_a | apply b_n | apply b_d) | exact HB.out)⟩
 rw [if_pos c6] at H
 have c6b0 : (t131 == 0) = true := beq_iff_eq.mpr c6
 have c6b1 : (t131 != 0) = false := bne_eq_false_iff_eq.mpr c6
 clear c6
 by_cases c7 : (t130.length : Int) = 4
 rotate_left
 ·
  rw [if_neg c7] at H
  have c7b0 : ((t130.length : Int) == 4) = false := beq_eq_false_iff_ne.mpr c7
  have c7b1 : ((t130.length : Int) != 4) = true := bne_iff_ne.mpr c7
  obtain rfl := Option.some.inj H
  go_enter Try.func10, Try.ntmps10
  go_wp2_with (first | ((with_reducible refine gate_dst (N := 6) rfl ?_); (try (refine gate_guard (by rfl) ?_; dsimp only)); refine Kd.R_lit (Kd.int .i8) _ 35 ?hg (N := 6) ?hd (xs := ([1, 2, 3, (-4)] : List Int)) (inner := [.int .i8 1, .int .i8 2, .int .i8 3, .int .i8 (-4)]) (ok := fun _ => True) (okp := fun _ => True) ?hr ?hp (fun _ hk => hk) trivial (Below.refl _ _) (Nat.le_refl _) (by simp) ?_; (case hd => rfl); (case hg => rfl); (case hr => first | (go_simp; done) | (go_simp; rfl)); (case hp => exact (Reps.one (show Kd.M (Kd.int .i8) _ _ _ 1 [.int .i8 1] from rfl) (Reps.one (show Kd.M (Kd.int .i8) _ _ _ 2 [.int .i8 2] from rfl) (Reps.one (show Kd.M (Kd.int .i8) _ _ _ 3 [.int .i8 3] from rfl) (Reps.one (show Kd.M (Kd.int .i8) _ _ _ (-4) [.int .i8 (-4)] from rfl) (Reps.none _ _)))))); intro v121 w67 ho68 hb hg_ hnew_; clear hg_ hnew_; (first | rw [← Ny120.out] at ho68 | (simp only [Int.reduceToNat] at ho68; rw [← Ny120.out] at ho68)); have n0_ := Aside0.mk (Kd.R_lower ho68 (below_size (by repeat (first | (with_reducible first | exact HB.out | apply b_a | apply b_n | apply b_d) | exact HB.out)))); have n1_ := Aside0.mk (below_step (by repeat (first | (with_reducible first | exact HB.out | apply b_a | apply b_n | apply b_d) | exact HB.out)) hb); clear HB; have HO122 := n0_; have HB := n1_; clear n0_ n1_; clear hb ho68; obtain ⟨Ao69, co69, eo69⟩ := Kd.R_slice HO122.out; subst eo69) | ((with_reducible refine gate_dst (N := 8) rfl ?_); (try (refine gate_guard (by rfl) ?_; dsimp only)); refine Kd.R_lit (Kd.int .i8) _ 35 ?hg (N := 8) ?hd (xs := ([5, 6] : List Int)) (inner := [.int .i8 5, .int .i8 6]) (ok := fun _ => True) (okp := fun _ => True) ?hr ?hp (fun _ hk => hk) trivial (Below.refl _ _) (Nat.le_refl _) (by simp) ?_; (case hd => rfl); (case hg => rfl); (case hr => first | (go_simp; done) | (go_simp; rfl)); (case hp => exact (Reps.one (show Kd.M (Kd.int .i8) _ _ _ 5 [.int .i8 5] from rfl) (Reps.one (show Kd.M (Kd.int .i8) _ _ _ 6 [.int .i8 6] from rfl) (Reps.none _ _)))); intro v124 w70 ho71 hb hg_ hnew_; clear hg_ hnew_; (first | rw [← Ny123.out] at ho71 | (simp only [Int.reduceToNat] at ho71; rw [← Ny123.out] at ho71)); have n0_ := Aside0.mk (Kd.R_elder' (by (with_reducible repeat (first | apply Kd.R_alloc | apply Kd.R_drewN | apply Kd.R_drew)); exact HO122.out) (Kd.R_base ho71) hb); have n1_ := Aside0.mk (Kd.R_lower (Kd.R_new' ho71 (Kd.R_lt (by (with_reducible repeat (first | apply Kd.R_alloc | apply Kd.R_drewN | apply Kd.R_drew)); exact HO122.out))) (below_size (by repeat (first | (with_reducible first | exact HB.out | apply b_a | apply b_n | apply b_d) | exact HB.out)))); have n2_ := Aside0.mk (below_step (by repeat (first | (with_reducible first | exact HB.out | apply b_a | apply b_n | apply b_d) | exact HB.out)) hb); clear HO122; clear HB; have HO122 := n0_; have HO125 := n1_; have HB := n2_; clear n0_ n1_ n2_; clear hb ho71; obtain ⟨Ao72, co72, eo72⟩ := Kd.R_slice HO125.out; subst eo72) | ((with_reducible refine gate_callee (f := 14) rfl ?_); refine goesL_ (some 9) rfl rfl Try.func14 (by kernel_rfl) rfl #[.agg #[.int .i64 2, .int .i64 2, .slice Ao69 y120.length co69], .slice Ao72 y123.length co72] rfl (by (try simp only [l_4, l_5, l_6]); first | done | rfl | (simp only [l_7, l_8]; rfl)) ?_; (with_reducible refine (matmul_Apply.calls k 2 2 _ _ y120 _ _ y123 t126 t129 _ ?side1 ?side2 ?side3 ?side4 A1.out).mono ?_); (case side1 => repeat (first | exact (Kd.R_reads' HO122.out).2.2 | (with_reducible refine Kd.C_alloc ?_ _) | (with_reducible refine Kd.C_drewN ?_ _) | (with_reducible refine Kd.C_drew ?_))); (case side2 => exact (Kd.R_reads' HO122.out).2.1); (case side3 => repeat (first | exact (Kd.R_reads' HO125.out).2.2 | (with_reducible refine Kd.C_alloc ?_ _) | (with_reducible refine Kd.C_drewN ?_ _) | (with_reducible refine Kd.C_drew ?_))); (case side4 => exact (Kd.R_reads' HO125.out).2.1); rintro e w73 ⟨v127, rfl, ho0, hb⟩; (try clear A1); refine ⟨_, rfl, ?_⟩; have n0_ := Aside0.mk (Kd.R_below (by (with_reducible repeat (first | apply Kd.R_alloc | apply Kd.R_drewN | apply Kd.R_drew)); exact HO122.out) hb); have n1_ := Aside0.mk (Kd.R_below (by (with_reducible repeat (first | apply Kd.R_alloc | apply Kd.R_drewN | apply Kd.R_drew)); exact HO125.out) hb); have n2_ := Aside0.mk (Kd.R_lower ho0 (below_size (by repeat (first | (with_reducible first | exact HB.out | apply b_a | apply b_n | apply b_d) | exact HB.out)))); have n3_ := Aside0.mk (below_step (by repeat (first | (with_reducible first | exact HB.out | apply b_a | apply b_n | apply b_d) | exact HB.out)) hb); clear HO122; clear HO125; clear HB; have HO122 := n0_; have HO125 := n1_; have HO128 := n2_; have HB := n3_; clear n0_ n1_ n2_ n3_; (try clear hb); (try clear hb2); (try clear hk); (try clear hi); (try clear ho0)) | ((with_reducible refine gate_callee (f := 11) rfl ?_); refine goesL_ (some 13) rfl rfl Try.func11 (by kernel_rfl) rfl #[.int .i64 10, .int .i64 3] rfl (by (try simp only [l_4, l_5, l_6]); first | done | rfl | (simp only [l_7, l_8]; rfl)) ?_; (with_reducible refine (matmul_Spans.calls k 10 3 t130 t131 _ A2.out).mono ?_); rintro e w74 ⟨v132, rfl, ho0, hb⟩; (try clear A2); refine ⟨_, rfl, ?_⟩; have n0_ := Aside0.mk (Kd.R_below (by (with_reducible repeat (first | apply Kd.R_alloc | apply Kd.R_drewN | apply Kd.R_drew)); exact HO122.out) hb); have n1_ := Aside0.mk (Kd.R_below (by (with_reducible repeat (first | apply Kd.R_alloc | apply Kd.R_drewN | apply Kd.R_drew)); exact HO125.out) hb); have n2_ := Aside0.mk (Kd.R_below (by (with_reducible repeat (first | apply Kd.R_alloc | apply Kd.R_drewN | apply Kd.R_drew)); exact HO128.out) hb); have n3_ := Aside0.mk (Kd.R_lower ho0 (below_size (by repeat (first | (with_reducible first | exact HB.out | apply b_a | apply b_n | apply b_d) | exact HB.out)))); have n4_ := Aside0.mk (below_step (by repeat (first | (with_reducible first | exact HB.out | apply b_a | apply b_n | apply b_d) | exact HB.out)) hb); clear HO122; clear HO125; clear HO128; clear HB; have HO122 := n0_; have HO125 := n1_; have HO128 := n2_; have HO133 := n3_; have HB := n4_; clear n0_ n1_ n2_ n3_ n4_; (try clear hb); (try clear hb2); (try clear hk); (try clear hi); (try clear ho0)) | ((with_reducible refine gate_dst (N := 20) rfl ?_); (try (refine gate_guard (by rfl) ?_; dsimp only)); refine Kd.R_lit (Kd.int .i32) _ 21 ?hg (N := 20) ?hd (xs := ([17, (-9)] : List Int)) (inner := [.int .i32 17, .int .i32 (-9)]) (ok := fun _ => True) (okp := fun _ => True) ?hr ?hp (fun _ hk => hk) trivial (Below.refl _ _) (Nat.le_refl _) (by simp) ?_; (case hd => rfl); (case hg => rfl); (case hr => first | (go_simp; done) | (go_simp; rfl)); (case hp => exact (Reps.one (show Kd.M (Kd.int .i32) _ _ _ 17 [.int .i32 17] from rfl) (Reps.one (show Kd.M (Kd.int .i32) _ _ _ (-9) [.int .i32 (-9)] from rfl) (Reps.none _ _)))); intro v135 w75 ho76 hb hg_ hnew_; clear hg_ hnew_; (first | rw [← Ny134.out] at ho76 | (simp only [Int.reduceToNat] at ho76; rw [← Ny134.out] at ho76)); have n0_ := Aside0.mk (Kd.R_below (by (with_reducible repeat (first | apply Kd.R_alloc | apply Kd.R_drewN | apply Kd.R_drew)); exact HO122.out) hb); have n1_ := Aside0.mk (Kd.R_below (by (with_reducible repeat (first | apply Kd.R_alloc | apply Kd.R_drewN | apply Kd.R_drew)); exact HO125.out) hb); have n2_ := Aside0.mk (Kd.R_elder' (by (with_reducible repeat (first | apply Kd.R_alloc | apply Kd.R_drewN | apply Kd.R_drew)); exact HO128.out) (Kd.R_base ho76) hb); have n3_ := Aside0.mk (Kd.R_below (by (with_reducible repeat (first | apply Kd.R_alloc | apply Kd.R_drewN | apply Kd.R_drew)); exact HO133.out) hb); have n4_ := Aside0.mk (Kd.R_lower (Kd.R_new' ho76 (Kd.R_lt (by (with_reducible repeat (first | apply Kd.R_alloc | apply Kd.R_drewN | apply Kd.R_drew)); exact HO128.out))) (below_size (by repeat (first | (with_reducible first | exact HB.out | apply b_a | apply b_n | apply b_d) | exact HB.out)))); have n5_ := Aside0.mk (below_step (by repeat (first | (with_reducible first | exact HB.out | apply b_a | apply b_n | apply b_d) | exact HB.out)) hb); clear HO122; clear HO125; clear HO128; clear HO133; clear HB; have HO122 := n0_; have HO125 := n1_; have HO128 := n2_; have HO133 := n3_; have HO136 := n4_; have HB := n5_; clear n0_ n1_ n2_ n3_ n4_ n5_; clear hb ho76; obtain ⟨Ao77, co77, eo77⟩ := Kd.R_slice HO128.out; subst eo77; obtain ⟨Ao78, co78, eo78⟩ := Kd.R_slice HO136.out; subst eo78) | (go_at_call 15; (with_reducible refine (pelotonref04_Ints.calls k _ _ t126 _ _ y134 true _ ?side1 ?side2 ?side3 ?side4 A4.out).mono ?_); (case side1 => repeat (first | exact (Kd.R_reads' HO128.out).2.2 | (with_reducible refine Kd.C_alloc ?_ _) | (with_reducible refine Kd.C_drewN ?_ _) | (with_reducible refine Kd.C_drew ?_))); (case side2 => exact (Kd.R_reads' HO128.out).2.1); (case side3 => repeat (first | exact (Kd.R_reads' HO136.out).2.2 | (with_reducible refine Kd.C_alloc ?_ _) | (with_reducible refine Kd.C_drewN ?_ _) | (with_reducible refine Kd.C_drew ?_))); (case side4 => exact (Kd.R_reads' HO136.out).2.1); rintro e w' ⟨rfl, ⟨nd, rfl⟩⟩; obtain ⟨Ao79, co79, eo79⟩ := Kd.R_slice HO133.out; subst eo79))
  go_ret
  exact ⟨by first | rfl | (simp [errW_none, errW_some] <;> rfl) | (simp [*, errW_none, errW_some] <;> rfl), by repeat (first | (with_reducible first | exact HB.out | apply b_a | apply b_n | apply b_d) | exact HB.out)⟩
 rw [if_pos c7] at H
 have c7b0 : ((t130.length : Int) == 4) = true := beq_iff_eq.mpr c7
 have c7b1 : ((t130.length : Int) != 4) = false := bne_eq_false_iff_eq.mpr c7
 clear c7
 by_cases c8 : 0 < (t130.length : Int)
 rotate_left
 ·
  rw [if_neg c8] at H
  exact absurd H (by simp)
 rw [if_pos c8] at H
 have c8b0 : decide (0 < (t130.length : Int)) = true := decide_eq_true c8
 have c8b1 : decide (0 < t130.length) = true := decide_eq_true (by omega)
 clear c8
 by_cases c9 : (rd t130 0) = 0
 rotate_left
 ·
  rw [if_neg c9] at H
  have c9b0 : ((rd t130 0) == 0) = false := beq_eq_false_iff_ne.mpr c9
  have c9b1 : ((rd t130 0) != 0) = true := bne_iff_ne.mpr c9
  obtain rfl := Option.some.inj H
  go_enter Try.func10, Try.ntmps10
  go_wp2_with (first | ((with_reducible refine gate_dst (N := 6) rfl ?_); (try (refine gate_guard (by rfl) ?_; dsimp only)); refine Kd.R_lit (Kd.int .i8) _ 35 ?hg (N := 6) ?hd (xs := ([1, 2, 3, (-4)] : List Int)) (inner := [.int .i8 1, .int .i8 2, .int .i8 3, .int .i8 (-4)]) (ok := fun _ => True) (okp := fun _ => True) ?hr ?hp (fun _ hk => hk) trivial (Below.refl _ _) (Nat.le_refl _) (by simp) ?_; (case hd => rfl); (case hg => rfl); (case hr => first | (go_simp; done) | (go_simp; rfl)); (case hp => exact (Reps.one (show Kd.M (Kd.int .i8) _ _ _ 1 [.int .i8 1] from rfl) (Reps.one (show Kd.M (Kd.int .i8) _ _ _ 2 [.int .i8 2] from rfl) (Reps.one (show Kd.M (Kd.int .i8) _ _ _ 3 [.int .i8 3] from rfl) (Reps.one (show Kd.M (Kd.int .i8) _ _ _ (-4) [.int .i8 (-4)] from rfl) (Reps.none _ _)))))); intro v121 w54 ho55 hb hg_ hnew_; clear hg_ hnew_; (first | rw [← Ny120.out] at ho55 | (simp only [Int.reduceToNat] at ho55; rw [← Ny120.out] at ho55)); have n0_ := Aside0.mk (Kd.R_lower ho55 (below_size (by repeat (first | (with_reducible first | exact HB.out | apply b_a | apply b_n | apply b_d) | exact HB.out)))); have n1_ := Aside0.mk (below_step (by repeat (first | (with_reducible first | exact HB.out | apply b_a | apply b_n | apply b_d) | exact HB.out)) hb); clear HB; have HO122 := n0_; have HB := n1_; clear n0_ n1_; clear hb ho55; obtain ⟨Ao56, co56, eo56⟩ := Kd.R_slice HO122.out; subst eo56) | ((with_reducible refine gate_dst (N := 8) rfl ?_); (try (refine gate_guard (by rfl) ?_; dsimp only)); refine Kd.R_lit (Kd.int .i8) _ 35 ?hg (N := 8) ?hd (xs := ([5, 6] : List Int)) (inner := [.int .i8 5, .int .i8 6]) (ok := fun _ => True) (okp := fun _ => True) ?hr ?hp (fun _ hk => hk) trivial (Below.refl _ _) (Nat.le_refl _) (by simp) ?_; (case hd => rfl); (case hg => rfl); (case hr => first | (go_simp; done) | (go_simp; rfl)); (case hp => exact (Reps.one (show Kd.M (Kd.int .i8) _ _ _ 5 [.int .i8 5] from rfl) (Reps.one (show Kd.M (Kd.int .i8) _ _ _ 6 [.int .i8 6] from rfl) (Reps.none _ _)))); intro v124 w57 ho58 hb hg_ hnew_; clear hg_ hnew_; (first | rw [← Ny123.out] at ho58 | (simp only [Int.reduceToNat] at ho58; rw [← Ny123.out] at ho58)); have n0_ := Aside0.mk (Kd.R_elder' (by (with_reducible repeat (first | apply Kd.R_alloc | apply Kd.R_drewN | apply Kd.R_drew)); exact HO122.out) (Kd.R_base ho58) hb); have n1_ := Aside0.mk (Kd.R_lower (Kd.R_new' ho58 (Kd.R_lt (by (with_reducible repeat (first | apply Kd.R_alloc | apply Kd.R_drewN | apply Kd.R_drew)); exact HO122.out))) (below_size (by repeat (first | (with_reducible first | exact HB.out | apply b_a | apply b_n | apply b_d) | exact HB.out)))); have n2_ := Aside0.mk (below_step (by repeat (first | (with_reducible first | exact HB.out | apply b_a | apply b_n | apply b_d) | exact HB.out)) hb); clear HO122; clear HB; have HO122 := n0_; have HO125 := n1_; have HB := n2_; clear n0_ n1_ n2_; clear hb ho58; obtain ⟨Ao59, co59, eo59⟩ := Kd.R_slice HO125.out; subst eo59) | ((with_reducible refine gate_callee (f := 14) rfl ?_); refine goesL_ (some 9) rfl rfl Try.func14 (by kernel_rfl) rfl #[.agg #[.int .i64 2, .int .i64 2, .slice Ao56 y120.length co56], .slice Ao59 y123.length co59] rfl (by (try simp only [l_4, l_5, l_6]); first | done | rfl | (simp only [l_7, l_8]; rfl)) ?_; (with_reducible refine (matmul_Apply.calls k 2 2 _ _ y120 _ _ y123 t126 t129 _ ?side1 ?side2 ?side3 ?side4 A1.out).mono ?_); (case side1 => repeat (first | exact (Kd.R_reads' HO122.out).2.2 | (with_reducible refine Kd.C_alloc ?_ _) | (with_reducible refine Kd.C_drewN ?_ _) | (with_reducible refine Kd.C_drew ?_))); (case side2 => exact (Kd.R_reads' HO122.out).2.1); (case side3 => repeat (first | exact (Kd.R_reads' HO125.out).2.2 | (with_reducible refine Kd.C_alloc ?_ _) | (with_reducible refine Kd.C_drewN ?_ _) | (with_reducible refine Kd.C_drew ?_))); (case side4 => exact (Kd.R_reads' HO125.out).2.1); rintro e w60 ⟨v127, rfl, ho0, hb⟩; (try clear A1); refine ⟨_, rfl, ?_⟩; have n0_ := Aside0.mk (Kd.R_below (by (with_reducible repeat (first | apply Kd.R_alloc | apply Kd.R_drewN | apply Kd.R_drew)); exact HO122.out) hb); have n1_ := Aside0.mk (Kd.R_below (by (with_reducible repeat (first | apply Kd.R_alloc | apply Kd.R_drewN | apply Kd.R_drew)); exact HO125.out) hb); have n2_ := Aside0.mk (Kd.R_lower ho0 (below_size (by repeat (first | (with_reducible first | exact HB.out | apply b_a | apply b_n | apply b_d) | exact HB.out)))); have n3_ := Aside0.mk (below_step (by repeat (first | (with_reducible first | exact HB.out | apply b_a | apply b_n | apply b_d) | exact HB.out)) hb); clear HO122; clear HO125; clear HB; have HO122 := n0_; have HO125 := n1_; have HO128 := n2_; have HB := n3_; clear n0_ n1_ n2_ n3_; (try clear hb); (try clear hb2); (try clear hk); (try clear hi); (try clear ho0)) | ((with_reducible refine gate_callee (f := 11) rfl ?_); refine goesL_ (some 13) rfl rfl Try.func11 (by kernel_rfl) rfl #[.int .i64 10, .int .i64 3] rfl (by (try simp only [l_4, l_5, l_6]); first | done | rfl | (simp only [l_7, l_8]; rfl)) ?_; (with_reducible refine (matmul_Spans.calls k 10 3 t130 t131 _ A2.out).mono ?_); rintro e w61 ⟨v132, rfl, ho0, hb⟩; (try clear A2); refine ⟨_, rfl, ?_⟩; have n0_ := Aside0.mk (Kd.R_below (by (with_reducible repeat (first | apply Kd.R_alloc | apply Kd.R_drewN | apply Kd.R_drew)); exact HO122.out) hb); have n1_ := Aside0.mk (Kd.R_below (by (with_reducible repeat (first | apply Kd.R_alloc | apply Kd.R_drewN | apply Kd.R_drew)); exact HO125.out) hb); have n2_ := Aside0.mk (Kd.R_below (by (with_reducible repeat (first | apply Kd.R_alloc | apply Kd.R_drewN | apply Kd.R_drew)); exact HO128.out) hb); have n3_ := Aside0.mk (Kd.R_lower ho0 (below_size (by repeat (first | (with_reducible first | exact HB.out | apply b_a | apply b_n | apply b_d) | exact HB.out)))); have n4_ := Aside0.mk (below_step (by repeat (first | (with_reducible first | exact HB.out | apply b_a | apply b_n | apply b_d) | exact HB.out)) hb); clear HO122; clear HO125; clear HO128; clear HB; have HO122 := n0_; have HO125 := n1_; have HO128 := n2_; have HO133 := n3_; have HB := n4_; clear n0_ n1_ n2_ n3_ n4_; (try clear hb); (try clear hb2); (try clear hk); (try clear hi); (try clear ho0)) | ((with_reducible refine gate_dst (N := 20) rfl ?_); (try (refine gate_guard (by rfl) ?_; dsimp only)); refine Kd.R_lit (Kd.int .i32) _ 21 ?hg (N := 20) ?hd (xs := ([17, (-9)] : List Int)) (inner := [.int .i32 17, .int .i32 (-9)]) (ok := fun _ => True) (okp := fun _ => True) ?hr ?hp (fun _ hk => hk) trivial (Below.refl _ _) (Nat.le_refl _) (by simp) ?_; (case hd => rfl); (case hg => rfl); (case hr => first | (go_simp; done) | (go_simp; rfl)); (case hp => exact (Reps.one (show Kd.M (Kd.int .i32) _ _ _ 17 [.int .i32 17] from rfl) (Reps.one (show Kd.M (Kd.int .i32) _ _ _ (-9) [.int .i32 (-9)] from rfl) (Reps.none _ _)))); intro v135 w62 ho63 hb hg_ hnew_; clear hg_ hnew_; (first | rw [← Ny134.out] at ho63 | (simp only [Int.reduceToNat] at ho63; rw [← Ny134.out] at ho63)); have n0_ := Aside0.mk (Kd.R_below (by (with_reducible repeat (first | apply Kd.R_alloc | apply Kd.R_drewN | apply Kd.R_drew)); exact HO122.out) hb); have n1_ := Aside0.mk (Kd.R_below (by (with_reducible repeat (first | apply Kd.R_alloc | apply Kd.R_drewN | apply Kd.R_drew)); exact HO125.out) hb); have n2_ := Aside0.mk (Kd.R_elder' (by (with_reducible repeat (first | apply Kd.R_alloc | apply Kd.R_drewN | apply Kd.R_drew)); exact HO128.out) (Kd.R_base ho63) hb); have n3_ := Aside0.mk (Kd.R_below (by (with_reducible repeat (first | apply Kd.R_alloc | apply Kd.R_drewN | apply Kd.R_drew)); exact HO133.out) hb); have n4_ := Aside0.mk (Kd.R_lower (Kd.R_new' ho63 (Kd.R_lt (by (with_reducible repeat (first | apply Kd.R_alloc | apply Kd.R_drewN | apply Kd.R_drew)); exact HO128.out))) (below_size (by repeat (first | (with_reducible first | exact HB.out | apply b_a | apply b_n | apply b_d) | exact HB.out)))); have n5_ := Aside0.mk (below_step (by repeat (first | (with_reducible first | exact HB.out | apply b_a | apply b_n | apply b_d) | exact HB.out)) hb); clear HO122; clear HO125; clear HO128; clear HO133; clear HB; have HO122 := n0_; have HO125 := n1_; have HO128 := n2_; have HO133 := n3_; have HO136 := n4_; have HB := n5_; clear n0_ n1_ n2_ n3_ n4_ n5_; clear hb ho63; obtain ⟨Ao64, co64, eo64⟩ := Kd.R_slice HO128.out; subst eo64; obtain ⟨Ao65, co65, eo65⟩ := Kd.R_slice HO136.out; subst eo65) | (go_at_call 15; (with_reducible refine (pelotonref04_Ints.calls k _ _ t126 _ _ y134 true _ ?side1 ?side2 ?side3 ?side4 A4.out).mono ?_); (case side1 => repeat (first | exact (Kd.R_reads' HO128.out).2.2 | (with_reducible refine Kd.C_alloc ?_ _) | (with_reducible refine Kd.C_drewN ?_ _) | (with_reducible refine Kd.C_drew ?_))); (case side2 => exact (Kd.R_reads' HO128.out).2.1); (case side3 => repeat (first | exact (Kd.R_reads' HO136.out).2.2 | (with_reducible refine Kd.C_alloc ?_ _) | (with_reducible refine Kd.C_drewN ?_ _) | (with_reducible refine Kd.C_drew ?_))); (case side4 => exact (Kd.R_reads' HO136.out).2.1); rintro e w' ⟨rfl, ⟨nd, rfl⟩⟩; obtain ⟨Ao66, co66, eo66⟩ := Kd.R_slice HO133.out; subst eo66; have p138 : 0 ≤ (0 : Int) := (by omega); have q138 : 0 < (t130.length : Int) := of_decide_eq_true (by first | (with_reducible assumption) | assumption); obtain ⟨ad138, e138, hx138_0⟩ := Kd.at_int (Kd.R_reads' HO133.out).2.2 0 p138 q138; cases e138; have qi138 : (0 < t130.length) = True := eq_true (by omega); (try rw [show ((0 : Int)).toNat = 0 from rfl] at hx138_0); (try rw [Addr.add_zero'] at hx138_0); replace p138 := eq_true p138; replace q138 := eq_true q138))
  go_ret
  exact ⟨by first | rfl | (simp [errW_none, errW_some] <;> rfl) | (simp [*, errW_none, errW_some] <;> rfl), by repeat (first | (with_reducible first | exact HB.out | apply b_a | apply b_n | apply b_d) | exact HB.out)⟩
 rw [if_pos c9] at H
 have c9b0 : ((rd t130 0) == 0) = true := beq_iff_eq.mpr c9
 have c9b1 : ((rd t130 0) != 0) = false := bne_eq_false_iff_eq.mpr c9
 clear c9
 by_cases c10 : 1 < (t130.length : Int)
 rotate_left
 ·
  rw [if_neg c10] at H
  exact absurd H (by simp)
 rw [if_pos c10] at H
 have c10b0 : decide (1 < (t130.length : Int)) = true := decide_eq_true c10
 have c10b1 : decide (1 < t130.length) = true := decide_eq_true (by omega)
 clear c10
 by_cases c11 : (rd t130 1) = 3
 rotate_left
 ·
  rw [if_neg c11] at H
  have c11b0 : ((rd t130 1) == 3) = false := beq_eq_false_iff_ne.mpr c11
  have c11b1 : ((rd t130 1) != 3) = true := bne_iff_ne.mpr c11
  obtain rfl := Option.some.inj H
  go_enter Try.func10, Try.ntmps10
  go_wp2_with (first | ((with_reducible refine gate_dst (N := 6) rfl ?_); (try (refine gate_guard (by rfl) ?_; dsimp only)); refine Kd.R_lit (Kd.int .i8) _ 35 ?hg (N := 6) ?hd (xs := ([1, 2, 3, (-4)] : List Int)) (inner := [.int .i8 1, .int .i8 2, .int .i8 3, .int .i8 (-4)]) (ok := fun _ => True) (okp := fun _ => True) ?hr ?hp (fun _ hk => hk) trivial (Below.refl _ _) (Nat.le_refl _) (by simp) ?_; (case hd => rfl); (case hg => rfl); (case hr => first | (go_simp; done) | (go_simp; rfl)); (case hp => exact (Reps.one (show Kd.M (Kd.int .i8) _ _ _ 1 [.int .i8 1] from rfl) (Reps.one (show Kd.M (Kd.int .i8) _ _ _ 2 [.int .i8 2] from rfl) (Reps.one (show Kd.M (Kd.int .i8) _ _ _ 3 [.int .i8 3] from rfl) (Reps.one (show Kd.M (Kd.int .i8) _ _ _ (-4) [.int .i8 (-4)] from rfl) (Reps.none _ _)))))); intro v121 w41 ho42 hb hg_ hnew_; clear hg_ hnew_; (first | rw [← Ny120.out] at ho42 | (simp only [Int.reduceToNat] at ho42; rw [← Ny120.out] at ho42)); have n0_ := Aside0.mk (Kd.R_lower ho42 (below_size (by repeat (first | (with_reducible first | exact HB.out | apply b_a | apply b_n | apply b_d) | exact HB.out)))); have n1_ := Aside0.mk (below_step (by repeat (first | (with_reducible first | exact HB.out | apply b_a | apply b_n | apply b_d) | exact HB.out)) hb); clear HB; have HO122 := n0_; have HB := n1_; clear n0_ n1_; clear hb ho42; obtain ⟨Ao43, co43, eo43⟩ := Kd.R_slice HO122.out; subst eo43) | ((with_reducible refine gate_dst (N := 8) rfl ?_); (try (refine gate_guard (by rfl) ?_; dsimp only)); refine Kd.R_lit (Kd.int .i8) _ 35 ?hg (N := 8) ?hd (xs := ([5, 6] : List Int)) (inner := [.int .i8 5, .int .i8 6]) (ok := fun _ => True) (okp := fun _ => True) ?hr ?hp (fun _ hk => hk) trivial (Below.refl _ _) (Nat.le_refl _) (by simp) ?_; (case hd => rfl); (case hg => rfl); (case hr => first | (go_simp; done) | (go_simp; rfl)); (case hp => exact (Reps.one (show Kd.M (Kd.int .i8) _ _ _ 5 [.int .i8 5] from rfl) (Reps.one (show Kd.M (Kd.int .i8) _ _ _ 6 [.int .i8 6] from rfl) (Reps.none _ _)))); intro v124 w44 ho45 hb hg_ hnew_; clear hg_ hnew_; (first | rw [← Ny123.out] at ho45 | (simp only [Int.reduceToNat] at ho45; rw [← Ny123.out] at ho45)); have n0_ := Aside0.mk (Kd.R_elder' (by (with_reducible repeat (first | apply Kd.R_alloc | apply Kd.R_drewN | apply Kd.R_drew)); exact HO122.out) (Kd.R_base ho45) hb); have n1_ := Aside0.mk (Kd.R_lower (Kd.R_new' ho45 (Kd.R_lt (by (with_reducible repeat (first | apply Kd.R_alloc | apply Kd.R_drewN | apply Kd.R_drew)); exact HO122.out))) (below_size (by repeat (first | (with_reducible first | exact HB.out | apply b_a | apply b_n | apply b_d) | exact HB.out)))); have n2_ := Aside0.mk (below_step (by repeat (first | (with_reducible first | exact HB.out | apply b_a | apply b_n | apply b_d) | exact HB.out)) hb); clear HO122; clear HB; have HO122 := n0_; have HO125 := n1_; have HB := n2_; clear n0_ n1_ n2_; clear hb ho45; obtain ⟨Ao46, co46, eo46⟩ := Kd.R_slice HO125.out; subst eo46) | ((with_reducible refine gate_callee (f := 14) rfl ?_); refine goesL_ (some 9) rfl rfl Try.func14 (by kernel_rfl) rfl #[.agg #[.int .i64 2, .int .i64 2, .slice Ao43 y120.length co43], .slice Ao46 y123.length co46] rfl (by (try simp only [l_4, l_5, l_6]); first | done | rfl | (simp only [l_7, l_8]; rfl)) ?_; (with_reducible refine (matmul_Apply.calls k 2 2 _ _ y120 _ _ y123 t126 t129 _ ?side1 ?side2 ?side3 ?side4 A1.out).mono ?_); (case side1 => repeat (first | exact (Kd.R_reads' HO122.out).2.2 | (with_reducible refine Kd.C_alloc ?_ _) | (with_reducible refine Kd.C_drewN ?_ _) | (with_reducible refine Kd.C_drew ?_))); (case side2 => exact (Kd.R_reads' HO122.out).2.1); (case side3 => repeat (first | exact (Kd.R_reads' HO125.out).2.2 | (with_reducible refine Kd.C_alloc ?_ _) | (with_reducible refine Kd.C_drewN ?_ _) | (with_reducible refine Kd.C_drew ?_))); (case side4 => exact (Kd.R_reads' HO125.out).2.1); rintro e w47 ⟨v127, rfl, ho0, hb⟩; (try clear A1); refine ⟨_, rfl, ?_⟩; have n0_ := Aside0.mk (Kd.R_below (by (with_reducible repeat (first | apply Kd.R_alloc | apply Kd.R_drewN | apply Kd.R_drew)); exact HO122.out) hb); have n1_ := Aside0.mk (Kd.R_below (by (with_reducible repeat (first | apply Kd.R_alloc | apply Kd.R_drewN | apply Kd.R_drew)); exact HO125.out) hb); have n2_ := Aside0.mk (Kd.R_lower ho0 (below_size (by repeat (first | (with_reducible first | exact HB.out | apply b_a | apply b_n | apply b_d) | exact HB.out)))); have n3_ := Aside0.mk (below_step (by repeat (first | (with_reducible first | exact HB.out | apply b_a | apply b_n | apply b_d) | exact HB.out)) hb); clear HO122; clear HO125; clear HB; have HO122 := n0_; have HO125 := n1_; have HO128 := n2_; have HB := n3_; clear n0_ n1_ n2_ n3_; (try clear hb); (try clear hb2); (try clear hk); (try clear hi); (try clear ho0)) | ((with_reducible refine gate_callee (f := 11) rfl ?_); refine goesL_ (some 13) rfl rfl Try.func11 (by kernel_rfl) rfl #[.int .i64 10, .int .i64 3] rfl (by (try simp only [l_4, l_5, l_6]); first | done | rfl | (simp only [l_7, l_8]; rfl)) ?_; (with_reducible refine (matmul_Spans.calls k 10 3 t130 t131 _ A2.out).mono ?_); rintro e w48 ⟨v132, rfl, ho0, hb⟩; (try clear A2); refine ⟨_, rfl, ?_⟩; have n0_ := Aside0.mk (Kd.R_below (by (with_reducible repeat (first | apply Kd.R_alloc | apply Kd.R_drewN | apply Kd.R_drew)); exact HO122.out) hb); have n1_ := Aside0.mk (Kd.R_below (by (with_reducible repeat (first | apply Kd.R_alloc | apply Kd.R_drewN | apply Kd.R_drew)); exact HO125.out) hb); have n2_ := Aside0.mk (Kd.R_below (by (with_reducible repeat (first | apply Kd.R_alloc | apply Kd.R_drewN | apply Kd.R_drew)); exact HO128.out) hb); have n3_ := Aside0.mk (Kd.R_lower ho0 (below_size (by repeat (first | (with_reducible first | exact HB.out | apply b_a | apply b_n | apply b_d) | exact HB.out)))); have n4_ := Aside0.mk (below_step (by repeat (first | (with_reducible first | exact HB.out | apply b_a | apply b_n | apply b_d) | exact HB.out)) hb); clear HO122; clear HO125; clear HO128; clear HB; have HO122 := n0_; have HO125 := n1_; have HO128 := n2_; have HO133 := n3_; have HB := n4_; clear n0_ n1_ n2_ n3_ n4_; (try clear hb); (try clear hb2); (try clear hk); (try clear hi); (try clear ho0)) | ((with_reducible refine gate_dst (N := 20) rfl ?_); (try (refine gate_guard (by rfl) ?_; dsimp only)); refine Kd.R_lit (Kd.int .i32) _ 21 ?hg (N := 20) ?hd (xs := ([17, (-9)] : List Int)) (inner := [.int .i32 17, .int .i32 (-9)]) (ok := fun _ => True) (okp := fun _ => True) ?hr ?hp (fun _ hk => hk) trivial (Below.refl _ _) (Nat.le_refl _) (by simp) ?_; (case hd => rfl); (case hg => rfl); (case hr => first | (go_simp; done) | (go_simp; rfl)); (case hp => exact (Reps.one (show Kd.M (Kd.int .i32) _ _ _ 17 [.int .i32 17] from rfl) (Reps.one (show Kd.M (Kd.int .i32) _ _ _ (-9) [.int .i32 (-9)] from rfl) (Reps.none _ _)))); intro v135 w49 ho50 hb hg_ hnew_; clear hg_ hnew_; (first | rw [← Ny134.out] at ho50 | (simp only [Int.reduceToNat] at ho50; rw [← Ny134.out] at ho50)); have n0_ := Aside0.mk (Kd.R_below (by (with_reducible repeat (first | apply Kd.R_alloc | apply Kd.R_drewN | apply Kd.R_drew)); exact HO122.out) hb); have n1_ := Aside0.mk (Kd.R_below (by (with_reducible repeat (first | apply Kd.R_alloc | apply Kd.R_drewN | apply Kd.R_drew)); exact HO125.out) hb); have n2_ := Aside0.mk (Kd.R_elder' (by (with_reducible repeat (first | apply Kd.R_alloc | apply Kd.R_drewN | apply Kd.R_drew)); exact HO128.out) (Kd.R_base ho50) hb); have n3_ := Aside0.mk (Kd.R_below (by (with_reducible repeat (first | apply Kd.R_alloc | apply Kd.R_drewN | apply Kd.R_drew)); exact HO133.out) hb); have n4_ := Aside0.mk (Kd.R_lower (Kd.R_new' ho50 (Kd.R_lt (by (with_reducible repeat (first | apply Kd.R_alloc | apply Kd.R_drewN | apply Kd.R_drew)); exact HO128.out))) (below_size (by repeat (first | (with_reducible first | exact HB.out | apply b_a | apply b_n | apply b_d) | exact HB.out)))); have n5_ := Aside0.mk (below_step (by repeat (first | (with_reducible first | exact HB.out | apply b_a | apply b_n | apply b_d) | exact HB.out)) hb); clear HO122; clear HO125; clear HO128; clear HO133; clear HB; have HO122 := n0_; have HO125 := n1_; have HO128 := n2_; have HO133 := n3_; have HO136 := n4_; have HB := n5_; clear n0_ n1_ n2_ n3_ n4_ n5_; clear hb ho50; obtain ⟨Ao51, co51, eo51⟩ := Kd.R_slice HO128.out; subst eo51; obtain ⟨Ao52, co52, eo52⟩ := Kd.R_slice HO136.out; subst eo52) | (go_at_call 15; (with_reducible refine (pelotonref04_Ints.calls k _ _ t126 _ _ y134 true _ ?side1 ?side2 ?side3 ?side4 A4.out).mono ?_); (case side1 => repeat (first | exact (Kd.R_reads' HO128.out).2.2 | (with_reducible refine Kd.C_alloc ?_ _) | (with_reducible refine Kd.C_drewN ?_ _) | (with_reducible refine Kd.C_drew ?_))); (case side2 => exact (Kd.R_reads' HO128.out).2.1); (case side3 => repeat (first | exact (Kd.R_reads' HO136.out).2.2 | (with_reducible refine Kd.C_alloc ?_ _) | (with_reducible refine Kd.C_drewN ?_ _) | (with_reducible refine Kd.C_drew ?_))); (case side4 => exact (Kd.R_reads' HO136.out).2.1); rintro e w' ⟨rfl, ⟨nd, rfl⟩⟩; obtain ⟨Ao53, co53, eo53⟩ := Kd.R_slice HO133.out; subst eo53; have p138 : 0 ≤ (0 : Int) := (by omega); have q138 : 0 < (t130.length : Int) := of_decide_eq_true (by first | (with_reducible assumption) | assumption); obtain ⟨ad138, e138, hx138_0⟩ := Kd.at_int (Kd.R_reads' HO133.out).2.2 0 p138 q138; cases e138; have qi138 : (0 < t130.length) = True := eq_true (by omega); (try rw [show ((0 : Int)).toNat = 0 from rfl] at hx138_0); (try rw [Addr.add_zero'] at hx138_0); replace p138 := eq_true p138; replace q138 := eq_true q138; have p139 : 0 ≤ (1 : Int) := (by omega); have q139 : 1 < (t130.length : Int) := of_decide_eq_true (by first | (with_reducible assumption) | assumption); obtain ⟨ad139, e139, hx139_0⟩ := Kd.at_int (Kd.R_reads' HO133.out).2.2 1 p139 q139; obtain rfl : ad138 = ad139 := (by injection e139); (try simp only [show (1 : Int).toNat = 1 from rfl, Nat.reduceMul, Nat.reduceEqDiff, Go.Addr.add, ↓reduceIte] at hx139_0); have qi139 : (1 < t130.length) = True := eq_true (by omega); (try rw [show ((1 : Int)).toNat = 1 from rfl] at hx139_0); replace p139 := eq_true p139; replace q139 := eq_true q139))
  go_ret
  exact ⟨by first | rfl | (simp [errW_none, errW_some] <;> rfl) | (simp [*, errW_none, errW_some] <;> rfl), by repeat (first | (with_reducible first | exact HB.out | apply b_a | apply b_n | apply b_d) | exact HB.out)⟩
 rw [if_pos c11] at H
 have c11b0 : ((rd t130 1) == 3) = true := beq_iff_eq.mpr c11
 have c11b1 : ((rd t130 1) != 3) = false := bne_eq_false_iff_eq.mpr c11
 clear c11
 by_cases c12 : 2 < (t130.length : Int)
 rotate_left
 ·
  rw [if_neg c12] at H
  exact absurd H (by simp)
 rw [if_pos c12] at H
 have c12b0 : decide (2 < (t130.length : Int)) = true := decide_eq_true c12
 have c12b1 : decide (2 < t130.length) = true := decide_eq_true (by omega)
 clear c12
 by_cases c13 : (rd t130 2) = 6
 rotate_left
 ·
  rw [if_neg c13] at H
  have c13b0 : ((rd t130 2) == 6) = false := beq_eq_false_iff_ne.mpr c13
  have c13b1 : ((rd t130 2) != 6) = true := bne_iff_ne.mpr c13
  obtain rfl := Option.some.inj H
  go_enter Try.func10, Try.ntmps10
  go_wp2_with (first | ((with_reducible refine gate_dst (N := 6) rfl ?_); (try (refine gate_guard (by rfl) ?_; dsimp only)); refine Kd.R_lit (Kd.int .i8) _ 35 ?hg (N := 6) ?hd (xs := ([1, 2, 3, (-4)] : List Int)) (inner := [.int .i8 1, .int .i8 2, .int .i8 3, .int .i8 (-4)]) (ok := fun _ => True) (okp := fun _ => True) ?hr ?hp (fun _ hk => hk) trivial (Below.refl _ _) (Nat.le_refl _) (by simp) ?_; (case hd => rfl); (case hg => rfl); (case hr => first | (go_simp; done) | (go_simp; rfl)); (case hp => exact (Reps.one (show Kd.M (Kd.int .i8) _ _ _ 1 [.int .i8 1] from rfl) (Reps.one (show Kd.M (Kd.int .i8) _ _ _ 2 [.int .i8 2] from rfl) (Reps.one (show Kd.M (Kd.int .i8) _ _ _ 3 [.int .i8 3] from rfl) (Reps.one (show Kd.M (Kd.int .i8) _ _ _ (-4) [.int .i8 (-4)] from rfl) (Reps.none _ _)))))); intro v121 w28 ho29 hb hg_ hnew_; clear hg_ hnew_; (first | rw [← Ny120.out] at ho29 | (simp only [Int.reduceToNat] at ho29; rw [← Ny120.out] at ho29)); have n0_ := Aside0.mk (Kd.R_lower ho29 (below_size (by repeat (first | (with_reducible first | exact HB.out | apply b_a | apply b_n | apply b_d) | exact HB.out)))); have n1_ := Aside0.mk (below_step (by repeat (first | (with_reducible first | exact HB.out | apply b_a | apply b_n | apply b_d) | exact HB.out)) hb); clear HB; have HO122 := n0_; have HB := n1_; clear n0_ n1_; clear hb ho29; obtain ⟨Ao30, co30, eo30⟩ := Kd.R_slice HO122.out; subst eo30) | ((with_reducible refine gate_dst (N := 8) rfl ?_); (try (refine gate_guard (by rfl) ?_; dsimp only)); refine Kd.R_lit (Kd.int .i8) _ 35 ?hg (N := 8) ?hd (xs := ([5, 6] : List Int)) (inner := [.int .i8 5, .int .i8 6]) (ok := fun _ => True) (okp := fun _ => True) ?hr ?hp (fun _ hk => hk) trivial (Below.refl _ _) (Nat.le_refl _) (by simp) ?_; (case hd => rfl); (case hg => rfl); (case hr => first | (go_simp; done) | (go_simp; rfl)); (case hp => exact (Reps.one (show Kd.M (Kd.int .i8) _ _ _ 5 [.int .i8 5] from rfl) (Reps.one (show Kd.M (Kd.int .i8) _ _ _ 6 [.int .i8 6] from rfl) (Reps.none _ _)))); intro v124 w31 ho32 hb hg_ hnew_; clear hg_ hnew_; (first | rw [← Ny123.out] at ho32 | (simp only [Int.reduceToNat] at ho32; rw [← Ny123.out] at ho32)); have n0_ := Aside0.mk (Kd.R_elder' (by (with_reducible repeat (first | apply Kd.R_alloc | apply Kd.R_drewN | apply Kd.R_drew)); exact HO122.out) (Kd.R_base ho32) hb); have n1_ := Aside0.mk (Kd.R_lower (Kd.R_new' ho32 (Kd.R_lt (by (with_reducible repeat (first | apply Kd.R_alloc | apply Kd.R_drewN | apply Kd.R_drew)); exact HO122.out))) (below_size (by repeat (first | (with_reducible first | exact HB.out | apply b_a | apply b_n | apply b_d) | exact HB.out)))); have n2_ := Aside0.mk (below_step (by repeat (first | (with_reducible first | exact HB.out | apply b_a | apply b_n | apply b_d) | exact HB.out)) hb); clear HO122; clear HB; have HO122 := n0_; have HO125 := n1_; have HB := n2_; clear n0_ n1_ n2_; clear hb ho32; obtain ⟨Ao33, co33, eo33⟩ := Kd.R_slice HO125.out; subst eo33) | ((with_reducible refine gate_callee (f := 14) rfl ?_); refine goesL_ (some 9) rfl rfl Try.func14 (by kernel_rfl) rfl #[.agg #[.int .i64 2, .int .i64 2, .slice Ao30 y120.length co30], .slice Ao33 y123.length co33] rfl (by (try simp only [l_4, l_5, l_6]); first | done | rfl | (simp only [l_7, l_8]; rfl)) ?_; (with_reducible refine (matmul_Apply.calls k 2 2 _ _ y120 _ _ y123 t126 t129 _ ?side1 ?side2 ?side3 ?side4 A1.out).mono ?_); (case side1 => repeat (first | exact (Kd.R_reads' HO122.out).2.2 | (with_reducible refine Kd.C_alloc ?_ _) | (with_reducible refine Kd.C_drewN ?_ _) | (with_reducible refine Kd.C_drew ?_))); (case side2 => exact (Kd.R_reads' HO122.out).2.1); (case side3 => repeat (first | exact (Kd.R_reads' HO125.out).2.2 | (with_reducible refine Kd.C_alloc ?_ _) | (with_reducible refine Kd.C_drewN ?_ _) | (with_reducible refine Kd.C_drew ?_))); (case side4 => exact (Kd.R_reads' HO125.out).2.1); rintro e w34 ⟨v127, rfl, ho0, hb⟩; (try clear A1); refine ⟨_, rfl, ?_⟩; have n0_ := Aside0.mk (Kd.R_below (by (with_reducible repeat (first | apply Kd.R_alloc | apply Kd.R_drewN | apply Kd.R_drew)); exact HO122.out) hb); have n1_ := Aside0.mk (Kd.R_below (by (with_reducible repeat (first | apply Kd.R_alloc | apply Kd.R_drewN | apply Kd.R_drew)); exact HO125.out) hb); have n2_ := Aside0.mk (Kd.R_lower ho0 (below_size (by repeat (first | (with_reducible first | exact HB.out | apply b_a | apply b_n | apply b_d) | exact HB.out)))); have n3_ := Aside0.mk (below_step (by repeat (first | (with_reducible first | exact HB.out | apply b_a | apply b_n | apply b_d) | exact HB.out)) hb); clear HO122; clear HO125; clear HB; have HO122 := n0_; have HO125 := n1_; have HO128 := n2_; have HB := n3_; clear n0_ n1_ n2_ n3_; (try clear hb); (try clear hb2); (try clear hk); (try clear hi); (try clear ho0)) | ((with_reducible refine gate_callee (f := 11) rfl ?_); refine goesL_ (some 13) rfl rfl Try.func11 (by kernel_rfl) rfl #[.int .i64 10, .int .i64 3] rfl (by (try simp only [l_4, l_5, l_6]); first | done | rfl | (simp only [l_7, l_8]; rfl)) ?_; (with_reducible refine (matmul_Spans.calls k 10 3 t130 t131 _ A2.out).mono ?_); rintro e w35 ⟨v132, rfl, ho0, hb⟩; (try clear A2); refine ⟨_, rfl, ?_⟩; have n0_ := Aside0.mk (Kd.R_below (by (with_reducible repeat (first | apply Kd.R_alloc | apply Kd.R_drewN | apply Kd.R_drew)); exact HO122.out) hb); have n1_ := Aside0.mk (Kd.R_below (by (with_reducible repeat (first | apply Kd.R_alloc | apply Kd.R_drewN | apply Kd.R_drew)); exact HO125.out) hb); have n2_ := Aside0.mk (Kd.R_below (by (with_reducible repeat (first | apply Kd.R_alloc | apply Kd.R_drewN | apply Kd.R_drew)); exact HO128.out) hb); have n3_ := Aside0.mk (Kd.R_lower ho0 (below_size (by repeat (first | (with_reducible first | exact HB.out | apply b_a | apply b_n | apply b_d) | exact HB.out)))); have n4_ := Aside0.mk (below_step (by repeat (first | (with_reducible first | exact HB.out | apply b_a | apply b_n | apply b_d) | exact HB.out)) hb); clear HO122; clear HO125; clear HO128; clear HB; have HO122 := n0_; have HO125 := n1_; have HO128 := n2_; have HO133 := n3_; have HB := n4_; clear n0_ n1_ n2_ n3_ n4_; (try clear hb); (try clear hb2); (try clear hk); (try clear hi); (try clear ho0)) | ((with_reducible refine gate_dst (N := 20) rfl ?_); (try (refine gate_guard (by rfl) ?_; dsimp only)); refine Kd.R_lit (Kd.int .i32) _ 21 ?hg (N := 20) ?hd (xs := ([17, (-9)] : List Int)) (inner := [.int .i32 17, .int .i32 (-9)]) (ok := fun _ => True) (okp := fun _ => True) ?hr ?hp (fun _ hk => hk) trivial (Below.refl _ _) (Nat.le_refl _) (by simp) ?_; (case hd => rfl); (case hg => rfl); (case hr => first | (go_simp; done) | (go_simp; rfl)); (case hp => exact (Reps.one (show Kd.M (Kd.int .i32) _ _ _ 17 [.int .i32 17] from rfl) (Reps.one (show Kd.M (Kd.int .i32) _ _ _ (-9) [.int .i32 (-9)] from rfl) (Reps.none _ _)))); intro v135 w36 ho37 hb hg_ hnew_; clear hg_ hnew_; (first | rw [← Ny134.out] at ho37 | (simp only [Int.reduceToNat] at ho37; rw [← Ny134.out] at ho37)); have n0_ := Aside0.mk (Kd.R_below (by (with_reducible repeat (first | apply Kd.R_alloc | apply Kd.R_drewN | apply Kd.R_drew)); exact HO122.out) hb); have n1_ := Aside0.mk (Kd.R_below (by (with_reducible repeat (first | apply Kd.R_alloc | apply Kd.R_drewN | apply Kd.R_drew)); exact HO125.out) hb); have n2_ := Aside0.mk (Kd.R_elder' (by (with_reducible repeat (first | apply Kd.R_alloc | apply Kd.R_drewN | apply Kd.R_drew)); exact HO128.out) (Kd.R_base ho37) hb); have n3_ := Aside0.mk (Kd.R_below (by (with_reducible repeat (first | apply Kd.R_alloc | apply Kd.R_drewN | apply Kd.R_drew)); exact HO133.out) hb); have n4_ := Aside0.mk (Kd.R_lower (Kd.R_new' ho37 (Kd.R_lt (by (with_reducible repeat (first | apply Kd.R_alloc | apply Kd.R_drewN | apply Kd.R_drew)); exact HO128.out))) (below_size (by repeat (first | (with_reducible first | exact HB.out | apply b_a | apply b_n | apply b_d) | exact HB.out)))); have n5_ := Aside0.mk (below_step (by repeat (first | (with_reducible first | exact HB.out | apply b_a | apply b_n | apply b_d) | exact HB.out)) hb); clear HO122; clear HO125; clear HO128; clear HO133; clear HB; have HO122 := n0_; have HO125 := n1_; have HO128 := n2_; have HO133 := n3_; have HO136 := n4_; have HB := n5_; clear n0_ n1_ n2_ n3_ n4_ n5_; clear hb ho37; obtain ⟨Ao38, co38, eo38⟩ := Kd.R_slice HO128.out; subst eo38; obtain ⟨Ao39, co39, eo39⟩ := Kd.R_slice HO136.out; subst eo39) | (go_at_call 15; (with_reducible refine (pelotonref04_Ints.calls k _ _ t126 _ _ y134 true _ ?side1 ?side2 ?side3 ?side4 A4.out).mono ?_); (case side1 => repeat (first | exact (Kd.R_reads' HO128.out).2.2 | (with_reducible refine Kd.C_alloc ?_ _) | (with_reducible refine Kd.C_drewN ?_ _) | (with_reducible refine Kd.C_drew ?_))); (case side2 => exact (Kd.R_reads' HO128.out).2.1); (case side3 => repeat (first | exact (Kd.R_reads' HO136.out).2.2 | (with_reducible refine Kd.C_alloc ?_ _) | (with_reducible refine Kd.C_drewN ?_ _) | (with_reducible refine Kd.C_drew ?_))); (case side4 => exact (Kd.R_reads' HO136.out).2.1); rintro e w' ⟨rfl, ⟨nd, rfl⟩⟩; obtain ⟨Ao40, co40, eo40⟩ := Kd.R_slice HO133.out; subst eo40; have p138 : 0 ≤ (0 : Int) := (by omega); have q138 : 0 < (t130.length : Int) := of_decide_eq_true (by first | (with_reducible assumption) | assumption); obtain ⟨ad138, e138, hx138_0⟩ := Kd.at_int (Kd.R_reads' HO133.out).2.2 0 p138 q138; cases e138; have qi138 : (0 < t130.length) = True := eq_true (by omega); (try rw [show ((0 : Int)).toNat = 0 from rfl] at hx138_0); (try rw [Addr.add_zero'] at hx138_0); replace p138 := eq_true p138; replace q138 := eq_true q138; have p139 : 0 ≤ (1 : Int) := (by omega); have q139 : 1 < (t130.length : Int) := of_decide_eq_true (by first | (with_reducible assumption) | assumption); obtain ⟨ad139, e139, hx139_0⟩ := Kd.at_int (Kd.R_reads' HO133.out).2.2 1 p139 q139; obtain rfl : ad138 = ad139 := (by injection e139); (try simp only [show (1 : Int).toNat = 1 from rfl, Nat.reduceMul, Nat.reduceEqDiff, Go.Addr.add, ↓reduceIte] at hx139_0); have qi139 : (1 < t130.length) = True := eq_true (by omega); (try rw [show ((1 : Int)).toNat = 1 from rfl] at hx139_0); replace p139 := eq_true p139; replace q139 := eq_true q139; have p140 : 0 ≤ (2 : Int) := (by omega); have q140 : 2 < (t130.length : Int) := of_decide_eq_true (by first | (with_reducible assumption) | assumption); obtain ⟨ad140, e140, hx140_0⟩ := Kd.at_int (Kd.R_reads' HO133.out).2.2 2 p140 q140; obtain rfl : ad138 = ad140 := (by injection e140); (try simp only [show (2 : Int).toNat = 2 from rfl, Nat.reduceMul, Nat.reduceEqDiff, Go.Addr.add, ↓reduceIte] at hx140_0); have qi140 : (2 < t130.length) = True := eq_true (by omega); (try rw [show ((2 : Int)).toNat = 2 from rfl] at hx140_0); replace p140 := eq_true p140; replace q140 := eq_true q140))
  go_ret
  exact ⟨by first | rfl | (simp [errW_none, errW_some] <;> rfl) | (simp [*, errW_none, errW_some] <;> rfl), by repeat (first | (with_reducible first | exact HB.out | apply b_a | apply b_n | apply b_d) | exact HB.out)⟩
 rw [if_pos c13] at H
 have c13b0 : ((rd t130 2) == 6) = true := beq_iff_eq.mpr c13
 have c13b1 : ((rd t130 2) != 6) = false := bne_eq_false_iff_eq.mpr c13
 clear c13
 by_cases c14 : 3 < (t130.length : Int)
 rotate_left
 ·
  rw [if_neg c14] at H
  exact absurd H (by simp)
 rw [if_pos c14] at H
 have c14b0 : decide (3 < (t130.length : Int)) = true := decide_eq_true c14
 have c14b1 : decide (3 < t130.length) = true := decide_eq_true (by omega)
 clear c14
 obtain rfl := Option.some.inj H
 go_enter Try.func10, Try.ntmps10
 go_wp2_with (first | ((with_reducible refine gate_dst (N := 6) rfl ?_); (try (refine gate_guard (by rfl) ?_; dsimp only)); refine Kd.R_lit (Kd.int .i8) _ 35 ?hg (N := 6) ?hd (xs := ([1, 2, 3, (-4)] : List Int)) (inner := [.int .i8 1, .int .i8 2, .int .i8 3, .int .i8 (-4)]) (ok := fun _ => True) (okp := fun _ => True) ?hr ?hp (fun _ hk => hk) trivial (Below.refl _ _) (Nat.le_refl _) (by simp) ?_; (case hd => rfl); (case hg => rfl); (case hr => first | (go_simp; done) | (go_simp; rfl)); (case hp => exact (Reps.one (show Kd.M (Kd.int .i8) _ _ _ 1 [.int .i8 1] from rfl) (Reps.one (show Kd.M (Kd.int .i8) _ _ _ 2 [.int .i8 2] from rfl) (Reps.one (show Kd.M (Kd.int .i8) _ _ _ 3 [.int .i8 3] from rfl) (Reps.one (show Kd.M (Kd.int .i8) _ _ _ (-4) [.int .i8 (-4)] from rfl) (Reps.none _ _)))))); intro v121 w15 ho16 hb hg_ hnew_; clear hg_ hnew_; (first | rw [← Ny120.out] at ho16 | (simp only [Int.reduceToNat] at ho16; rw [← Ny120.out] at ho16)); have n0_ := Aside0.mk (Kd.R_lower ho16 (below_size (by repeat (first | (with_reducible first | exact HB.out | apply b_a | apply b_n | apply b_d) | exact HB.out)))); have n1_ := Aside0.mk (below_step (by repeat (first | (with_reducible first | exact HB.out | apply b_a | apply b_n | apply b_d) | exact HB.out)) hb); clear HB; have HO122 := n0_; have HB := n1_; clear n0_ n1_; clear hb ho16; obtain ⟨Ao17, co17, eo17⟩ := Kd.R_slice HO122.out; subst eo17) | ((with_reducible refine gate_dst (N := 8) rfl ?_); (try (refine gate_guard (by rfl) ?_; dsimp only)); refine Kd.R_lit (Kd.int .i8) _ 35 ?hg (N := 8) ?hd (xs := ([5, 6] : List Int)) (inner := [.int .i8 5, .int .i8 6]) (ok := fun _ => True) (okp := fun _ => True) ?hr ?hp (fun _ hk => hk) trivial (Below.refl _ _) (Nat.le_refl _) (by simp) ?_; (case hd => rfl); (case hg => rfl); (case hr => first | (go_simp; done) | (go_simp; rfl)); (case hp => exact (Reps.one (show Kd.M (Kd.int .i8) _ _ _ 5 [.int .i8 5] from rfl) (Reps.one (show Kd.M (Kd.int .i8) _ _ _ 6 [.int .i8 6] from rfl) (Reps.none _ _)))); intro v124 w18 ho19 hb hg_ hnew_; clear hg_ hnew_; (first | rw [← Ny123.out] at ho19 | (simp only [Int.reduceToNat] at ho19; rw [← Ny123.out] at ho19)); have n0_ := Aside0.mk (Kd.R_elder' (by (with_reducible repeat (first | apply Kd.R_alloc | apply Kd.R_drewN | apply Kd.R_drew)); exact HO122.out) (Kd.R_base ho19) hb); have n1_ := Aside0.mk (Kd.R_lower (Kd.R_new' ho19 (Kd.R_lt (by (with_reducible repeat (first | apply Kd.R_alloc | apply Kd.R_drewN | apply Kd.R_drew)); exact HO122.out))) (below_size (by repeat (first | (with_reducible first | exact HB.out | apply b_a | apply b_n | apply b_d) | exact HB.out)))); have n2_ := Aside0.mk (below_step (by repeat (first | (with_reducible first | exact HB.out | apply b_a | apply b_n | apply b_d) | exact HB.out)) hb); clear HO122; clear HB; have HO122 := n0_; have HO125 := n1_; have HB := n2_; clear n0_ n1_ n2_; clear hb ho19; obtain ⟨Ao20, co20, eo20⟩ := Kd.R_slice HO125.out; subst eo20) | ((with_reducible refine gate_callee (f := 14) rfl ?_); refine goesL_ (some 9) rfl rfl Try.func14 (by kernel_rfl) rfl #[.agg #[.int .i64 2, .int .i64 2, .slice Ao17 y120.length co17], .slice Ao20 y123.length co20] rfl (by (try simp only [l_4, l_5, l_6]); first | done | rfl | (simp only [l_7, l_8]; rfl)) ?_; (with_reducible refine (matmul_Apply.calls k 2 2 _ _ y120 _ _ y123 t126 t129 _ ?side1 ?side2 ?side3 ?side4 A1.out).mono ?_); (case side1 => repeat (first | exact (Kd.R_reads' HO122.out).2.2 | (with_reducible refine Kd.C_alloc ?_ _) | (with_reducible refine Kd.C_drewN ?_ _) | (with_reducible refine Kd.C_drew ?_))); (case side2 => exact (Kd.R_reads' HO122.out).2.1); (case side3 => repeat (first | exact (Kd.R_reads' HO125.out).2.2 | (with_reducible refine Kd.C_alloc ?_ _) | (with_reducible refine Kd.C_drewN ?_ _) | (with_reducible refine Kd.C_drew ?_))); (case side4 => exact (Kd.R_reads' HO125.out).2.1); rintro e w21 ⟨v127, rfl, ho0, hb⟩; (try clear A1); refine ⟨_, rfl, ?_⟩; have n0_ := Aside0.mk (Kd.R_below (by (with_reducible repeat (first | apply Kd.R_alloc | apply Kd.R_drewN | apply Kd.R_drew)); exact HO122.out) hb); have n1_ := Aside0.mk (Kd.R_below (by (with_reducible repeat (first | apply Kd.R_alloc | apply Kd.R_drewN | apply Kd.R_drew)); exact HO125.out) hb); have n2_ := Aside0.mk (Kd.R_lower ho0 (below_size (by repeat (first | (with_reducible first | exact HB.out | apply b_a | apply b_n | apply b_d) | exact HB.out)))); have n3_ := Aside0.mk (below_step (by repeat (first | (with_reducible first | exact HB.out | apply b_a | apply b_n | apply b_d) | exact HB.out)) hb); clear HO122; clear HO125; clear HB; have HO122 := n0_; have HO125 := n1_; have HO128 := n2_; have HB := n3_; clear n0_ n1_ n2_ n3_; (try clear hb); (try clear hb2); (try clear hk); (try clear hi); (try clear ho0)) | ((with_reducible refine gate_callee (f := 11) rfl ?_); refine goesL_ (some 13) rfl rfl Try.func11 (by kernel_rfl) rfl #[.int .i64 10, .int .i64 3] rfl (by (try simp only [l_4, l_5, l_6]); first | done | rfl | (simp only [l_7, l_8]; rfl)) ?_; (with_reducible refine (matmul_Spans.calls k 10 3 t130 t131 _ A2.out).mono ?_); rintro e w22 ⟨v132, rfl, ho0, hb⟩; (try clear A2); refine ⟨_, rfl, ?_⟩; have n0_ := Aside0.mk (Kd.R_below (by (with_reducible repeat (first | apply Kd.R_alloc | apply Kd.R_drewN | apply Kd.R_drew)); exact HO122.out) hb); have n1_ := Aside0.mk (Kd.R_below (by (with_reducible repeat (first | apply Kd.R_alloc | apply Kd.R_drewN | apply Kd.R_drew)); exact HO125.out) hb); have n2_ := Aside0.mk (Kd.R_below (by (with_reducible repeat (first | apply Kd.R_alloc | apply Kd.R_drewN | apply Kd.R_drew)); exact HO128.out) hb); have n3_ := Aside0.mk (Kd.R_lower ho0 (below_size (by repeat (first | (with_reducible first | exact HB.out | apply b_a | apply b_n | apply b_d) | exact HB.out)))); have n4_ := Aside0.mk (below_step (by repeat (first | (with_reducible first | exact HB.out | apply b_a | apply b_n | apply b_d) | exact HB.out)) hb); clear HO122; clear HO125; clear HO128; clear HB; have HO122 := n0_; have HO125 := n1_; have HO128 := n2_; have HO133 := n3_; have HB := n4_; clear n0_ n1_ n2_ n3_ n4_; (try clear hb); (try clear hb2); (try clear hk); (try clear hi); (try clear ho0)) | ((with_reducible refine gate_dst (N := 20) rfl ?_); (try (refine gate_guard (by rfl) ?_; dsimp only)); refine Kd.R_lit (Kd.int .i32) _ 21 ?hg (N := 20) ?hd (xs := ([17, (-9)] : List Int)) (inner := [.int .i32 17, .int .i32 (-9)]) (ok := fun _ => True) (okp := fun _ => True) ?hr ?hp (fun _ hk => hk) trivial (Below.refl _ _) (Nat.le_refl _) (by simp) ?_; (case hd => rfl); (case hg => rfl); (case hr => first | (go_simp; done) | (go_simp; rfl)); (case hp => exact (Reps.one (show Kd.M (Kd.int .i32) _ _ _ 17 [.int .i32 17] from rfl) (Reps.one (show Kd.M (Kd.int .i32) _ _ _ (-9) [.int .i32 (-9)] from rfl) (Reps.none _ _)))); intro v135 w23 ho24 hb hg_ hnew_; clear hg_ hnew_; (first | rw [← Ny134.out] at ho24 | (simp only [Int.reduceToNat] at ho24; rw [← Ny134.out] at ho24)); have n0_ := Aside0.mk (Kd.R_below (by (with_reducible repeat (first | apply Kd.R_alloc | apply Kd.R_drewN | apply Kd.R_drew)); exact HO122.out) hb); have n1_ := Aside0.mk (Kd.R_below (by (with_reducible repeat (first | apply Kd.R_alloc | apply Kd.R_drewN | apply Kd.R_drew)); exact HO125.out) hb); have n2_ := Aside0.mk (Kd.R_elder' (by (with_reducible repeat (first | apply Kd.R_alloc | apply Kd.R_drewN | apply Kd.R_drew)); exact HO128.out) (Kd.R_base ho24) hb); have n3_ := Aside0.mk (Kd.R_below (by (with_reducible repeat (first | apply Kd.R_alloc | apply Kd.R_drewN | apply Kd.R_drew)); exact HO133.out) hb); have n4_ := Aside0.mk (Kd.R_lower (Kd.R_new' ho24 (Kd.R_lt (by (with_reducible repeat (first | apply Kd.R_alloc | apply Kd.R_drewN | apply Kd.R_drew)); exact HO128.out))) (below_size (by repeat (first | (with_reducible first | exact HB.out | apply b_a | apply b_n | apply b_d) | exact HB.out)))); have n5_ := Aside0.mk (below_step (by repeat (first | (with_reducible first | exact HB.out | apply b_a | apply b_n | apply b_d) | exact HB.out)) hb); clear HO122; clear HO125; clear HO128; clear HO133; clear HB; have HO122 := n0_; have HO125 := n1_; have HO128 := n2_; have HO133 := n3_; have HO136 := n4_; have HB := n5_; clear n0_ n1_ n2_ n3_ n4_ n5_; clear hb ho24; obtain ⟨Ao25, co25, eo25⟩ := Kd.R_slice HO128.out; subst eo25; obtain ⟨Ao26, co26, eo26⟩ := Kd.R_slice HO136.out; subst eo26) | (go_at_call 15; (with_reducible refine (pelotonref04_Ints.calls k _ _ t126 _ _ y134 true _ ?side1 ?side2 ?side3 ?side4 A4.out).mono ?_); (case side1 => repeat (first | exact (Kd.R_reads' HO128.out).2.2 | (with_reducible refine Kd.C_alloc ?_ _) | (with_reducible refine Kd.C_drewN ?_ _) | (with_reducible refine Kd.C_drew ?_))); (case side2 => exact (Kd.R_reads' HO128.out).2.1); (case side3 => repeat (first | exact (Kd.R_reads' HO136.out).2.2 | (with_reducible refine Kd.C_alloc ?_ _) | (with_reducible refine Kd.C_drewN ?_ _) | (with_reducible refine Kd.C_drew ?_))); (case side4 => exact (Kd.R_reads' HO136.out).2.1); rintro e w' ⟨rfl, ⟨nd, rfl⟩⟩; obtain ⟨Ao27, co27, eo27⟩ := Kd.R_slice HO133.out; subst eo27; have p138 : 0 ≤ (0 : Int) := (by omega); have q138 : 0 < (t130.length : Int) := of_decide_eq_true (by first | (with_reducible assumption) | assumption); obtain ⟨ad138, e138, hx138_0⟩ := Kd.at_int (Kd.R_reads' HO133.out).2.2 0 p138 q138; cases e138; have qi138 : (0 < t130.length) = True := eq_true (by omega); (try rw [show ((0 : Int)).toNat = 0 from rfl] at hx138_0); (try rw [Addr.add_zero'] at hx138_0); replace p138 := eq_true p138; replace q138 := eq_true q138; have p139 : 0 ≤ (1 : Int) := (by omega); have q139 : 1 < (t130.length : Int) := of_decide_eq_true (by first | (with_reducible assumption) | assumption); obtain ⟨ad139, e139, hx139_0⟩ := Kd.at_int (Kd.R_reads' HO133.out).2.2 1 p139 q139; obtain rfl : ad138 = ad139 := (by injection e139); (try simp only [show (1 : Int).toNat = 1 from rfl, Nat.reduceMul, Nat.reduceEqDiff, Go.Addr.add, ↓reduceIte] at hx139_0); have qi139 : (1 < t130.length) = True := eq_true (by omega); (try rw [show ((1 : Int)).toNat = 1 from rfl] at hx139_0); replace p139 := eq_true p139; replace q139 := eq_true q139; have p140 : 0 ≤ (2 : Int) := (by omega); have q140 : 2 < (t130.length : Int) := of_decide_eq_true (by first | (with_reducible assumption) | assumption); obtain ⟨ad140, e140, hx140_0⟩ := Kd.at_int (Kd.R_reads' HO133.out).2.2 2 p140 q140; obtain rfl : ad138 = ad140 := (by injection e140); (try simp only [show (2 : Int).toNat = 2 from rfl, Nat.reduceMul, Nat.reduceEqDiff, Go.Addr.add, ↓reduceIte] at hx140_0); have qi140 : (2 < t130.length) = True := eq_true (by omega); (try rw [show ((2 : Int)).toNat = 2 from rfl] at hx140_0); replace p140 := eq_true p140; replace q140 := eq_true q140; have p141 : 0 ≤ (3 : Int) := (by omega); have q141 : 3 < (t130.length : Int) := of_decide_eq_true (by first | (with_reducible assumption) | assumption); obtain ⟨ad141, e141, hx141_0⟩ := Kd.at_int (Kd.R_reads' HO133.out).2.2 3 p141 q141; obtain rfl : ad138 = ad141 := (by injection e141); (try simp only [show (3 : Int).toNat = 3 from rfl, Nat.reduceMul, Nat.reduceEqDiff, Go.Addr.add, ↓reduceIte] at hx141_0); have qi141 : (3 < t130.length) = True := eq_true (by omega); (try rw [show ((3 : Int)).toNat = 3 from rfl] at hx141_0); replace p141 := eq_true p141; replace q141 := eq_true q141))
 go_ret
 exact ⟨by first | rfl | (simp [errW_none, errW_some] <;> rfl) | (simp [*, errW_none, errW_some] <;> rfl), by repeat (first | (with_reducible first | exact HB.out | apply b_a | apply b_n | apply b_d) | exact HB.out)⟩
/-! ### pelotonlaw04_small: function 12 -/
def pelotonlaw04_small.f (a0_0 : Int) (a0_1 : Int) (l0_2 : List Int) : Option (Bool) := some (decide ((l0_2.length : Int) ≤ 600))
set_option maxHeartbeats 60000000 in
set_option maxRecDepth 100000 in
theorem pelotonlaw04_small.calls (a0_0 : Int) (a0_1 : Int) (A0_2 : Option Addr) (c0_2 : Nat) (l0_2 : List Int) (r : Bool) (w : World) (hr0_2 : Kd.C (Kd.int .i8) w A0_2 l0_2.length l0_2) (hc0_2 : l0_2.length ≤ c0_2) (h : pelotonlaw04_small.f a0_0 a0_1 l0_2 = some r) :
  Calls Try.prog 12 #[.agg #[.int .i64 a0_0, .int .i64 a0_1, .slice A0_2 l0_2.length c0_2]] w fun e w' => e = .returned (.bool r) ∧ Below w.heap.size w w' := by
 have hu30 := Try.underlying30
 have HR0_2 := Aside0.mk hr0_2
 have HC0_2 := Aside0.mk hc0_2
 clear hr0_2 hc0_2
 have HB := Aside0.mk (Below.refl w.heap.size w)
 have H : (some (decide ((l0_2.length : Int) ≤ 600))) = some r := h
 clear h
 obtain rfl := Option.some.inj H
 go_enter Try.func12, Try.ntmps12
 go_wp2_with (first | ((with_reducible refine gate_dst (N := 1) rfl ?_); refine box_event ?hg (N := 1) ?hd (cs := #[.int .i64 a0_0, .int .i64 a0_1, .slice A0_2 l0_2.length c0_2]) (t := 30) ?hr ?_; (case hd => rfl); (case hg => rfl); (case hr => first | (go_simp; done) | (go_simp; rfl)); intro gb142 hg w2 hbox hb; have n0_ := Aside0.mk (below_step (by repeat (first | (with_reducible first | exact HB.out | apply b_a | apply b_n | apply b_d) | exact HB.out)) hb); have n1_ := Aside0.mk (hbox); have n2_ := Aside0.mk ((by rw [hg]; exact (below_size (by repeat (first | (with_reducible first | exact HB.out | apply b_a | apply b_n | apply b_d) | exact HB.out))) : w.heap.size ≤ gb142)); have n3_ := Aside0.mk ((by rw [hg]; exact (below_size (by repeat (first | (with_reducible first | exact HB.out | apply b_a | apply b_n | apply b_d) | exact HB.out))) : w.heap.size ≤ gb142)); clear HB; have HB := n0_; have BK142 := n1_; have GW142 := n2_; have GE142 := n3_; clear n0_ n1_ n2_ n3_; clear hb hbox hg; have hcz3_0 : w2.cell? ⟨gb142, 0, none⟩ = some (.int .i64 a0_0) := (blk_cell BK142.out 0).trans rfl; have hcz3_1 : w2.cell? ⟨gb142, 1, none⟩ = some (.int .i64 a0_1) := (blk_cell BK142.out 1).trans rfl; have hcz3_2 : w2.cell? ⟨gb142, 2, none⟩ = some (.slice A0_2 l0_2.length c0_2) := (blk_cell BK142.out 2).trans rfl; have hfz3_0 := blk_frozen BK142.out 0; have hfz3_1 := blk_frozen BK142.out 1; have hfz3_2 := blk_frozen BK142.out 2))
 go_ret
 exact ⟨by first | rfl | (simp [errW_none, errW_some] <;> rfl) | (simp [*, errW_none, errW_some] <;> rfl), by repeat (first | (with_reducible first | exact HB.out | apply b_a | apply b_n | apply b_d | refine b_s ?_ GE142.out) | exact HB.out)⟩

/-! ### pelotonref04_Right: function 13 -/
def pelotonref04_Right.f (a0_0 : Int) (a0_1 : Int) (l0_2 : List Int) : Option (Bool) := if a0_0 ≥ 0 then (if a0_1 ≥ 0 then (if a0_0 ≤ 4096 then (if a0_1 ≤ 4096 then (if (l0_2.length : Int) = (wrap64 (a0_0 * a0_1)) then (some (decide ((l0_2.length : Int) ≤ 1048576))) else (some false)) else (some false)) else (some false)) else (some false)) else (some false)
set_option maxHeartbeats 60000000 in
set_option maxRecDepth 100000 in
theorem pelotonref04_Right.calls (a0_0 : Int) (a0_1 : Int) (A0_2 : Option Addr) (c0_2 : Nat) (l0_2 : List Int) (r : Bool) (w : World) (hr0_2 : Kd.C (Kd.int .i8) w A0_2 l0_2.length l0_2) (hc0_2 : l0_2.length ≤ c0_2) (h : pelotonref04_Right.f a0_0 a0_1 l0_2 = some r) :
  Calls Try.prog 13 #[.agg #[.int .i64 a0_0, .int .i64 a0_1, .slice A0_2 l0_2.length c0_2]] w fun e w' => e = .returned (.bool r) ∧ Below w.heap.size w w' := by
 have hu30 := Try.underlying30
 have HR0_2 := Aside0.mk hr0_2
 have HC0_2 := Aside0.mk hc0_2
 clear hr0_2 hc0_2
 have HB := Aside0.mk (Below.refl w.heap.size w)
 have H : (if a0_0 ≥ 0 then (if a0_1 ≥ 0 then (if a0_0 ≤ 4096 then (if a0_1 ≤ 4096 then (if (l0_2.length : Int) = (wrap64 (a0_0 * a0_1)) then (some (decide ((l0_2.length : Int) ≤ 1048576))) else (some false)) else (some false)) else (some false)) else (some false)) else (some false)) = some r := h
 clear h
 by_cases c2 : a0_0 ≥ 0
 rotate_left
 ·
  rw [if_neg c2] at H
  have c2b0 : decide (0 ≤ a0_0) = false := decide_eq_false c2
  clear c2
  obtain rfl := Option.some.inj H
  go_enter Try.func13, Try.ntmps13
  go_wp2_with (first | ((with_reducible refine gate_dst (N := 1) rfl ?_); (try (refine gate_guard (by rfl) ?_; dsimp only)); refine box_event ?hg (N := 1) ?hd (cs := #[.int .i64 a0_0, .int .i64 a0_1, .slice A0_2 l0_2.length c0_2]) (t := 30) ?hr ?_; (case hd => rfl); (case hg => rfl); (case hr => first | (go_simp; done) | (go_simp; rfl)); intro gb143 hg w17 hbox hb; have n0_ := Aside0.mk (below_step (by repeat (first | (with_reducible first | exact HB.out | apply b_a | apply b_n | apply b_d) | exact HB.out)) hb); have n1_ := Aside0.mk (hbox); have n2_ := Aside0.mk ((by rw [hg]; exact (below_size (by repeat (first | (with_reducible first | exact HB.out | apply b_a | apply b_n | apply b_d) | exact HB.out))) : w.heap.size ≤ gb143)); have n3_ := Aside0.mk ((by rw [hg]; exact (below_size (by repeat (first | (with_reducible first | exact HB.out | apply b_a | apply b_n | apply b_d) | exact HB.out))) : w.heap.size ≤ gb143)); clear HB; have HB := n0_; have BK143 := n1_; have GW143 := n2_; have GE143 := n3_; clear n0_ n1_ n2_ n3_; clear hb hbox hg; have hcz18_0 : w17.cell? ⟨gb143, 0, none⟩ = some (.int .i64 a0_0) := (blk_cell BK143.out 0).trans rfl; have hcz18_1 : w17.cell? ⟨gb143, 1, none⟩ = some (.int .i64 a0_1) := (blk_cell BK143.out 1).trans rfl; have hcz18_2 : w17.cell? ⟨gb143, 2, none⟩ = some (.slice A0_2 l0_2.length c0_2) := (blk_cell BK143.out 2).trans rfl; have hfz18_0 := blk_frozen BK143.out 0; have hfz18_1 := blk_frozen BK143.out 1; have hfz18_2 := blk_frozen BK143.out 2))
  go_ret
  exact ⟨by first | rfl | (simp [errW_none, errW_some] <;> rfl) | (simp [*, errW_none, errW_some] <;> rfl), by repeat (first | (with_reducible first | exact HB.out | apply b_a | apply b_n | apply b_d | refine b_s ?_ GE143.out) | exact HB.out)⟩

 rw [if_pos c2] at H
 have c2b0 : decide (0 ≤ a0_0) = true := decide_eq_true c2
 clear c2
 by_cases c3 : a0_1 ≥ 0
 rotate_left
 ·
  rw [if_neg c3] at H
  have c3b0 : decide (0 ≤ a0_1) = false := decide_eq_false c3
  clear c3
  obtain rfl := Option.some.inj H
  go_enter Try.func13, Try.ntmps13
  go_wp2_with (first | ((with_reducible refine gate_dst (N := 1) rfl ?_); (try (refine gate_guard (by rfl) ?_; dsimp only)); refine box_event ?hg (N := 1) ?hd (cs := #[.int .i64 a0_0, .int .i64 a0_1, .slice A0_2 l0_2.length c0_2]) (t := 30) ?hr ?_; (case hd => rfl); (case hg => rfl); (case hr => first | (go_simp; done) | (go_simp; rfl)); intro gb143 hg w15 hbox hb; have n0_ := Aside0.mk (below_step (by repeat (first | (with_reducible first | exact HB.out | apply b_a | apply b_n | apply b_d) | exact HB.out)) hb); have n1_ := Aside0.mk (hbox); have n2_ := Aside0.mk ((by rw [hg]; exact (below_size (by repeat (first | (with_reducible first | exact HB.out | apply b_a | apply b_n | apply b_d) | exact HB.out))) : w.heap.size ≤ gb143)); have n3_ := Aside0.mk ((by rw [hg]; exact (below_size (by repeat (first | (with_reducible first | exact HB.out | apply b_a | apply b_n | apply b_d) | exact HB.out))) : w.heap.size ≤ gb143)); clear HB; have HB := n0_; have BK143 := n1_; have GW143 := n2_; have GE143 := n3_; clear n0_ n1_ n2_ n3_; clear hb hbox hg; have hcz16_0 : w15.cell? ⟨gb143, 0, none⟩ = some (.int .i64 a0_0) := (blk_cell BK143.out 0).trans rfl; have hcz16_1 : w15.cell? ⟨gb143, 1, none⟩ = some (.int .i64 a0_1) := (blk_cell BK143.out 1).trans rfl; have hcz16_2 : w15.cell? ⟨gb143, 2, none⟩ = some (.slice A0_2 l0_2.length c0_2) := (blk_cell BK143.out 2).trans rfl; have hfz16_0 := blk_frozen BK143.out 0; have hfz16_1 := blk_frozen BK143.out 1; have hfz16_2 := blk_frozen BK143.out 2))
  go_ret
  exact ⟨by first | rfl | (simp [errW_none, errW_some] <;> rfl) | (simp [*, errW_none, errW_some] <;> rfl), by repeat (first | (with_reducible first | exact HB.out | apply b_a | apply b_n | apply b_d | refine b_s ?_ GE143.out) | exact HB.out)⟩
 rw [if_pos c3] at H
 have c3b0 : decide (0 ≤ a0_1) = true := decide_eq_true c3
 clear c3
 by_cases c4 : a0_0 ≤ 4096
 rotate_left
 ·
  rw [if_neg c4] at H
  have c4b0 : decide (a0_0 ≤ 4096) = false := decide_eq_false c4
  clear c4
  obtain rfl := Option.some.inj H
  go_enter Try.func13, Try.ntmps13
  go_wp2_with (first | ((with_reducible refine gate_dst (N := 1) rfl ?_); (try (refine gate_guard (by rfl) ?_; dsimp only)); refine box_event ?hg (N := 1) ?hd (cs := #[.int .i64 a0_0, .int .i64 a0_1, .slice A0_2 l0_2.length c0_2]) (t := 30) ?hr ?_; (case hd => rfl); (case hg => rfl); (case hr => first | (go_simp; done) | (go_simp; rfl)); intro gb143 hg w13 hbox hb; have n0_ := Aside0.mk (below_step (by repeat (first | (with_reducible first | exact HB.out | apply b_a | apply b_n | apply b_d) | exact HB.out)) hb); have n1_ := Aside0.mk (hbox); have n2_ := Aside0.mk ((by rw [hg]; exact (below_size (by repeat (first | (with_reducible first | exact HB.out | apply b_a | apply b_n | apply b_d) | exact HB.out))) : w.heap.size ≤ gb143)); have n3_ := Aside0.mk ((by rw [hg]; exact (below_size (by repeat (first | (with_reducible first | exact HB.out | apply b_a | apply b_n | apply b_d) | exact HB.out))) : w.heap.size ≤ gb143)); clear HB; have HB := n0_; have BK143 := n1_; have GW143 := n2_; have GE143 := n3_; clear n0_ n1_ n2_ n3_; clear hb hbox hg; have hcz14_0 : w13.cell? ⟨gb143, 0, none⟩ = some (.int .i64 a0_0) := (blk_cell BK143.out 0).trans rfl; have hcz14_1 : w13.cell? ⟨gb143, 1, none⟩ = some (.int .i64 a0_1) := (blk_cell BK143.out 1).trans rfl; have hcz14_2 : w13.cell? ⟨gb143, 2, none⟩ = some (.slice A0_2 l0_2.length c0_2) := (blk_cell BK143.out 2).trans rfl; have hfz14_0 := blk_frozen BK143.out 0; have hfz14_1 := blk_frozen BK143.out 1; have hfz14_2 := blk_frozen BK143.out 2))
  go_ret
  exact ⟨by first | rfl | (simp [errW_none, errW_some] <;> rfl) | (simp [*, errW_none, errW_some] <;> rfl), by repeat (first | (with_reducible first | exact HB.out | apply b_a | apply b_n | apply b_d | refine b_s ?_ GE143.out) | exact HB.out)⟩
 rw [if_pos c4] at H
 have c4b0 : decide (a0_0 ≤ 4096) = true := decide_eq_true c4
 clear c4
 by_cases c5 : a0_1 ≤ 4096
 rotate_left
 ·
  rw [if_neg c5] at H
  have c5b0 : decide (a0_1 ≤ 4096) = false := decide_eq_false c5
  clear c5
  obtain rfl := Option.some.inj H
  go_enter Try.func13, Try.ntmps13
  go_wp2_with (first | ((with_reducible refine gate_dst (N := 1) rfl ?_); (try (refine gate_guard (by rfl) ?_; dsimp only)); refine box_event ?hg (N := 1) ?hd (cs := #[.int .i64 a0_0, .int .i64 a0_1, .slice A0_2 l0_2.length c0_2]) (t := 30) ?hr ?_; (case hd => rfl); (case hg => rfl); (case hr => first | (go_simp; done) | (go_simp; rfl)); intro gb143 hg w11 hbox hb; have n0_ := Aside0.mk (below_step (by repeat (first | (with_reducible first | exact HB.out | apply b_a | apply b_n | apply b_d) | exact HB.out)) hb); have n1_ := Aside0.mk (hbox); have n2_ := Aside0.mk ((by rw [hg]; exact (below_size (by repeat (first | (with_reducible first | exact HB.out | apply b_a | apply b_n | apply b_d) | exact HB.out))) : w.heap.size ≤ gb143)); have n3_ := Aside0.mk ((by rw [hg]; exact (below_size (by repeat (first | (with_reducible first | exact HB.out | apply b_a | apply b_n | apply b_d) | exact HB.out))) : w.heap.size ≤ gb143)); clear HB; have HB := n0_; have BK143 := n1_; have GW143 := n2_; have GE143 := n3_; clear n0_ n1_ n2_ n3_; clear hb hbox hg; have hcz12_0 : w11.cell? ⟨gb143, 0, none⟩ = some (.int .i64 a0_0) := (blk_cell BK143.out 0).trans rfl; have hcz12_1 : w11.cell? ⟨gb143, 1, none⟩ = some (.int .i64 a0_1) := (blk_cell BK143.out 1).trans rfl; have hcz12_2 : w11.cell? ⟨gb143, 2, none⟩ = some (.slice A0_2 l0_2.length c0_2) := (blk_cell BK143.out 2).trans rfl; have hfz12_0 := blk_frozen BK143.out 0; have hfz12_1 := blk_frozen BK143.out 1; have hfz12_2 := blk_frozen BK143.out 2))
  go_ret
  exact ⟨by first | rfl | (simp [errW_none, errW_some] <;> rfl) | (simp [*, errW_none, errW_some] <;> rfl), by repeat (first | (with_reducible first | exact HB.out | apply b_a | apply b_n | apply b_d | refine b_s ?_ GE143.out) | exact HB.out)⟩
 rw [if_pos c5] at H
 have c5b0 : decide (a0_1 ≤ 4096) = true := decide_eq_true c5
 clear c5
 by_cases c6 : (l0_2.length : Int) = (wrap64 (a0_0 * a0_1))
 rotate_left
 ·
  rw [if_neg c6] at H
  have c6b0 : ((l0_2.length : Int) == (wrap64 (a0_0 * a0_1))) = false := beq_eq_false_iff_ne.mpr c6
  have c6b1 : ((l0_2.length : Int) != (wrap64 (a0_0 * a0_1))) = true := bne_iff_ne.mpr c6
  obtain rfl := Option.some.inj H
  go_enter Try.func13, Try.ntmps13
  go_wp2_with (first | ((with_reducible refine gate_dst (N := 1) rfl ?_); (try (refine gate_guard (by rfl) ?_; dsimp only)); refine box_event ?hg (N := 1) ?hd (cs := #[.int .i64 a0_0, .int .i64 a0_1, .slice A0_2 l0_2.length c0_2]) (t := 30) ?hr ?_; (case hd => rfl); (case hg => rfl); (case hr => first | (go_simp; done) | (go_simp; rfl)); intro gb143 hg w9 hbox hb; have n0_ := Aside0.mk (below_step (by repeat (first | (with_reducible first | exact HB.out | apply b_a | apply b_n | apply b_d) | exact HB.out)) hb); have n1_ := Aside0.mk (hbox); have n2_ := Aside0.mk ((by rw [hg]; exact (below_size (by repeat (first | (with_reducible first | exact HB.out | apply b_a | apply b_n | apply b_d) | exact HB.out))) : w.heap.size ≤ gb143)); have n3_ := Aside0.mk ((by rw [hg]; exact (below_size (by repeat (first | (with_reducible first | exact HB.out | apply b_a | apply b_n | apply b_d) | exact HB.out))) : w.heap.size ≤ gb143)); clear HB; have HB := n0_; have BK143 := n1_; have GW143 := n2_; have GE143 := n3_; clear n0_ n1_ n2_ n3_; clear hb hbox hg; have hcz10_0 : w9.cell? ⟨gb143, 0, none⟩ = some (.int .i64 a0_0) := (blk_cell BK143.out 0).trans rfl; have hcz10_1 : w9.cell? ⟨gb143, 1, none⟩ = some (.int .i64 a0_1) := (blk_cell BK143.out 1).trans rfl; have hcz10_2 : w9.cell? ⟨gb143, 2, none⟩ = some (.slice A0_2 l0_2.length c0_2) := (blk_cell BK143.out 2).trans rfl; have hfz10_0 := blk_frozen BK143.out 0; have hfz10_1 := blk_frozen BK143.out 1; have hfz10_2 := blk_frozen BK143.out 2))
  go_ret
  exact ⟨by first | rfl | (simp [errW_none, errW_some] <;> rfl) | (simp [*, errW_none, errW_some] <;> rfl), by repeat (first | (with_reducible first | exact HB.out | apply b_a | apply b_n | apply b_d | refine b_s ?_ GE143.out) | exact HB.out)⟩
 rw [if_pos c6] at H
 have c6b0 : ((l0_2.length : Int) == (wrap64 (a0_0 * a0_1))) = true := beq_iff_eq.mpr c6
 have c6b1 : ((l0_2.length : Int) != (wrap64 (a0_0 * a0_1))) = false := bne_eq_false_iff_eq.mpr c6
 clear c6
 obtain rfl := Option.some.inj H
 go_enter Try.func13, Try.ntmps13
 go_wp2_with (first | ((with_reducible refine gate_dst (N := 1) rfl ?_); (try (refine gate_guard (by rfl) ?_; dsimp only)); refine box_event ?hg (N := 1) ?hd (cs := #[.int .i64 a0_0, .int .i64 a0_1, .slice A0_2 l0_2.length c0_2]) (t := 30) ?hr ?_; (case hd => rfl); (case hg => rfl); (case hr => first | (go_simp; done) | (go_simp; rfl)); intro gb143 hg w7 hbox hb; have n0_ := Aside0.mk (below_step (by repeat (first | (with_reducible first | exact HB.out | apply b_a | apply b_n | apply b_d) | exact HB.out)) hb); have n1_ := Aside0.mk (hbox); have n2_ := Aside0.mk ((by rw [hg]; exact (below_size (by repeat (first | (with_reducible first | exact HB.out | apply b_a | apply b_n | apply b_d) | exact HB.out))) : w.heap.size ≤ gb143)); have n3_ := Aside0.mk ((by rw [hg]; exact (below_size (by repeat (first | (with_reducible first | exact HB.out | apply b_a | apply b_n | apply b_d) | exact HB.out))) : w.heap.size ≤ gb143)); clear HB; have HB := n0_; have BK143 := n1_; have GW143 := n2_; have GE143 := n3_; clear n0_ n1_ n2_ n3_; clear hb hbox hg; have hcz8_0 : w7.cell? ⟨gb143, 0, none⟩ = some (.int .i64 a0_0) := (blk_cell BK143.out 0).trans rfl; have hcz8_1 : w7.cell? ⟨gb143, 1, none⟩ = some (.int .i64 a0_1) := (blk_cell BK143.out 1).trans rfl; have hcz8_2 : w7.cell? ⟨gb143, 2, none⟩ = some (.slice A0_2 l0_2.length c0_2) := (blk_cell BK143.out 2).trans rfl; have hfz8_0 := blk_frozen BK143.out 0; have hfz8_1 := blk_frozen BK143.out 1; have hfz8_2 := blk_frozen BK143.out 2))
 go_ret
 exact ⟨by first | rfl | (simp [errW_none, errW_some] <;> rfl) | (simp [*, errW_none, errW_some] <;> rfl), by repeat (first | (with_reducible first | exact HB.out | apply b_a | apply b_n | apply b_d | refine b_s ?_ GE143.out) | exact HB.out)⟩
/-! ### matmul_Many: function 16 -/
def matmul_Many.l0 : Nat → List (List Int) → List (List Int) → Int → Int → Int → Int → List Int → Option ((List (List Int)) × Int)
 | 0, _, _, _, _, _, _, _ => none
 | k + 1, x6, x13, x14, x15, x145000, x145001, x145002 => if x15 < x14 then (if 0 ≤ x15 then (if x15 < (x13.length : Int) then ((matmul_Apply.f k x145000 x145001 x145002 (rd_L3 x13 x15)).bind fun bt147 => (if bt147.2 = 0 then (if x6.length < 5864062014805 then (matmul_Many.l0 k (x6 ++ [bt147.1]) x13 x14 (wrap64 (x15 + 1)) x145000 x145001 x145002) else (none)) else (some (([] : List (List Int)), bt147.2)))) else (none)) else (none)) else (some (x6, 0))
def matmul_Many.f (k : Nat) (a0_0 : Int) (a0_1 : Int) (l0_2 : List Int) (l1 : List (List Int)) : Option ((List (List Int)) × Int) := (matmul_wrong.f a0_0 a0_1 l0_2).bind fun t145 => (if t145 = true then (some (([] : List (List Int)), 30)) else (matmul_Many.l0 k ([] : List (List Int)) l1 (l1.length : Int) 0 a0_0 a0_1 l0_2))
theorem matmul_Many.mono_l : ∀ k, (∀ y0 y1 y2 y3 y4 y5 y6, LeO (matmul_Many.l0 k y0 y1 y2 y3 y4 y5 y6) (matmul_Many.l0 (k + 1) y0 y1 y2 y3 y4 y5 y6))
 | 0 => fun _ _ _ _ _ _ _ r h => by simp [matmul_Many.l0] at h
 | k + 1 => by
  have ih0 := matmul_Many.mono_l k
  ·
   intro y0 y1 y2 y3 y4 y5 y6
   unfold matmul_Many.l0
   repeat' first
   | (with_reducible exact ih0 _ _ _ _ _ _ _)
   | (with_reducible exact matmul_Apply.mono _ _ _ _ _)
   | (with_reducible exact LeO.refl _)
   | (with_reducible exact LeO.none _)
   | (with_reducible refine LeO.ite ?_ ?_)
   | (with_reducible refine LeO.bind ?_ (fun _ => ?_))
   | exact ih0 _ _ _ _ _ _ _
   | exact matmul_Apply.mono _ _ _ _ _
   | exact LeO.none _
   | refine LeO.ite ?_ ?_
   | refine LeO.bind ?_ (fun _ => ?_)
theorem matmul_Many.mono : ∀ a0 a1 a2 a3 k, LeO (matmul_Many.f k a0 a1 a2 a3) (matmul_Many.f (k + 1) a0 a1 a2 a3) := by
 intro a0 a1 a2 a3 k
 have ih0 := matmul_Many.mono_l k
 unfold matmul_Many.f
 repeat' first
   | (with_reducible exact ih0 _ _ _ _ _ _ _)
   | (with_reducible exact matmul_Apply.mono _ _ _ _ _)
   | (with_reducible exact LeO.refl _)
   | (with_reducible exact LeO.none _)
   | (with_reducible refine LeO.ite ?_ ?_)
   | (with_reducible refine LeO.bind ?_ (fun _ => ?_))
   | exact ih0 _ _ _ _ _ _ _
   | exact matmul_Apply.mono _ _ _ _ _
   | exact LeO.none _
   | refine LeO.ite ?_ ?_
   | refine LeO.bind ?_ (fun _ => ?_)
set_option maxHeartbeats 60000000 in
set_option maxRecDepth 100000 in
theorem matmul_Many.calls (k : Nat) (a0_0 : Int) (a0_1 : Int) (A0_2 : Option Addr) (c0_2 : Nat) (l0_2 : List Int) (A1 : Option Addr) (c1 : Nat) (l1 : List (List Int)) (r1 : List (List Int)) (r2 : Int) (w : World) (hr0_2 : Kd.C (Kd.int .i8) w A0_2 l0_2.length l0_2) (hc0_2 : l0_2.length ≤ c0_2) (hr1 : Kd.C (Kd.slice 35 (Kd.int .i8)) w A1 l1.length l1) (hc1 : l1.length ≤ c1) (h : matmul_Many.f k a0_0 a0_1 l0_2 l1 = some (r1, r2)) :
  Calls Try.prog 16 #[.agg #[.int .i64 a0_0, .int .i64 a0_1, .slice A0_2 l0_2.length c0_2], .slice A1 l1.length c1] w fun e w' => ∃ v0_ : Value, e = .returned (.tuple #[v0_, .int .i64 r2]) ∧ Kd.S (Kd.slice 21 (Kd.int .i32)) 32 w' w.heap.size (fun _ => True) v0_ r1 ∧ Below w.heap.size w w' := by
 have hu30 := Try.underlying30
 have HR0_2 := Aside0.mk hr0_2
 have HC0_2 := Aside0.mk hc0_2
 clear hr0_2 hc0_2
 have HR1 := Aside0.mk hr1
 have HC1 := Aside0.mk hc1
 clear hr1 hc1
 have HB := Aside0.mk (Below.refl w.heap.size w)
 have H : ((matmul_wrong.f a0_0 a0_1 l0_2).bind fun t145 => (if t145 = true then (some (([] : List (List Int)), 30)) else (matmul_Many.l0 k ([] : List (List Int)) l1 (l1.length : Int) 0 a0_0 a0_1 l0_2))) = some (r1, r2) := h
 clear h
 replace H := Option.bind_eq_some_iff.mp H
 obtain ⟨t145, A30, H⟩ := H
 replace H : (if t145 = true then (some (([] : List (List Int)), 30)) else (matmul_Many.l0 k ([] : List (List Int)) l1 (l1.length : Int) 0 a0_0 a0_1 l0_2)) = some (r1, r2) := H
 have A3 := Aside0.mk A30
 clear A30
 by_cases c4 : t145 = true
 ·
  subst c4
  have H1 : (some (([] : List (List Int)), 30)) = some (r1, r2) := by rw [if_pos rfl] at H; exact H
  clear H
  have H := H1
  clear H1
  simp only [Option.some.injEq, Prod.mk.injEq] at H
  obtain ⟨rfl, rfl⟩ := H
  go_enter Try.func16, Try.ntmps16
  go_wp2_with (first | ((with_reducible refine gate_dst (N := 2) rfl ?_); refine box_event ?hg (N := 2) ?hd (cs := #[.int .i64 a0_0, .int .i64 a0_1, .slice A0_2 l0_2.length c0_2]) (t := 30) ?hr ?_; (case hd => rfl); (case hg => rfl); (case hr => first | (go_simp; done) | (go_simp; rfl)); intro gb144 hg w5 hbox hb; have n0_ := Aside0.mk (below_step (by repeat (first | (with_reducible first | exact HB.out | apply b_a | apply b_n | apply b_d) | exact HB.out)) hb); have n1_ := Aside0.mk (hbox); have n2_ := Aside0.mk ((by rw [hg]; exact (below_size (by repeat (first | (with_reducible first | exact HB.out | apply b_a | apply b_n | apply b_d) | exact HB.out))) : w.heap.size ≤ gb144)); have n3_ := Aside0.mk ((by rw [hg]; exact (below_size (by repeat (first | (with_reducible first | exact HB.out | apply b_a | apply b_n | apply b_d) | exact HB.out))) : w.heap.size ≤ gb144)); clear HB; have HB := n0_; have BK144 := n1_; have GW144 := n2_; have GE144 := n3_; clear n0_ n1_ n2_ n3_; clear hb hbox hg; have hcz6_0 : w5.cell? ⟨gb144, 0, none⟩ = some (.int .i64 a0_0) := (blk_cell BK144.out 0).trans rfl; have hcz6_1 : w5.cell? ⟨gb144, 1, none⟩ = some (.int .i64 a0_1) := (blk_cell BK144.out 1).trans rfl; have hcz6_2 : w5.cell? ⟨gb144, 2, none⟩ = some (.slice A0_2 l0_2.length c0_2) := (blk_cell BK144.out 2).trans rfl; have hfz6_0 := blk_frozen BK144.out 0; have hfz6_1 := blk_frozen BK144.out 1; have hfz6_2 := blk_frozen BK144.out 2) | ((with_reducible refine gate_callee (f := 29) rfl ?_); refine goesL_ (some 12) rfl rfl Try.func29 (by kernel_rfl) rfl #[.agg #[.int .i64 a0_0, .int .i64 a0_1, .slice A0_2 l0_2.length c0_2]] rfl (by (try simp only [l_4, l_5, l_6]); first | done | rfl | (simp only [l_7, l_8]; rfl)) ?_; (with_reducible refine (matmul_wrong.calls a0_0 a0_1 _ _ l0_2 true _ ?side1 ?side2 A3.out).mono ?_); (case side1 => repeat (first | exact (Kd.C_below HR0_2.out HB.out) | (with_reducible refine Kd.C_alloc ?_ _) | (with_reducible refine Kd.C_drewN ?_ _) | (with_reducible refine Kd.C_drew ?_))); (case side2 => exact HC0_2.out); rintro e w7 ⟨rfl, hb⟩; (try clear A3); refine ⟨_, rfl, ?_⟩; have n0_ := Aside0.mk (blk_below (g := gb144) (o := .cells #[.int .i64 a0_0, .int .i64 a0_1, .slice A0_2 l0_2.length c0_2] 30 (0, 0)) (by (with_reducible repeat (first | refine k_n ?_ _ | refine k_d ?_ | refine k_a ?_ _)); exact BK144.out) hb); have n1_ := Aside0.mk (below_step (by repeat (first | (with_reducible first | exact HB.out | apply b_a | apply b_n | apply b_d | refine b_s ?_ GE144.out) | exact HB.out)) hb); clear BK144; clear HB; have BK144 := n0_; have HB := n1_; clear n0_ n1_; (try clear hb); (try clear hb2); (try clear hk); (try clear hi)))
  go_ret2
  exact ⟨_, by first | rfl | (simp [errW_none, errW_some] <;> rfl) | (simp [*, errW_none, errW_some] <;> rfl), by first | exact Kd.S_nil _ _ _ _ _ | exact Kd.N_nil _ _ _ _ _ | exact Kd.V_nil _ _ _ _ _ | exact Kd.Q_nil _ _ _ _ _ | exact Kd.R_nil _ _ _ _ _, by repeat (first | (with_reducible first | exact HB.out | apply b_a | apply b_n | apply b_d | refine b_s ?_ GE144.out) | exact HB.out)⟩
 replace c4 := Bool.eq_false_iff.mpr c4
 subst c4
 have H1 : (matmul_Many.l0 k ([] : List (List Int)) l1 (l1.length : Int) 0 a0_0 a0_1 l0_2) = some (r1, r2) := by rw [if_neg (show ¬ (false = true) by decide)] at H; exact H
 clear H
 have H := H1
 clear H1
 have H' := Aside0.mk H
 clear H
 go_enter Try.func16, Try.ntmps16
 go_wp2_with (first | ((with_reducible refine gate_dst (N := 2) rfl ?_); refine box_event ?hg (N := 2) ?hd (cs := #[.int .i64 a0_0, .int .i64 a0_1, .slice A0_2 l0_2.length c0_2]) (t := 30) ?hr ?_; (case hd => rfl); (case hg => rfl); (case hr => first | (go_simp; done) | (go_simp; rfl)); intro gb144 hg w8 hbox hb; have n0_ := Aside0.mk (below_step (by repeat (first | (with_reducible first | exact HB.out | apply b_a | apply b_n | apply b_d) | exact HB.out)) hb); have n1_ := Aside0.mk (hbox); have n2_ := Aside0.mk ((by rw [hg]; exact (below_size (by repeat (first | (with_reducible first | exact HB.out | apply b_a | apply b_n | apply b_d) | exact HB.out))) : w.heap.size ≤ gb144)); have n3_ := Aside0.mk ((by rw [hg]; exact (below_size (by repeat (first | (with_reducible first | exact HB.out | apply b_a | apply b_n | apply b_d) | exact HB.out))) : w.heap.size ≤ gb144)); clear HB; have HB := n0_; have BK144 := n1_; have GW144 := n2_; have GE144 := n3_; clear n0_ n1_ n2_ n3_; clear hb hbox hg; have hcz9_0 : w8.cell? ⟨gb144, 0, none⟩ = some (.int .i64 a0_0) := (blk_cell BK144.out 0).trans rfl; have hcz9_1 : w8.cell? ⟨gb144, 1, none⟩ = some (.int .i64 a0_1) := (blk_cell BK144.out 1).trans rfl; have hcz9_2 : w8.cell? ⟨gb144, 2, none⟩ = some (.slice A0_2 l0_2.length c0_2) := (blk_cell BK144.out 2).trans rfl; have hfz9_0 := blk_frozen BK144.out 0; have hfz9_1 := blk_frozen BK144.out 1; have hfz9_2 := blk_frozen BK144.out 2) | ((with_reducible refine gate_callee (f := 29) rfl ?_); refine goesL_ (some 12) rfl rfl Try.func29 (by kernel_rfl) rfl #[.agg #[.int .i64 a0_0, .int .i64 a0_1, .slice A0_2 l0_2.length c0_2]] rfl (by (try simp only [l_4, l_5, l_6]); first | done | rfl | (simp only [l_7, l_8]; rfl)) ?_; (with_reducible refine (matmul_wrong.calls a0_0 a0_1 _ _ l0_2 false _ ?side1 ?side2 A3.out).mono ?_); (case side1 => repeat (first | exact (Kd.C_below HR0_2.out HB.out) | (with_reducible refine Kd.C_alloc ?_ _) | (with_reducible refine Kd.C_drewN ?_ _) | (with_reducible refine Kd.C_drew ?_))); (case side2 => exact HC0_2.out); rintro e w10 ⟨rfl, hb⟩; (try clear A3); refine ⟨_, rfl, ?_⟩; have n0_ := Aside0.mk (blk_below (g := gb144) (o := .cells #[.int .i64 a0_0, .int .i64 a0_1, .slice A0_2 l0_2.length c0_2] 30 (0, 0)) (by (with_reducible repeat (first | refine k_n ?_ _ | refine k_d ?_ | refine k_a ?_ _)); exact BK144.out) hb); have n1_ := Aside0.mk (below_step (by repeat (first | (with_reducible first | exact HB.out | apply b_a | apply b_n | apply b_d | refine b_s ?_ GE144.out) | exact HB.out)) hb); clear BK144; clear HB; have BK144 := n0_; have HB := n1_; clear n0_ n1_; (try clear hb); (try clear hb2); (try clear hk); (try clear hi)))
 go_loopg [6, 15] k (fun kq v6 v15 w' => ∃ (x6_1 : List (List Int)) (x15_1 : Int), v15 = .int .i64 x15_1 ∧ Aside0 (matmul_Many.l0 kq x6_1 l1 (l1.length : Int) x15_1 a0_0 a0_1 l0_2 = some (r1, r2)) ∧ Aside0 (kq ≤ k) ∧ Aside0 (Kd.S (Kd.slice 21 (Kd.int .i32)) 32 w' w.heap.size (fun _ => True) v6 x6_1) ∧ Aside0 (w'.heap[gb144]? = some (.cells #[.int .i64 a0_0, .int .i64 a0_1, (.slice A0_2 l0_2.length c0_2)] 30 (0, 0))) ∧ Aside0 (Below w.heap.size w w'))
 case atStart => exact ⟨(([] : List (List Int))), (0), (by first | rfl | (simp; done) | (simp [*]; done)), H', ⟨Nat.le_refl _⟩, ⟨by first | exact Kd.S_nil _ _ _ _ _ | exact Kd.N_nil _ _ _ _ _ | exact Kd.V_nil _ _ _ _ _ | exact Kd.Q_nil _ _ _ _ _ | exact Kd.R_nil _ _ _ _ _⟩, ⟨by (with_reducible repeat (first | refine k_n ?_ _ | refine k_d ?_ | refine k_a ?_ _)); exact BK144.out⟩, ⟨by repeat (first | (with_reducible first | exact HB.out | apply b_a | apply b_n | apply b_d | refine b_s ?_ GE144.out) | exact HB.out)⟩⟩
 case round =>
  clear H'
  try clear c1
  try clear c2
  try clear p2
  try clear c4
  try clear hcz6_0
  try clear hcz6_1
  try clear hcz6_2
  try clear hcz9_0
  try clear hcz9_1
  try clear hcz9_2
  try clear hfz6_0
  try clear hfz6_1
  try clear hfz6_2
  try clear hfz9_0
  try clear hfz9_1
  try clear hfz9_2
  obtain ⟨x6_1, x15_1, rfl, HA, HK1, HO_6, BK144, HB⟩ := hrel
  cases gk with
  | zero => exact absurd HA.out (by simp [matmul_Many.l0])
  | succ k1 =>
   have H := HA.out
   clear HA
   simp only [matmul_Many.l0] at H
   by_cases c11 : x15_1 < (l1.length : Int)
   rotate_left
   ·
    rw [if_neg c11] at H
    have c11b0 : decide (x15_1 < (l1.length : Int)) = false := decide_eq_false c11
    clear c11
    simp only [Option.some.injEq, Prod.mk.injEq] at H
    obtain ⟨rfl, rfl⟩ := H
    go_wp2
    go_ret2
    exact ⟨_, by first | rfl | (simp [errW_none, errW_some] <;> rfl) | (simp [*, errW_none, errW_some] <;> rfl), by (with_reducible repeat (first | apply Kd.S_alloc | apply Kd.S_drewN | apply Kd.S_drew)); exact HO_6.out, by repeat (first | (with_reducible first | exact HB.out | apply b_a | apply b_n | apply b_d | refine b_s ?_ GE144.out) | exact HB.out)⟩

   rw [if_pos c11] at H
   have c11b0 : decide (x15_1 < (l1.length : Int)) = true := decide_eq_true c11
   clear c11
   by_cases c12 : 0 ≤ x15_1
   rotate_left
   ·
    rw [if_neg c12] at H
    exact absurd H (by simp)
   rw [if_pos c12] at H
   have c12b0 : decide (0 ≤ x15_1) = true := decide_eq_true c12
   clear c12
   by_cases c13 : x15_1 < (l1.length : Int)
   rotate_left
   ·
    rw [if_neg c13] at H
    exact absurd H (by simp)
   rw [if_pos c13] at H
   have c13b0 : decide (x15_1 < (l1.length : Int)) = true := decide_eq_true c13
   clear c13
   replace H := Option.bind_eq_some_iff.mp H
   obtain ⟨⟨t147, t150⟩, A140, H⟩ := H
   replace H : (if t150 = 0 then (if x6_1.length < 5864062014805 then (matmul_Many.l0 k1 (x6_1 ++ [t147]) l1 (l1.length : Int) (wrap64 (x15_1 + 1)) a0_0 a0_1 l0_2) else (none)) else (some (([] : List (List Int)), t150))) = some (r1, r2) := H
   have A14 := Aside0.mk A140
   clear A140
   by_cases c15 : t150 = 0
   rotate_left
   ·
    rw [if_neg c15] at H
    have c15b0 : (t150 == 0) = false := beq_eq_false_iff_ne.mpr c15
    have c15b1 : (t150 != 0) = true := bne_iff_ne.mpr c15
    simp only [Option.some.injEq, Prod.mk.injEq] at H
    obtain ⟨rfl, rfl⟩ := H
    have p146 : 0 ≤ (x15_1 : Int) := of_decide_eq_true (by first | (with_reducible assumption) | assumption)
    have q146 : x15_1 < (l1.length : Int) := of_decide_eq_true (by first | (with_reducible assumption) | assumption)
    obtain ⟨ad146, A146_0, c146_0, e146, hx146_0, hl146_0, hi146_0⟩ := at_L3 HR1.out x15_1 p146 q146
    cases e146
    replace hx146_0 := (HB.out.cell (World.block_lt_of_cell? w _ hx146_0)).trans hx146_0
    have HR146_0 := Aside0.mk hi146_0
    have HC146_0 := Aside0.mk hl146_0
    clear hi146_0 hl146_0
    replace p146 := eq_true p146
    replace q146 := eq_true q146
    have hcz21_0 : wr.cell? ⟨gb144, 0, none⟩ = some (.int .i64 a0_0) := (blk_cell BK144.out 0).trans rfl
    have hcz21_1 : wr.cell? ⟨gb144, 1, none⟩ = some (.int .i64 a0_1) := (blk_cell BK144.out 1).trans rfl
    have hcz21_2 : wr.cell? ⟨gb144, 2, none⟩ = some (.slice A0_2 l0_2.length c0_2) := (blk_cell BK144.out 2).trans rfl
    have hfz21_0 := blk_frozen BK144.out 0
    have hfz21_1 := blk_frozen BK144.out 1
    have hfz21_2 := blk_frozen BK144.out 2
    go_wp2_with (first | ((with_reducible refine gate_callee (f := 14) rfl ?_); refine goesL_ (some 22) rfl rfl Try.func14 (by kernel_rfl) rfl #[.agg #[.int .i64 a0_0, .int .i64 a0_1, .slice A0_2 l0_2.length c0_2], .slice A146_0 (rd_L3 l1 x15_1).length c146_0] rfl (by (try simp only [l_4, l_5, l_6]); first | done | rfl | (simp only [l_7, l_8]; rfl)) ?_; (with_reducible refine (matmul_Apply.calls k1 a0_0 a0_1 _ _ l0_2 _ _ (rd_L3 l1 x15_1) t147 t150 _ ?side1 ?side2 ?side3 ?side4 A14.out).mono ?_); (case side1 => repeat (first | exact (Kd.C_below HR0_2.out HB.out) | (with_reducible refine Kd.C_alloc ?_ _) | (with_reducible refine Kd.C_drewN ?_ _) | (with_reducible refine Kd.C_drew ?_))); (case side2 => exact HC0_2.out); (case side3 => repeat (first | exact (Kd.C_below HR146_0.out HB.out) | (with_reducible refine Kd.C_alloc ?_ _) | (with_reducible refine Kd.C_drewN ?_ _) | (with_reducible refine Kd.C_drew ?_))); (case side4 => exact HC146_0.out); rintro e w22 ⟨v148, rfl, ho0, hb⟩; (try clear A14); refine ⟨_, rfl, ?_⟩; have n0_ := Aside0.mk (Kd.S_elder' (by (with_reducible repeat (first | apply Kd.S_alloc | apply Kd.S_drewN | apply Kd.S_drew)); exact HO_6.out) (Kd.R_base ho0) hb); have n1_ := Aside0.mk (Kd.R_lower ho0 (below_size (by repeat (first | (with_reducible first | exact HB.out | apply b_a | apply b_n | apply b_d | refine b_s ?_ GE144.out) | exact HB.out)))); have n2_ := Aside0.mk (blk_below (g := gb144) (o := .cells #[.int .i64 a0_0, .int .i64 a0_1, .slice A0_2 l0_2.length c0_2] 30 (0, 0)) (by (with_reducible repeat (first | refine k_n ?_ _ | refine k_d ?_ | refine k_a ?_ _)); exact BK144.out) hb); have n3_ := Aside0.mk (below_step (by repeat (first | (with_reducible first | exact HB.out | apply b_a | apply b_n | apply b_d | refine b_s ?_ GE144.out) | exact HB.out)) hb); clear HO_6; clear BK144; clear HB; have HO_6 := n0_; have HO149 := n1_; have BK144 := n2_; have HB := n3_; clear n0_ n1_ n2_ n3_; (try clear hb); (try clear hb2); (try clear hk); (try clear hi); (try clear ho0)))
    go_ret2
    exact ⟨_, by first | rfl | (simp [errW_none, errW_some] <;> rfl) | (simp [*, errW_none, errW_some] <;> rfl), by first | exact Kd.S_nil _ _ _ _ _ | exact Kd.N_nil _ _ _ _ _ | exact Kd.V_nil _ _ _ _ _ | exact Kd.Q_nil _ _ _ _ _ | exact Kd.R_nil _ _ _ _ _, by repeat (first | (with_reducible first | exact HB.out | apply b_a | apply b_n | apply b_d | refine b_s ?_ GE144.out) | exact HB.out)⟩
   rw [if_pos c15] at H
   have c15b0 : (t150 == 0) = true := beq_iff_eq.mpr c15
   have c15b1 : (t150 != 0) = false := bne_eq_false_iff_eq.mpr c15
   clear c15
   by_cases c16 : x6_1.length < 5864062014805
   rotate_left
   ·
    rw [if_neg c16] at H
    exact absurd H (by simp)
   rw [if_pos c16] at H
   have LMc16 := Aside0.mk c16
   clear c16
   obtain ⟨y151, hy151⟩ : ∃ y_ : List (List Int), y_ = (x6_1 ++ [t147]) := ⟨_, rfl⟩
   replace H : (matmul_Many.l0 k1 y151 l1 (l1.length : Int) (wrap64 (x15_1 + 1)) a0_0 a0_1 l0_2) = some (r1, r2) := by first | (rw [hy151]; with_reducible exact H) | (have H2_ := (Option.bind_some _ _).symm.trans H; rw [hy151]; with_reducible exact H2_) | (have H2_ := (Option.bind_some _ _).symm.trans H; with_reducible exact H2_) | with_reducible exact H | (rw [hy151]; exact H) | exact H
   have Ny151 := Aside0.mk hy151
   clear hy151
   have H' := Aside0.mk H
   clear H
   have p146 : 0 ≤ (x15_1 : Int) := of_decide_eq_true (by first | (with_reducible assumption) | assumption)
   have q146 : x15_1 < (l1.length : Int) := of_decide_eq_true (by first | (with_reducible assumption) | assumption)
   obtain ⟨ad146, A146_0, c146_0, e146, hx146_0, hl146_0, hi146_0⟩ := at_L3 HR1.out x15_1 p146 q146
   cases e146
   replace hx146_0 := (HB.out.cell (World.block_lt_of_cell? w _ hx146_0)).trans hx146_0
   have HR146_0 := Aside0.mk hi146_0
   have HC146_0 := Aside0.mk hl146_0
   clear hi146_0 hl146_0
   replace p146 := eq_true p146
   replace q146 := eq_true q146
   have hcz17_0 : wr.cell? ⟨gb144, 0, none⟩ = some (.int .i64 a0_0) := (blk_cell BK144.out 0).trans rfl
   have hcz17_1 : wr.cell? ⟨gb144, 1, none⟩ = some (.int .i64 a0_1) := (blk_cell BK144.out 1).trans rfl
   have hcz17_2 : wr.cell? ⟨gb144, 2, none⟩ = some (.slice A0_2 l0_2.length c0_2) := (blk_cell BK144.out 2).trans rfl
   have hfz17_0 := blk_frozen BK144.out 0
   have hfz17_1 := blk_frozen BK144.out 1
   have hfz17_2 := blk_frozen BK144.out 2
   go_wp2_with (first | ((with_reducible refine gate_callee (f := 14) rfl ?_); refine goesL_ (some 22) rfl rfl Try.func14 (by kernel_rfl) rfl #[.agg #[.int .i64 a0_0, .int .i64 a0_1, .slice A0_2 l0_2.length c0_2], .slice A146_0 (rd_L3 l1 x15_1).length c146_0] rfl (by (try simp only [l_4, l_5, l_6]); first | done | rfl | (simp only [l_7, l_8]; rfl)) ?_; (with_reducible refine (matmul_Apply.calls k1 a0_0 a0_1 _ _ l0_2 _ _ (rd_L3 l1 x15_1) t147 t150 _ ?side1 ?side2 ?side3 ?side4 A14.out).mono ?_); (case side1 => repeat (first | exact (Kd.C_below HR0_2.out HB.out) | (with_reducible refine Kd.C_alloc ?_ _) | (with_reducible refine Kd.C_drewN ?_ _) | (with_reducible refine Kd.C_drew ?_))); (case side2 => exact HC0_2.out); (case side3 => repeat (first | exact (Kd.C_below HR146_0.out HB.out) | (with_reducible refine Kd.C_alloc ?_ _) | (with_reducible refine Kd.C_drewN ?_ _) | (with_reducible refine Kd.C_drew ?_))); (case side4 => exact HC146_0.out); rintro e w18 ⟨v148, rfl, ho0, hb⟩; (try clear A14); refine ⟨_, rfl, ?_⟩; have n0_ := Aside0.mk (Kd.S_elder' (by (with_reducible repeat (first | apply Kd.S_alloc | apply Kd.S_drewN | apply Kd.S_drew)); exact HO_6.out) (Kd.R_base ho0) hb); have n1_ := Aside0.mk (Kd.R_lower ho0 (below_size (by repeat (first | (with_reducible first | exact HB.out | apply b_a | apply b_n | apply b_d | refine b_s ?_ GE144.out) | exact HB.out)))); have n2_ := Aside0.mk (blk_below (g := gb144) (o := .cells #[.int .i64 a0_0, .int .i64 a0_1, .slice A0_2 l0_2.length c0_2] 30 (0, 0)) (by (with_reducible repeat (first | refine k_n ?_ _ | refine k_d ?_ | refine k_a ?_ _)); exact BK144.out) hb); have n3_ := Aside0.mk (below_step (by repeat (first | (with_reducible first | exact HB.out | apply b_a | apply b_n | apply b_d | refine b_s ?_ GE144.out) | exact HB.out)) hb); clear HO_6; clear BK144; clear HB; have HO_6 := n0_; have HO149 := n1_; have BK144 := n2_; have HB := n3_; clear n0_ n1_ n2_ n3_; (try clear hb); (try clear hb2); (try clear hk); (try clear hi); (try clear ho0); obtain ⟨Ao20, co20, eo20⟩ := Kd.R_slice HO149.out; subst eo20) | ((with_reducible refine gate_builtin (b := .append) (xs := #[.tmp 28, .tmp 30]) rfl ?_); at_builtin; refine Kd.S_append (Kd.slice 21 (Kd.int .i32)) (w0 := w) w.heap.size rfl (.tmp 28) (.tmp 30) 38 32 (.slice none 0 0) 24 rfl Try.underlying38 info32 rfl (by decide) (by omega) u6 x6_1 t147 [.slice Ao20 t147.length co20] (fun _ => True) (fun k_ => some k_ = (.slice Ao20 t147.length co20 : Value).ownBlock) rfl rfl ?aP (fun k_ hk_ => ((Kd.R_mono (ok' := fun k_ => ((fun _ => True)) k_ ∧ some k_ ≠ (u6 : Value).ownBlock) (Kd.R_apart' (HO149.out) (Kd.S_typed HO_6.out) (by decide)) (fun k_ hk => ⟨trivial, hk.2⟩))).1 k_ hk_.symm) ?aF ?aO ?aB ?aS ?aL ?_; (case aP => exact Kd.M_row (Kd.R_mono (Kd.R_tight rfl (Kd.R_mono (ok' := fun k_ => ((fun _ => True)) k_ ∧ some k_ ≠ (u6 : Value).ownBlock) (Kd.R_apart' (HO149.out) (Kd.S_typed HO_6.out) (by decide)) (fun k_ hk => ⟨trivial, hk.2⟩))) (fun _ h_ => h_))); (case aB => exact (by repeat (first | (with_reducible first | exact HB.out | apply b_a | apply b_n | apply b_d | refine b_s ?_ GE144.out) | exact HB.out))); (case aF => exact (fun _ _ => trivial)); (case aO => exact (by (with_reducible repeat (first | apply Kd.S_alloc | apply Kd.S_drewN | apply Kd.S_drew)); exact Kd.S_mono HO_6.out (fun k_ hk => ⟨trivial, fun e_ => hk.2 e_⟩))); (case aS => exact (below_size (by repeat (first | (with_reducible first | exact HB.out | apply b_a | apply b_n | apply b_d | refine b_s ?_ GE144.out) | exact HB.out)))); (case aL => have := LMc16.out; omega); intro v152 w19 ho hb hg hat; rw [← Ny151.out] at ho; have n0_ := Aside0.mk (blk_grown (g := gb144) (o := .cells #[.int .i64 a0_0, .int .i64 a0_1, .slice A0_2 l0_2.length c0_2] 30 (0, 0)) (by (with_reducible repeat (first | refine k_n ?_ _ | refine k_d ?_ | refine k_a ?_ _)); exact BK144.out) hg (Kd.S_ne HO_6.out BK144.out (by decide))); have n1_ := Aside0.mk (hb); have n2_ := Aside0.mk (ho); clear BK144; clear HB; clear HO_6; clear HO149; have BK144 := n0_; have HB := n1_; have HO153 := n2_; clear n0_ n1_ n2_; clear ho hb hg hat))
   go_roundg k1
   case measure => have := HK1.out; omega
   case rel => exact ⟨(y151), (wrap64 (x15_1 + 1)), (by first | rfl | (simp; done) | (simp [*]; done)), H', ⟨by have := HK1.out; omega⟩, ⟨by (with_reducible repeat (first | apply Kd.S_alloc | apply Kd.S_drewN | apply Kd.S_drew)); exact HO153.out⟩, ⟨by (with_reducible repeat (first | refine k_n ?_ _ | refine k_d ?_ | refine k_a ?_ _)); exact BK144.out⟩, ⟨by repeat (first | (with_reducible first | exact HB.out | apply b_a | apply b_n | apply b_d | refine b_s ?_ GE144.out) | exact HB.out)⟩⟩
/-! ### pelotonref01_Mod: function 42 -/
def pelotonref01_Mod.f (a0 : Int) : Option (Int) := if (Int.tmod a0 4294967296) < 0 then (if (wrap64 ((Int.tmod a0 4294967296) + 4294967296)) ≥ 2147483648 then (some (wrap32 (wrap64 ((wrap64 ((Int.tmod a0 4294967296) + 4294967296)) - 4294967296)))) else (some (wrap32 (wrap64 ((Int.tmod a0 4294967296) + 4294967296))))) else (if (Int.tmod a0 4294967296) ≥ 2147483648 then (some (wrap32 (wrap64 ((Int.tmod a0 4294967296) - 4294967296)))) else (some (wrap32 (Int.tmod a0 4294967296))))
set_option maxHeartbeats 60000000 in
set_option maxRecDepth 100000 in
theorem pelotonref01_Mod.calls (a0 : Int) (r : Int) (w : World) (h : pelotonref01_Mod.f a0 = some r) :
  Calls Try.prog 42 #[.int .i64 a0] w fun e w' => e = .returned (.int .i32 r) ∧ Drawn0 w w' := by
 have H : (if (Int.tmod a0 4294967296) < 0 then (if (wrap64 ((Int.tmod a0 4294967296) + 4294967296)) ≥ 2147483648 then (some (wrap32 (wrap64 ((wrap64 ((Int.tmod a0 4294967296) + 4294967296)) - 4294967296)))) else (some (wrap32 (wrap64 ((Int.tmod a0 4294967296) + 4294967296))))) else (if (Int.tmod a0 4294967296) ≥ 2147483648 then (some (wrap32 (wrap64 ((Int.tmod a0 4294967296) - 4294967296)))) else (some (wrap32 (Int.tmod a0 4294967296))))) = some r := h
 clear h
 by_cases c2 : (Int.tmod a0 4294967296) < 0
 rotate_left
 ·
  rw [if_neg c2] at H
  have c2b0 : decide ((Int.tmod a0 4294967296) < 0) = false := decide_eq_false c2
  clear c2
  by_cases c4 : (Int.tmod a0 4294967296) ≥ 2147483648
  ·
   rw [if_pos c4] at H
   have c4b0 : decide (2147483648 ≤ (Int.tmod a0 4294967296)) = true := decide_eq_true c4
   clear c4
   obtain rfl := Option.some.inj H
   go_enter Try.func42, Try.ntmps42
   go_wp2
   go_ret
   exact ⟨by first | rfl | (simp; done) | (simp [*]; done), by repeat (first | exact Drawn0.refl _ | apply Drawn0.step)⟩
  rw [if_neg c4] at H
  have c4b0 : decide (2147483648 ≤ (Int.tmod a0 4294967296)) = false := decide_eq_false c4
  clear c4
  obtain rfl := Option.some.inj H
  go_enter Try.func42, Try.ntmps42
  go_wp2
  go_ret
  exact ⟨by first | rfl | (simp; done) | (simp [*]; done), by repeat (first | exact Drawn0.refl _ | apply Drawn0.step)⟩

 rw [if_pos c2] at H
 have c2b0 : decide ((Int.tmod a0 4294967296) < 0) = true := decide_eq_true c2
 clear c2
 by_cases c3 : (wrap64 ((Int.tmod a0 4294967296) + 4294967296)) ≥ 2147483648
 ·
  rw [if_pos c3] at H
  have c3b0 : decide (2147483648 ≤ (wrap64 ((Int.tmod a0 4294967296) + 4294967296))) = true := decide_eq_true c3
  clear c3
  obtain rfl := Option.some.inj H
  go_enter Try.func42, Try.ntmps42
  go_wp2
  go_ret
  exact ⟨by first | rfl | (simp; done) | (simp [*]; done), by repeat (first | exact Drawn0.refl _ | apply Drawn0.step)⟩
 rw [if_neg c3] at H
 have c3b0 : decide (2147483648 ≤ (wrap64 ((Int.tmod a0 4294967296) + 4294967296))) = false := decide_eq_false c3
 clear c3
 obtain rfl := Option.some.inj H
 go_enter Try.func42, Try.ntmps42
 go_wp2
 go_ret
 exact ⟨by first | rfl | (simp; done) | (simp [*]; done), by repeat (first | exact Drawn0.refl _ | apply Drawn0.step)⟩
/-! ### pelotonref01_Wrap: function 31 -/
def pelotonref01_Wrap.l0 : Nat → List Int → Int → Int → Option (Int)
 | 0, _, _, _ => none
 | k + 1, x0, x3, x4 => if x4 < (x0.length : Int) then (if 0 ≤ x4 then ((pelotonref01_Mod.f (rd x0 x4)).bind fun t155 => ((pelotonref01_Mod.f (wrap64 (x3 + (wrap64 (t155))))).bind fun t156 => (pelotonref01_Wrap.l0 k x0 (wrap64 (t156)) (wrap64 (x4 + 1))))) else (none)) else (some (wrap32 (x3)))
def pelotonref01_Wrap.f (k : Nat) (l0 : List Int) : Option (Int) := pelotonref01_Wrap.l0 k l0 0 0
theorem pelotonref01_Wrap.mono_l : ∀ k, (∀ y0 y1 y2, LeO (pelotonref01_Wrap.l0 k y0 y1 y2) (pelotonref01_Wrap.l0 (k + 1) y0 y1 y2))
 | 0 => fun _ _ _ r h => by simp [pelotonref01_Wrap.l0] at h
 | k + 1 => by
  have ih0 := pelotonref01_Wrap.mono_l k
  ·
   intro y0 y1 y2
   unfold pelotonref01_Wrap.l0
   repeat' first
   | (with_reducible exact ih0 _ _ _)
   | (with_reducible exact LeO.refl _)
   | (with_reducible exact LeO.none _)
   | (with_reducible refine LeO.ite ?_ ?_)
   | (with_reducible refine LeO.bind ?_ (fun _ => ?_))
   | exact ih0 _ _ _
   | exact LeO.none _
   | refine LeO.ite ?_ ?_
   | refine LeO.bind ?_ (fun _ => ?_)
theorem pelotonref01_Wrap.mono : ∀ a0 k, LeO (pelotonref01_Wrap.f k a0) (pelotonref01_Wrap.f (k + 1) a0) := by
 intro a0 k
 have ih0 := pelotonref01_Wrap.mono_l k
 unfold pelotonref01_Wrap.f
 repeat' first
   | (with_reducible exact ih0 _ _ _)
   | (with_reducible exact LeO.refl _)
   | (with_reducible exact LeO.none _)
   | (with_reducible refine LeO.ite ?_ ?_)
   | (with_reducible refine LeO.bind ?_ (fun _ => ?_))
   | exact ih0 _ _ _
   | exact LeO.none _
   | refine LeO.ite ?_ ?_
   | refine LeO.bind ?_ (fun _ => ?_)
set_option maxHeartbeats 60000000 in
set_option maxRecDepth 100000 in
theorem pelotonref01_Wrap.calls (k : Nat) (A0 : Option Addr) (c0 : Nat) (l0 : List Int) (r : Int) (w : World) (hr0 : Kd.C (Kd.int .i64) w A0 l0.length l0) (hc0 : l0.length ≤ c0) (h : pelotonref01_Wrap.f k l0 = some r) :
  Calls Try.prog 31 #[.slice A0 l0.length c0] w fun e w' => e = .returned (.int .i32 r) ∧ Drawn0 w w' := by
 have HR0 := Aside0.mk hr0
 have HC0 := Aside0.mk hc0
 clear hr0 hc0
 have H : (pelotonref01_Wrap.l0 k l0 0 0) = some r := h
 clear h
 have H' := Aside0.mk H
 clear H
 go_enter Try.func31, Try.ntmps31
 go_wp2
 go_loopg [3, 4] k (fun kq v3 v4 w' => ∃ (x3_1 : Int) (x4_1 : Int), v3 = .int .i64 x3_1 ∧ v4 = .int .i64 x4_1 ∧ Aside0 (pelotonref01_Wrap.l0 kq l0 x3_1 x4_1 = some r) ∧ Aside0 (kq ≤ k) ∧ Drawn0 w w')
 case atStart => exact ⟨(0), (0), (by first | rfl | (simp; done) | (simp [*]; done)), (by first | rfl | (simp; done) | (simp [*]; done)), H', ⟨Nat.le_refl _⟩, by repeat (first | exact Drawn0.refl _ | apply Drawn0.step)⟩
 case round =>
  clear H'
  obtain ⟨x3_1, x4_1, rfl, rfl, HA, HK1, ⟨m1, rfl⟩⟩ := hrel
  cases gk with
  | zero => exact absurd HA.out (by simp [pelotonref01_Wrap.l0])
  | succ k1 =>
   have H := HA.out
   clear HA
   simp only [pelotonref01_Wrap.l0] at H
   by_cases c2 : x4_1 < (l0.length : Int)
   rotate_left
   ·
    rw [if_neg c2] at H
    have c2b0 : decide (x4_1 < (l0.length : Int)) = false := decide_eq_false c2
    clear c2
    obtain rfl := Option.some.inj H
    go_wp2
    go_ret
    exact ⟨by first | rfl | (simp; done) | (simp [*]; done), by repeat (first | exact Drawn0.refl _ | apply Drawn0.step)⟩

   rw [if_pos c2] at H
   have c2b0 : decide (x4_1 < (l0.length : Int)) = true := decide_eq_true c2
   clear c2
   by_cases c3 : 0 ≤ x4_1
   rotate_left
   ·
    rw [if_neg c3] at H
    exact absurd H (by simp)
   rw [if_pos c3] at H
   have c3b0 : decide (0 ≤ x4_1) = true := decide_eq_true c3
   clear c3
   replace H := Option.bind_eq_some_iff.mp H
   obtain ⟨t155, A40, H⟩ := H
   replace H : ((pelotonref01_Mod.f (wrap64 (x3_1 + (wrap64 (t155))))).bind fun t156 => (pelotonref01_Wrap.l0 k1 l0 (wrap64 (t156)) (wrap64 (x4_1 + 1)))) = some r := H
   have A4 := Aside0.mk A40
   clear A40
   replace H := Option.bind_eq_some_iff.mp H
   obtain ⟨t156, A50, H⟩ := H
   replace H : (pelotonref01_Wrap.l0 k1 l0 (wrap64 (t156)) (wrap64 (x4_1 + 1))) = some r := H
   have A5 := Aside0.mk A50
   clear A50
   have H' := Aside0.mk H
   clear H
   have p154 : 0 ≤ (x4_1 : Int) := of_decide_eq_true (by first | (with_reducible assumption) | assumption)
   have q154 : x4_1 < (l0.length : Int) := of_decide_eq_true (by first | (with_reducible assumption) | assumption)
   obtain ⟨ad154, e154, hx154_0⟩ := Kd.at_int HR0.out x4_1 p154 q154
   cases e154
   replace p154 := eq_true p154
   replace q154 := eq_true q154
   go_wp2_with (first | ((with_reducible refine gate_callee (f := 42) rfl ?_); refine goesL_ (some 16) rfl rfl Try.func42 (by kernel_rfl) rfl #[.int .i64 (rd l0 x4_1)] rfl (by (try simp only [l_4, l_5, l_6]); first | done | rfl | (simp only [l_7, l_8]; rfl)) ?_; (with_reducible refine (pelotonref01_Mod.calls (rd l0 x4_1) t155 _ A4.out).mono ?_); rintro e w' ⟨rfl, ⟨nd, rfl⟩⟩; refine ⟨_, rfl, ?_⟩) | ((with_reducible refine gate_callee (f := 42) rfl ?_); refine goesL_ (some 19) rfl rfl Try.func42 (by kernel_rfl) rfl #[.int .i64 (wrap64 (x3_1 + (wrap64 (t155))))] rfl (by (try simp only [l_4, l_5, l_6]); first | done | rfl | (simp only [l_7, l_8]; rfl)) ?_; (with_reducible refine (pelotonref01_Mod.calls (wrap64 (x3_1 + (wrap64 (t155)))) t156 _ A5.out).mono ?_); rintro e w' ⟨rfl, ⟨nd, rfl⟩⟩; refine ⟨_, rfl, ?_⟩))
   go_roundg k1
   case measure => have := HK1.out; omega
   case rel => exact ⟨(wrap64 (t156)), (wrap64 (x4_1 + 1)), (by first | rfl | (simp; done) | (simp [*]; done)), (by first | rfl | (simp; done) | (simp [*]; done)), H', ⟨by have := HK1.out; omega⟩, by repeat (first | exact Drawn0.refl _ | apply Drawn0.step)⟩
end Go.Proofs.Ytananmepljeldaa.QMatmulApplies
