-- Written by a program of this session (a turned copy of the print) out of the translation. Lean checks it.
import Derived.Test.YtananmepljeldaaQMatmulAppliesx0
import Derived.Test.YtananmepljeldaaQMatmulAppliesx1
import Derived.Test.YtananmepljeldaaQMatmulAppliesx2
import Derived.Test.YtananmepljeldaaQMatmulAppliesx3
import Derived.Test.YtananmepljeldaaQMatmulAppliesx4
namespace Go.Proofs.Ytananmepljeldaa.QMatmulApplies
open Go.RowKit Go.Proofs.YtananmepljeldaaW.PrintWords Go.Proofs.YtananmepljeldaaW.PrintLast Go.Proofs.YtananmepljeldaaW.PrintMore
attribute [local go_sem] max2_int min2_int max_two min_two max_three min_three max_four min_four   -- for this text's walks alone
open Go.Proofs.YtananmepljeldaaW.PrintWords renaming below_alloc → b_a, pw_below_drewN → b_n, below_drew1 → b_d, below_set → b_s, blk_drewN → k_n, blk_drew → k_d, blk_alloc → k_a
open List renaming setIfInBounds_toArray → l_1, set_cons_zero → l_2, set_cons_succ → l_3, map_toArray → l_4, map_cons → l_5, map_nil → l_6, length_drop → l_7, length_take → l_8
set_option linter.unusedVariables false
set_option linter.unusedSimpArgs false

/-! ### pelotonlaw04_MatmulApplies: function 5 -/
mutual
def pelotonlaw04_MatmulApplies.j0 : Nat → List Int → List Int → Bool → Int → Int → List Int → Option (Bool)
 | 0, _, _, _, _, _, _ => none
 | k + 1, x1, x2, x32, x177000, x177001, x177002 => if x32 = true then ((pelotonlaw04_awake.f k).bind fun t179 => (some t179)) else ((some (([] : List Int) : List Int)).bind fun y180 => (if y180.length + x177002.length < 140737488355328 then ((some (y180 ++ x177002 : List Int)).bind fun y183 => ((matmul_Apply.f k x177000 x177001 y183 x1).bind fun bt187 => ((matmul_Many.f k x177000 x177001 y183 (([x1, x2] : List (List Int)))).bind fun bt194 => ((pelotonref04_Apply.f k x177000 x177001 x177002 x1).bind fun bt198 => ((pelotonref04_Apply.f k x177000 x177001 x177002 x2).bind fun bt202 => ((pelotonref04_Same.f k x177000 x177001 y183 x177000 x177001 x177002).bind fun t206 => (if t206 = true then ((matmul_Right.f k (([(⟨x177000, x177001, x177002⟩ : S30)] : List (S30)))).bind fun t210 => ((pelotonref04_Right.f x177000 x177001 x177002).bind fun t211 => (if (t210 != t211) = true then (pelotonlaw04_MatmulApplies.j1 k bt187.1 bt187.2 bt194.1 bt194.2 bt198.1 bt198.2 bt202.1 bt202.2 true) else ((matmul_Right.f k ([] : List (S30))).bind fun t212 => (pelotonlaw04_MatmulApplies.j1 k bt187.1 bt187.2 bt194.1 bt194.2 bt198.1 bt198.2 bt202.1 bt202.2 (!t212)))))) else (pelotonlaw04_MatmulApplies.j1 k bt187.1 bt187.2 bt194.1 bt194.2 bt198.1 bt198.2 bt202.1 bt202.2 true)))))))) else (none)))
def pelotonlaw04_MatmulApplies.j1 : Nat → List Int → Int → List (List Int) → Int → List Int → Bool → List Int → Bool → Bool → Option (Bool)
 | 0, _, _, _, _, _, _, _, _, _ => none
 | k + 1, x8, x9, x10, x11, x12, x13, x14, x15, x84 => if x84 = true then (some false) else (if (x13 != (x9 == 0)) = true then (pelotonlaw04_MatmulApplies.j2 k x10 x11 x12 x13 x14 x15 true) else (if x13 = true then ((pelotonref04_Ints.f k x8 x12).bind fun t213 => (pelotonlaw04_MatmulApplies.j2 k x10 x11 x12 x13 x14 x15 (!t213))) else (if x9 = 30 then (if (x8.length : Int) = 0 then (pelotonlaw04_MatmulApplies.j2 k x10 x11 x12 x13 x14 x15 false) else (pelotonlaw04_MatmulApplies.j2 k x10 x11 x12 x13 x14 x15 true)) else (pelotonlaw04_MatmulApplies.j2 k x10 x11 x12 x13 x14 x15 true))))
def pelotonlaw04_MatmulApplies.j2 : Nat → List (List Int) → Int → List Int → Bool → List Int → Bool → Bool → Option (Bool)
 | 0, _, _, _, _, _, _, _ => none
 | k + 1, x10, x11, x12, x13, x14, x15, x110 => if x110 = true then (some false) else (if x13 = true then (pelotonlaw04_MatmulApplies.j3 k x10 x11 x12 x14 (!x15)) else (pelotonlaw04_MatmulApplies.j3 k x10 x11 x12 x14 true))
def pelotonlaw04_MatmulApplies.j3 : Nat → List (List Int) → Int → List Int → List Int → Bool → Option (Bool)
 | 0, _, _, _, _, _ => none
 | k + 1, x10, x11, x12, x14, x116 => if x116 = true then (if x11 = 30 then (some ((x10.length : Int) == 0)) else (some false)) else (if x11 = 0 then (if (x10.length : Int) = 2 then (if 0 < (x10.length : Int) then ((pelotonref04_Ints.f k (rd_L4 x10 0) x12).bind fun t215 => (if t215 = true then (if 1 < (x10.length : Int) then ((pelotonref04_Ints.f k (rd_L4 x10 1) x14).bind fun t217 => (some t217)) else (none)) else (some false))) else (none)) else (some false)) else (some false))
end
def pelotonlaw04_MatmulApplies.f (k : Nat) (a0_0 : Int) (a0_1 : Int) (l0_2 : List Int) (l1 : List Int) (l2 : List Int) : Option (Bool) := (pelotonlaw04_awake.f k).bind fun t177 => (if t177 = true then ((pelotonlaw04_small.f a0_0 a0_1 l0_2).bind fun t178 => (if t178 = true then (if (l1.length : Int) > 300 then (pelotonlaw04_MatmulApplies.j0 k l1 l2 true a0_0 a0_1 l0_2) else (pelotonlaw04_MatmulApplies.j0 k l1 l2 (decide ((l2.length : Int) > 300)) a0_0 a0_1 l0_2)) else (pelotonlaw04_MatmulApplies.j0 k l1 l2 true a0_0 a0_1 l0_2))) else (pelotonlaw04_MatmulApplies.j0 k l1 l2 true a0_0 a0_1 l0_2))
theorem pelotonlaw04_MatmulApplies.mono_l : ∀ k, (∀ y0 y1 y2 y3 y4 y5, LeO (pelotonlaw04_MatmulApplies.j0 k y0 y1 y2 y3 y4 y5) (pelotonlaw04_MatmulApplies.j0 (k + 1) y0 y1 y2 y3 y4 y5)) ∧ (∀ y0 y1 y2 y3 y4 y5 y6 y7 y8, LeO (pelotonlaw04_MatmulApplies.j1 k y0 y1 y2 y3 y4 y5 y6 y7 y8) (pelotonlaw04_MatmulApplies.j1 (k + 1) y0 y1 y2 y3 y4 y5 y6 y7 y8)) ∧ (∀ y0 y1 y2 y3 y4 y5 y6, LeO (pelotonlaw04_MatmulApplies.j2 k y0 y1 y2 y3 y4 y5 y6) (pelotonlaw04_MatmulApplies.j2 (k + 1) y0 y1 y2 y3 y4 y5 y6)) ∧ (∀ y0 y1 y2 y3 y4, LeO (pelotonlaw04_MatmulApplies.j3 k y0 y1 y2 y3 y4) (pelotonlaw04_MatmulApplies.j3 (k + 1) y0 y1 y2 y3 y4))
 | 0 => ⟨fun _ _ _ _ _ _ r h => by simp [pelotonlaw04_MatmulApplies.j0] at h, fun _ _ _ _ _ _ _ _ _ r h => by simp [pelotonlaw04_MatmulApplies.j1] at h, fun _ _ _ _ _ _ _ r h => by simp [pelotonlaw04_MatmulApplies.j2] at h, fun _ _ _ _ _ r h => by simp [pelotonlaw04_MatmulApplies.j3] at h⟩
 | k + 1 => by
  obtain ⟨ih0, ih1, ih2, ih3⟩ := pelotonlaw04_MatmulApplies.mono_l k
  refine ⟨?_, ?_, ?_, ?_⟩
  ·
   intro y0 y1 y2 y3 y4 y5
   unfold pelotonlaw04_MatmulApplies.j0
   repeat' first
   | (with_reducible exact ih0 _ _ _ _ _ _)
   | (with_reducible exact ih1 _ _ _ _ _ _ _ _ _)
   | (with_reducible exact ih2 _ _ _ _ _ _ _)
   | (with_reducible exact ih3 _ _ _ _ _)
   | (with_reducible exact matmul_Apply.mono _ _ _ _ _)
   | (with_reducible exact matmul_Many.mono _ _ _ _ _)
   | (with_reducible exact matmul_Right.mono _ _)
   | (with_reducible exact pelotonlaw04_awake.mono _)
   | (with_reducible exact pelotonref04_Apply.mono _ _ _ _ _)
   | (with_reducible exact pelotonref04_Ints.mono _ _ _)
   | (with_reducible exact pelotonref04_Same.mono _ _ _ _ _ _ _)
   | (with_reducible exact LeO.refl _)
   | (with_reducible exact LeO.none _)
   | (with_reducible refine LeO.ite ?_ ?_)
   | (with_reducible refine LeO.bind ?_ (fun _ => ?_))
   | exact ih0 _ _ _ _ _ _
   | exact ih1 _ _ _ _ _ _ _ _ _
   | exact ih2 _ _ _ _ _ _ _
   | exact ih3 _ _ _ _ _
   | exact matmul_Apply.mono _ _ _ _ _
   | exact matmul_Many.mono _ _ _ _ _
   | exact matmul_Right.mono _ _
   | exact pelotonlaw04_awake.mono _
   | exact pelotonref04_Apply.mono _ _ _ _ _
   | exact pelotonref04_Ints.mono _ _ _
   | exact pelotonref04_Same.mono _ _ _ _ _ _ _
   | exact LeO.none _
   | refine LeO.ite ?_ ?_
   | refine LeO.bind ?_ (fun _ => ?_)
  ·
   intro y0 y1 y2 y3 y4 y5 y6 y7 y8
   unfold pelotonlaw04_MatmulApplies.j1
   repeat' first
   | (with_reducible exact ih0 _ _ _ _ _ _)
   | (with_reducible exact ih1 _ _ _ _ _ _ _ _ _)
   | (with_reducible exact ih2 _ _ _ _ _ _ _)
   | (with_reducible exact ih3 _ _ _ _ _)
   | (with_reducible exact matmul_Apply.mono _ _ _ _ _)
   | (with_reducible exact matmul_Many.mono _ _ _ _ _)
   | (with_reducible exact matmul_Right.mono _ _)
   | (with_reducible exact pelotonlaw04_awake.mono _)
   | (with_reducible exact pelotonref04_Apply.mono _ _ _ _ _)
   | (with_reducible exact pelotonref04_Ints.mono _ _ _)
   | (with_reducible exact pelotonref04_Same.mono _ _ _ _ _ _ _)
   | (with_reducible exact LeO.refl _)
   | (with_reducible exact LeO.none _)
   | (with_reducible refine LeO.ite ?_ ?_)
   | (with_reducible refine LeO.bind ?_ (fun _ => ?_))
   | exact ih0 _ _ _ _ _ _
   | exact ih1 _ _ _ _ _ _ _ _ _
   | exact ih2 _ _ _ _ _ _ _
   | exact ih3 _ _ _ _ _
   | exact matmul_Apply.mono _ _ _ _ _
   | exact matmul_Many.mono _ _ _ _ _
   | exact matmul_Right.mono _ _
   | exact pelotonlaw04_awake.mono _
   | exact pelotonref04_Apply.mono _ _ _ _ _
   | exact pelotonref04_Ints.mono _ _ _
   | exact pelotonref04_Same.mono _ _ _ _ _ _ _
   | exact LeO.none _
   | refine LeO.ite ?_ ?_
   | refine LeO.bind ?_ (fun _ => ?_)
  ·
   intro y0 y1 y2 y3 y4 y5 y6
   unfold pelotonlaw04_MatmulApplies.j2
   repeat' first
   | (with_reducible exact ih0 _ _ _ _ _ _)
   | (with_reducible exact ih1 _ _ _ _ _ _ _ _ _)
   | (with_reducible exact ih2 _ _ _ _ _ _ _)
   | (with_reducible exact ih3 _ _ _ _ _)
   | (with_reducible exact matmul_Apply.mono _ _ _ _ _)
   | (with_reducible exact matmul_Many.mono _ _ _ _ _)
   | (with_reducible exact matmul_Right.mono _ _)
   | (with_reducible exact pelotonlaw04_awake.mono _)
   | (with_reducible exact pelotonref04_Apply.mono _ _ _ _ _)
   | (with_reducible exact pelotonref04_Ints.mono _ _ _)
   | (with_reducible exact pelotonref04_Same.mono _ _ _ _ _ _ _)
   | (with_reducible exact LeO.refl _)
   | (with_reducible exact LeO.none _)
   | (with_reducible refine LeO.ite ?_ ?_)
   | (with_reducible refine LeO.bind ?_ (fun _ => ?_))
   | exact ih0 _ _ _ _ _ _
   | exact ih1 _ _ _ _ _ _ _ _ _
   | exact ih2 _ _ _ _ _ _ _
   | exact ih3 _ _ _ _ _
   | exact matmul_Apply.mono _ _ _ _ _
   | exact matmul_Many.mono _ _ _ _ _
   | exact matmul_Right.mono _ _
   | exact pelotonlaw04_awake.mono _
   | exact pelotonref04_Apply.mono _ _ _ _ _
   | exact pelotonref04_Ints.mono _ _ _
   | exact pelotonref04_Same.mono _ _ _ _ _ _ _
   | exact LeO.none _
   | refine LeO.ite ?_ ?_
   | refine LeO.bind ?_ (fun _ => ?_)
  ·
   intro y0 y1 y2 y3 y4
   unfold pelotonlaw04_MatmulApplies.j3
   repeat' first
   | (with_reducible exact ih0 _ _ _ _ _ _)
   | (with_reducible exact ih1 _ _ _ _ _ _ _ _ _)
   | (with_reducible exact ih2 _ _ _ _ _ _ _)
   | (with_reducible exact ih3 _ _ _ _ _)
   | (with_reducible exact matmul_Apply.mono _ _ _ _ _)
   | (with_reducible exact matmul_Many.mono _ _ _ _ _)
   | (with_reducible exact matmul_Right.mono _ _)
   | (with_reducible exact pelotonlaw04_awake.mono _)
   | (with_reducible exact pelotonref04_Apply.mono _ _ _ _ _)
   | (with_reducible exact pelotonref04_Ints.mono _ _ _)
   | (with_reducible exact pelotonref04_Same.mono _ _ _ _ _ _ _)
   | (with_reducible exact LeO.refl _)
   | (with_reducible exact LeO.none _)
   | (with_reducible refine LeO.ite ?_ ?_)
   | (with_reducible refine LeO.bind ?_ (fun _ => ?_))
   | exact ih0 _ _ _ _ _ _
   | exact ih1 _ _ _ _ _ _ _ _ _
   | exact ih2 _ _ _ _ _ _ _
   | exact ih3 _ _ _ _ _
   | exact matmul_Apply.mono _ _ _ _ _
   | exact matmul_Many.mono _ _ _ _ _
   | exact matmul_Right.mono _ _
   | exact pelotonlaw04_awake.mono _
   | exact pelotonref04_Apply.mono _ _ _ _ _
   | exact pelotonref04_Ints.mono _ _ _
   | exact pelotonref04_Same.mono _ _ _ _ _ _ _
   | exact LeO.none _
   | refine LeO.ite ?_ ?_
   | refine LeO.bind ?_ (fun _ => ?_)
theorem pelotonlaw04_MatmulApplies.mono : ∀ a0 a1 a2 a3 a4 k, LeO (pelotonlaw04_MatmulApplies.f k a0 a1 a2 a3 a4) (pelotonlaw04_MatmulApplies.f (k + 1) a0 a1 a2 a3 a4) := by
 intro a0 a1 a2 a3 a4 k
 obtain ⟨ih0, ih1, ih2, ih3⟩ := pelotonlaw04_MatmulApplies.mono_l k
 unfold pelotonlaw04_MatmulApplies.f
 repeat' first
   | (with_reducible exact ih0 _ _ _ _ _ _)
   | (with_reducible exact ih1 _ _ _ _ _ _ _ _ _)
   | (with_reducible exact ih2 _ _ _ _ _ _ _)
   | (with_reducible exact ih3 _ _ _ _ _)
   | (with_reducible exact matmul_Apply.mono _ _ _ _ _)
   | (with_reducible exact matmul_Many.mono _ _ _ _ _)
   | (with_reducible exact matmul_Right.mono _ _)
   | (with_reducible exact pelotonlaw04_awake.mono _)
   | (with_reducible exact pelotonref04_Apply.mono _ _ _ _ _)
   | (with_reducible exact pelotonref04_Ints.mono _ _ _)
   | (with_reducible exact pelotonref04_Same.mono _ _ _ _ _ _ _)
   | (with_reducible exact LeO.refl _)
   | (with_reducible exact LeO.none _)
   | (with_reducible refine LeO.ite ?_ ?_)
   | (with_reducible refine LeO.bind ?_ (fun _ => ?_))
   | exact ih0 _ _ _ _ _ _
   | exact ih1 _ _ _ _ _ _ _ _ _
   | exact ih2 _ _ _ _ _ _ _
   | exact ih3 _ _ _ _ _
   | exact matmul_Apply.mono _ _ _ _ _
   | exact matmul_Many.mono _ _ _ _ _
   | exact matmul_Right.mono _ _
   | exact pelotonlaw04_awake.mono _
   | exact pelotonref04_Apply.mono _ _ _ _ _
   | exact pelotonref04_Ints.mono _ _ _
   | exact pelotonref04_Same.mono _ _ _ _ _ _ _
   | exact LeO.none _
   | refine LeO.ite ?_ ?_
   | refine LeO.bind ?_ (fun _ => ?_)
def pelotonlaw04_MatmulApplies.T3 : Bool × List (List Nat × List Nat) := (true, [([], []), ([0], [0]), ([], []), ([2], [2]), ([], []), ([], []), ([5], [5]), ([4, 6], [4, 6]), ([1, 3, 7], [1, 3, 7]), ([], []), ([9, 8, 7, 0, 1, 2, 3, 4, 5, 6, 7, 8, 9], [8, 9])])
def pelotonlaw04_MatmulApplies.B3 : List Nat := [0, 1, 0, 4, 0, 0, 32, 112, 255, 0, 1023]
theorem pelotonlaw04_MatmulApplies.tab3 : rtab .any (opsOf Try.f5 3) = pelotonlaw04_MatmulApplies.T3 := by kernel_rfl
theorem pelotonlaw04_MatmulApplies.bits3 : waitsOk pelotonlaw04_MatmulApplies.T3.2 pelotonlaw04_MatmulApplies.B3 = true := by kernel_rfl
def pelotonlaw04_MatmulApplies.T8 : Bool × List (List Nat × List Nat) := (true, [([], []), ([], []), ([0, 1], [0, 1]), ([2], [2]), ([3, 2], [3]), ([4], [4]), ([5, 4], [4, 5]), ([6, 4, 4], [4, 6]), ([4], [4]), ([8, 7, 4], [4, 8]), ([7, 9, 4], [4, 7, 9]), ([4, 10], [4, 10]), ([11, 9], [11]), ([12, 12], [12]), ([13, 12], [12, 13]), ([12, 14], [12, 14])])
def pelotonlaw04_MatmulApplies.B8 : List Nat := [0, 0, 3, 7, 15, 31, 63, 127, 31, 511, 1023, 2047, 4095, 8191, 16383, 32767]
theorem pelotonlaw04_MatmulApplies.tab8 : rtab .any (opsOf Try.f5 8) = pelotonlaw04_MatmulApplies.T8 := by kernel_rfl
theorem pelotonlaw04_MatmulApplies.bits8 : waitsOk pelotonlaw04_MatmulApplies.T8.2 pelotonlaw04_MatmulApplies.B8 = true := by kernel_rfl
set_option maxHeartbeats 60000000 in
set_option maxRecDepth 100000 in
theorem pelotonlaw04_MatmulApplies.callsV (k : Nat) (a0_0 : Int) (a0_1 : Int) (P0_2_ : Nat → Prop) (A0_2 : Option Addr) (c0_2 : Nat) (l0_2 : List Int) (P1_ : Nat → Prop) (A1 : Option Addr) (c1 : Nat) (l1 : List Int) (P2_ : Nat → Prop) (A2 : Option Addr) (c2 : Nat) (l2 : List Int) (r : Bool) (w : World) (hs0_2 : Kd.V (Kd.int .i8) 35 w w.heap.size (fun k_ => P0_2_ k_) (.slice A0_2 l0_2.length c0_2) l0_2) (hs1 : Kd.V (Kd.int .i8) 35 w w.heap.size (fun k_ => P1_ k_) (.slice A1 l1.length c1) l1) (hs2 : Kd.V (Kd.int .i8) 35 w w.heap.size (fun k_ => P2_ k_) (.slice A2 l2.length c2) l2) (h : pelotonlaw04_MatmulApplies.f k a0_0 a0_1 l0_2 l1 l2 = some r) :
  Calls Try.prog 5 #[.agg #[.int .i64 a0_0, .int .i64 a0_1, .slice A0_2 l0_2.length c0_2], .slice A1 l1.length c1, .slice A2 l2.length c2] w fun e w' => e = .returned (.bool r) ∧ Below w.heap.size w w' := by
 have hu30 := Try.underlying30
 have HO0_2 := Aside0.mk (show Kd.V (Kd.int .i8) 35 w w.heap.size (fun k_ => ((P0_2_ k_ ∨ P1_ k_ ∨ P2_ k_) ∨ w.heap.size ≤ k_)) (.slice A0_2 l0_2.length c0_2) l0_2 from Kd.V_mono hs0_2 (fun k_ hk => .inl (.inl hk)))
 have HO1 := Aside0.mk (show Kd.V (Kd.int .i8) 35 w w.heap.size (fun k_ => ((P0_2_ k_ ∨ P1_ k_ ∨ P2_ k_) ∨ w.heap.size ≤ k_)) (.slice A1 l1.length c1) l1 from Kd.V_mono hs1 (fun k_ hk => .inl (.inr (.inl hk))))
 have HO2 := Aside0.mk (show Kd.V (Kd.int .i8) 35 w w.heap.size (fun k_ => ((P0_2_ k_ ∨ P1_ k_ ∨ P2_ k_) ∨ w.heap.size ≤ k_)) (.slice A2 l2.length c2) l2 from Kd.V_mono hs2 (fun k_ hk => .inl (.inr (.inr hk))))
 have HB := Aside0.mk (Below.refl w.heap.size w)
 have H : ((pelotonlaw04_awake.f k).bind fun t177 => (if t177 = true then ((pelotonlaw04_small.f a0_0 a0_1 l0_2).bind fun t178 => (if t178 = true then (if (l1.length : Int) > 300 then (pelotonlaw04_MatmulApplies.j0 k l1 l2 true a0_0 a0_1 l0_2) else (pelotonlaw04_MatmulApplies.j0 k l1 l2 (decide ((l2.length : Int) > 300)) a0_0 a0_1 l0_2)) else (pelotonlaw04_MatmulApplies.j0 k l1 l2 true a0_0 a0_1 l0_2))) else (pelotonlaw04_MatmulApplies.j0 k l1 l2 true a0_0 a0_1 l0_2))) = some r := h
 clear h
 have HC4 := Aside0.mk H
 clear H
 go_enter Try.func5, Try.ntmps5
 go_upto_region 1 with (first | ((with_reducible refine gate_dst (N := 3) rfl ?_); (try (refine gate_guard (by rfl) ?_; dsimp only)); refine box_event ?hg (N := 3) ?hd (cs := #[.int .i64 a0_0, .int .i64 a0_1, .slice A0_2 l0_2.length c0_2]) (t := 30) ?hr ?_; (case hd => rfl); (case hg => rfl); (case hr => first | (go_simp; done) | (go_simp; rfl)); intro gb176 hg w5 hbox hb; have n0_ := Aside0.mk (Kd.V_below (Kd.V_elderB (by (with_reducible repeat (first | apply Kd.V_alloc | apply Kd.V_drewN | apply Kd.V_drew)); exact HO0_2.out) gb176 (Nat.le_of_eq hg.symm)) hb); have n1_ := Aside0.mk (Kd.V_below (Kd.V_elderB (by (with_reducible repeat (first | apply Kd.V_alloc | apply Kd.V_drewN | apply Kd.V_drew)); exact HO1.out) gb176 (Nat.le_of_eq hg.symm)) hb); have n2_ := Aside0.mk (Kd.V_below (Kd.V_elderB (by (with_reducible repeat (first | apply Kd.V_alloc | apply Kd.V_drewN | apply Kd.V_drew)); exact HO2.out) gb176 (Nat.le_of_eq hg.symm)) hb); have n3_ := Aside0.mk (below_step (by repeat (first | (with_reducible first | exact HB.out | apply b_a | apply b_n | apply b_d) | exact HB.out)) hb); have n4_ := Aside0.mk (hbox); have n5_ := Aside0.mk ((by rw [hg]; exact (below_size (by repeat (first | (with_reducible first | exact HB.out | apply b_a | apply b_n | apply b_d) | exact HB.out))) : w.heap.size ≤ gb176)); have n6_ := Aside0.mk ((by rw [hg]; exact (below_size (by repeat (first | (with_reducible first | exact HB.out | apply b_a | apply b_n | apply b_d) | exact HB.out))) : w.heap.size ≤ gb176)); clear HO0_2; clear HO1; clear HO2; clear HB; have HO0_2 := n0_; have HO1 := n1_; have HO2 := n2_; have HB := n3_; have BK176 := n4_; have GW176 := n5_; have GE176 := n6_; clear n0_ n1_ n2_ n3_ n4_ n5_ n6_; clear hb hbox hg))
 (try simp only [Act.put, l_1, l_2, l_3])
 go_cut [32] (fun v32 wc => ∃ (kq : Nat) (x32_3 : Bool), v32 = .bool x32_3 ∧ Aside0 (pelotonlaw04_MatmulApplies.j0 kq l1 l2 x32_3 a0_0 a0_1 l0_2 = some r) ∧ Aside0 (kq ≤ k) ∧ Aside0 (Kd.V (Kd.int .i8) 35 wc w.heap.size (fun k_ => ((P0_2_ k_ ∨ P1_ k_ ∨ P2_ k_) ∨ w.heap.size ≤ k_) ∧ k_ ≠ gb176) (.slice A1 l1.length c1) l1) ∧ Aside0 (Kd.V (Kd.int .i8) 35 wc w.heap.size (fun k_ => ((P0_2_ k_ ∨ P1_ k_ ∨ P2_ k_) ∨ w.heap.size ≤ k_) ∧ k_ ≠ gb176) (.slice A2 l2.length c2) l2) ∧ Aside0 (Kd.V (Kd.int .i8) 35 wc w.heap.size (fun k_ => ((P0_2_ k_ ∨ P1_ k_ ∨ P2_ k_) ∨ w.heap.size ≤ k_) ∧ k_ ≠ gb176) (.slice A0_2 l0_2.length c0_2) l0_2) ∧ Aside0 (wc.heap[gb176]? = some (.cells #[.int .i64 a0_0, .int .i64 a0_1, (.slice A0_2 l0_2.length c0_2)] 30 (0, 0))) ∧ Aside0 (Below w.heap.size w wc))
 case first =>
  have H := HC4.out
  clear HC4
  replace H := Option.bind_eq_some_iff.mp H
  obtain ⟨t177, A60, H⟩ := H
  replace H : (if t177 = true then ((pelotonlaw04_small.f a0_0 a0_1 l0_2).bind fun t178 => (if t178 = true then (if (l1.length : Int) > 300 then (pelotonlaw04_MatmulApplies.j0 k l1 l2 true a0_0 a0_1 l0_2) else (pelotonlaw04_MatmulApplies.j0 k l1 l2 (decide ((l2.length : Int) > 300)) a0_0 a0_1 l0_2)) else (pelotonlaw04_MatmulApplies.j0 k l1 l2 true a0_0 a0_1 l0_2))) else (pelotonlaw04_MatmulApplies.j0 k l1 l2 true a0_0 a0_1 l0_2)) = some r := H
  have A6 := Aside0.mk A60
  clear A60
  by_cases c7 : t177 = true
  rotate_left
  ·
   replace c7 := Bool.eq_false_iff.mpr c7
   subst c7
   have H1 : (pelotonlaw04_MatmulApplies.j0 k l1 l2 true a0_0 a0_1 l0_2) = some r := by rw [if_neg (show ¬ (false = true) by decide)] at H; exact H
   clear H
   have H := H1
   clear H1
   have H' := Aside0.mk H
   clear H
   go_wp2_with (first | ((with_reducible refine gate_callee (f := 10) rfl ?_); refine goesL_ (some 16) rfl rfl Try.func10 (by kernel_rfl) rfl #[] rfl (by (try simp only [l_4, l_5, l_6]); first | done | rfl | (simp only [l_7, l_8]; rfl)) ?_; (with_reducible refine (pelotonlaw04_awake.calls k  false _ A6.out).mono ?_); rintro e w20 ⟨rfl, hb⟩; (try clear A6); refine ⟨_, rfl, ?_⟩; have n0_ := Aside0.mk (Kd.V_below (by (with_reducible repeat (first | apply Kd.V_alloc | apply Kd.V_drewN | apply Kd.V_drew)); exact HO0_2.out) hb); have n1_ := Aside0.mk (Kd.V_below (by (with_reducible repeat (first | apply Kd.V_alloc | apply Kd.V_drewN | apply Kd.V_drew)); exact HO1.out) hb); have n2_ := Aside0.mk (Kd.V_below (by (with_reducible repeat (first | apply Kd.V_alloc | apply Kd.V_drewN | apply Kd.V_drew)); exact HO2.out) hb); have n3_ := Aside0.mk (blk_below (g := gb176) (o := .cells #[.int .i64 a0_0, .int .i64 a0_1, .slice A0_2 l0_2.length c0_2] 30 (0, 0)) (by (with_reducible repeat (first | refine k_n ?_ _ | refine k_d ?_ | refine k_a ?_ _)); exact BK176.out) hb); have n4_ := Aside0.mk (below_step (by repeat (first | (with_reducible first | exact HB.out | apply b_a | apply b_n | apply b_d | refine b_s ?_ GE176.out) | exact HB.out)) hb); clear HO0_2; clear HO1; clear HO2; clear BK176; clear HB; have HO0_2 := n0_; have HO1 := n1_; have HO2 := n2_; have BK176 := n3_; have HB := n4_; clear n0_ n1_ n2_ n3_ n4_; (try clear hb); (try clear hb2); (try clear hk); (try clear hi)))
   go_meet
   case rel => exact ⟨_, (true), (by first | rfl | (simp; done) | (simp [*]; done)), H', ⟨by first | omega | exact Nat.le_refl _⟩, ⟨by (with_reducible repeat (first | apply Kd.V_alloc | apply Kd.V_drewN | apply Kd.V_drew)); exact HO1.out⟩, ⟨by (with_reducible repeat (first | apply Kd.V_alloc | apply Kd.V_drewN | apply Kd.V_drew)); exact HO2.out⟩, ⟨by (with_reducible repeat (first | apply Kd.V_alloc | apply Kd.V_drewN | apply Kd.V_drew)); exact HO0_2.out⟩, ⟨by (with_reducible repeat (first | refine k_n ?_ _ | refine k_d ?_ | refine k_a ?_ _)); exact BK176.out⟩, ⟨by repeat (first | (with_reducible first | exact HB.out | apply b_a | apply b_n | apply b_d | refine b_s ?_ GE176.out) | exact HB.out)⟩⟩
  subst c7
  have H1 : ((pelotonlaw04_small.f a0_0 a0_1 l0_2).bind fun t178 => (if t178 = true then (if (l1.length : Int) > 300 then (pelotonlaw04_MatmulApplies.j0 k l1 l2 true a0_0 a0_1 l0_2) else (pelotonlaw04_MatmulApplies.j0 k l1 l2 (decide ((l2.length : Int) > 300)) a0_0 a0_1 l0_2)) else (pelotonlaw04_MatmulApplies.j0 k l1 l2 true a0_0 a0_1 l0_2))) = some r := by rw [if_pos rfl] at H; exact H
  clear H
  have H := H1
  clear H1
  replace H := Option.bind_eq_some_iff.mp H
  obtain ⟨t178, A80, H⟩ := H
  replace H : (if t178 = true then (if (l1.length : Int) > 300 then (pelotonlaw04_MatmulApplies.j0 k l1 l2 true a0_0 a0_1 l0_2) else (pelotonlaw04_MatmulApplies.j0 k l1 l2 (decide ((l2.length : Int) > 300)) a0_0 a0_1 l0_2)) else (pelotonlaw04_MatmulApplies.j0 k l1 l2 true a0_0 a0_1 l0_2)) = some r := H
  have A8 := Aside0.mk A80
  clear A80
  by_cases c9 : t178 = true
  rotate_left
  ·
   replace c9 := Bool.eq_false_iff.mpr c9
   subst c9
   have H1 : (pelotonlaw04_MatmulApplies.j0 k l1 l2 true a0_0 a0_1 l0_2) = some r := by rw [if_neg (show ¬ (false = true) by decide)] at H; exact H
   clear H
   have H := H1
   clear H1
   have H' := Aside0.mk H
   clear H
   go_wp2_with (first | ((with_reducible refine gate_callee (f := 10) rfl ?_); refine goesL_ (some 16) rfl rfl Try.func10 (by kernel_rfl) rfl #[] rfl (by (try simp only [l_4, l_5, l_6]); first | done | rfl | (simp only [l_7, l_8]; rfl)) ?_; (with_reducible refine (pelotonlaw04_awake.calls k  true _ A6.out).mono ?_); rintro e w17 ⟨rfl, hb⟩; (try clear A6); refine ⟨_, rfl, ?_⟩; have n0_ := Aside0.mk (Kd.V_below (by (with_reducible repeat (first | apply Kd.V_alloc | apply Kd.V_drewN | apply Kd.V_drew)); exact HO0_2.out) hb); have n1_ := Aside0.mk (Kd.V_below (by (with_reducible repeat (first | apply Kd.V_alloc | apply Kd.V_drewN | apply Kd.V_drew)); exact HO1.out) hb); have n2_ := Aside0.mk (Kd.V_below (by (with_reducible repeat (first | apply Kd.V_alloc | apply Kd.V_drewN | apply Kd.V_drew)); exact HO2.out) hb); have n3_ := Aside0.mk (blk_below (g := gb176) (o := .cells #[.int .i64 a0_0, .int .i64 a0_1, .slice A0_2 l0_2.length c0_2] 30 (0, 0)) (by (with_reducible repeat (first | refine k_n ?_ _ | refine k_d ?_ | refine k_a ?_ _)); exact BK176.out) hb); have n4_ := Aside0.mk (below_step (by repeat (first | (with_reducible first | exact HB.out | apply b_a | apply b_n | apply b_d | refine b_s ?_ GE176.out) | exact HB.out)) hb); clear HO0_2; clear HO1; clear HO2; clear BK176; clear HB; have HO0_2 := n0_; have HO1 := n1_; have HO2 := n2_; have BK176 := n3_; have HB := n4_; clear n0_ n1_ n2_ n3_ n4_; (try clear hb); (try clear hb2); (try clear hk); (try clear hi); have hcz18_0 : w17.cell? ⟨gb176, 0, none⟩ = some (.int .i64 a0_0) := (blk_cell BK176.out 0).trans rfl; have hcz18_1 : w17.cell? ⟨gb176, 1, none⟩ = some (.int .i64 a0_1) := (blk_cell BK176.out 1).trans rfl; have hcz18_2 : w17.cell? ⟨gb176, 2, none⟩ = some (.slice A0_2 l0_2.length c0_2) := (blk_cell BK176.out 2).trans rfl; have hfz18_0 := blk_frozen BK176.out 0; have hfz18_1 := blk_frozen BK176.out 1; have hfz18_2 := blk_frozen BK176.out 2) | (go_at_call 12; (with_reducible refine (pelotonlaw04_small.calls a0_0 a0_1 _ _ l0_2 false _ ?side1 ?side2 A8.out).mono ?_); (case side1 => repeat (first | exact (Kd.V_reads' HO0_2.out).2.2 | (with_reducible refine Kd.C_alloc ?_ _) | (with_reducible refine Kd.C_drewN ?_ _) | (with_reducible refine Kd.C_drew ?_))); (case side2 => exact (Kd.V_reads' HO0_2.out).2.1); rintro e w19 ⟨rfl, hb⟩; (try clear A8); have n0_ := Aside0.mk (Kd.V_below (by (with_reducible repeat (first | apply Kd.V_alloc | apply Kd.V_drewN | apply Kd.V_drew)); exact HO0_2.out) hb); have n1_ := Aside0.mk (Kd.V_below (by (with_reducible repeat (first | apply Kd.V_alloc | apply Kd.V_drewN | apply Kd.V_drew)); exact HO1.out) hb); have n2_ := Aside0.mk (Kd.V_below (by (with_reducible repeat (first | apply Kd.V_alloc | apply Kd.V_drewN | apply Kd.V_drew)); exact HO2.out) hb); have n3_ := Aside0.mk (blk_below (g := gb176) (o := .cells #[.int .i64 a0_0, .int .i64 a0_1, .slice A0_2 l0_2.length c0_2] 30 (0, 0)) (by (with_reducible repeat (first | refine k_n ?_ _ | refine k_d ?_ | refine k_a ?_ _)); exact BK176.out) hb); have n4_ := Aside0.mk (below_step (by repeat (first | (with_reducible first | exact HB.out | apply b_a | apply b_n | apply b_d | refine b_s ?_ GE176.out) | exact HB.out)) hb); clear HO0_2; clear HO1; clear HO2; clear BK176; clear HB; have HO0_2 := n0_; have HO1 := n1_; have HO2 := n2_; have BK176 := n3_; have HB := n4_; clear n0_ n1_ n2_ n3_ n4_; (try clear hb); (try clear hb2); (try clear hk); (try clear hi)))
   go_meet
   case rel => exact ⟨_, (true), (by first | rfl | (simp; done) | (simp [*]; done)), H', ⟨by first | omega | exact Nat.le_refl _⟩, ⟨by (with_reducible repeat (first | apply Kd.V_alloc | apply Kd.V_drewN | apply Kd.V_drew)); exact HO1.out⟩, ⟨by (with_reducible repeat (first | apply Kd.V_alloc | apply Kd.V_drewN | apply Kd.V_drew)); exact HO2.out⟩, ⟨by (with_reducible repeat (first | apply Kd.V_alloc | apply Kd.V_drewN | apply Kd.V_drew)); exact HO0_2.out⟩, ⟨by (with_reducible repeat (first | refine k_n ?_ _ | refine k_d ?_ | refine k_a ?_ _)); exact BK176.out⟩, ⟨by repeat (first | (with_reducible first | exact HB.out | apply b_a | apply b_n | apply b_d | refine b_s ?_ GE176.out) | exact HB.out)⟩⟩
  subst c9
  have H1 : (if (l1.length : Int) > 300 then (pelotonlaw04_MatmulApplies.j0 k l1 l2 true a0_0 a0_1 l0_2) else (pelotonlaw04_MatmulApplies.j0 k l1 l2 (decide ((l2.length : Int) > 300)) a0_0 a0_1 l0_2)) = some r := by rw [if_pos rfl] at H; exact H
  clear H
  have H := H1
  clear H1
  by_cases c10 : (l1.length : Int) > 300
  ·
   rw [if_pos c10] at H
   have c10b0 : decide (300 < (l1.length : Int)) = true := decide_eq_true c10
   have c10b1 : decide (300 < l1.length) = true := decide_eq_true (by omega)
   clear c10
   (first | rw [c10b0] | (simp only [i64_w, i32_w]; rw [c10b0]) | skip)
   have H' := Aside0.mk H
   clear H
   go_wp2_with (first | ((with_reducible refine gate_callee (f := 10) rfl ?_); refine goesL_ (some 16) rfl rfl Try.func10 (by kernel_rfl) rfl #[] rfl (by (try simp only [l_4, l_5, l_6]); first | done | rfl | (simp only [l_7, l_8]; rfl)) ?_; (with_reducible refine (pelotonlaw04_awake.calls k  true _ A6.out).mono ?_); rintro e w11 ⟨rfl, hb⟩; (try clear A6); refine ⟨_, rfl, ?_⟩; have n0_ := Aside0.mk (Kd.V_below (by (with_reducible repeat (first | apply Kd.V_alloc | apply Kd.V_drewN | apply Kd.V_drew)); exact HO0_2.out) hb); have n1_ := Aside0.mk (Kd.V_below (by (with_reducible repeat (first | apply Kd.V_alloc | apply Kd.V_drewN | apply Kd.V_drew)); exact HO1.out) hb); have n2_ := Aside0.mk (Kd.V_below (by (with_reducible repeat (first | apply Kd.V_alloc | apply Kd.V_drewN | apply Kd.V_drew)); exact HO2.out) hb); have n3_ := Aside0.mk (blk_below (g := gb176) (o := .cells #[.int .i64 a0_0, .int .i64 a0_1, .slice A0_2 l0_2.length c0_2] 30 (0, 0)) (by (with_reducible repeat (first | refine k_n ?_ _ | refine k_d ?_ | refine k_a ?_ _)); exact BK176.out) hb); have n4_ := Aside0.mk (below_step (by repeat (first | (with_reducible first | exact HB.out | apply b_a | apply b_n | apply b_d | refine b_s ?_ GE176.out) | exact HB.out)) hb); clear HO0_2; clear HO1; clear HO2; clear BK176; clear HB; have HO0_2 := n0_; have HO1 := n1_; have HO2 := n2_; have BK176 := n3_; have HB := n4_; clear n0_ n1_ n2_ n3_ n4_; (try clear hb); (try clear hb2); (try clear hk); (try clear hi); have hcz12_0 : w11.cell? ⟨gb176, 0, none⟩ = some (.int .i64 a0_0) := (blk_cell BK176.out 0).trans rfl; have hcz12_1 : w11.cell? ⟨gb176, 1, none⟩ = some (.int .i64 a0_1) := (blk_cell BK176.out 1).trans rfl; have hcz12_2 : w11.cell? ⟨gb176, 2, none⟩ = some (.slice A0_2 l0_2.length c0_2) := (blk_cell BK176.out 2).trans rfl; have hfz12_0 := blk_frozen BK176.out 0; have hfz12_1 := blk_frozen BK176.out 1; have hfz12_2 := blk_frozen BK176.out 2) | (go_at_call 12; (with_reducible refine (pelotonlaw04_small.calls a0_0 a0_1 _ _ l0_2 true _ ?side1 ?side2 A8.out).mono ?_); (case side1 => repeat (first | exact (Kd.V_reads' HO0_2.out).2.2 | (with_reducible refine Kd.C_alloc ?_ _) | (with_reducible refine Kd.C_drewN ?_ _) | (with_reducible refine Kd.C_drew ?_))); (case side2 => exact (Kd.V_reads' HO0_2.out).2.1); rintro e w13 ⟨rfl, hb⟩; (try clear A8); have n0_ := Aside0.mk (Kd.V_below (by (with_reducible repeat (first | apply Kd.V_alloc | apply Kd.V_drewN | apply Kd.V_drew)); exact HO0_2.out) hb); have n1_ := Aside0.mk (Kd.V_below (by (with_reducible repeat (first | apply Kd.V_alloc | apply Kd.V_drewN | apply Kd.V_drew)); exact HO1.out) hb); have n2_ := Aside0.mk (Kd.V_below (by (with_reducible repeat (first | apply Kd.V_alloc | apply Kd.V_drewN | apply Kd.V_drew)); exact HO2.out) hb); have n3_ := Aside0.mk (blk_below (g := gb176) (o := .cells #[.int .i64 a0_0, .int .i64 a0_1, .slice A0_2 l0_2.length c0_2] 30 (0, 0)) (by (with_reducible repeat (first | refine k_n ?_ _ | refine k_d ?_ | refine k_a ?_ _)); exact BK176.out) hb); have n4_ := Aside0.mk (below_step (by repeat (first | (with_reducible first | exact HB.out | apply b_a | apply b_n | apply b_d | refine b_s ?_ GE176.out) | exact HB.out)) hb); clear HO0_2; clear HO1; clear HO2; clear BK176; clear HB; have HO0_2 := n0_; have HO1 := n1_; have HO2 := n2_; have BK176 := n3_; have HB := n4_; clear n0_ n1_ n2_ n3_ n4_; (try clear hb); (try clear hb2); (try clear hk); (try clear hi)))
   go_meet
   case rel => exact ⟨_, (true), (by first | rfl | (simp; done) | (simp [*]; done)), H', ⟨by first | omega | exact Nat.le_refl _⟩, ⟨by (with_reducible repeat (first | apply Kd.V_alloc | apply Kd.V_drewN | apply Kd.V_drew)); exact HO1.out⟩, ⟨by (with_reducible repeat (first | apply Kd.V_alloc | apply Kd.V_drewN | apply Kd.V_drew)); exact HO2.out⟩, ⟨by (with_reducible repeat (first | apply Kd.V_alloc | apply Kd.V_drewN | apply Kd.V_drew)); exact HO0_2.out⟩, ⟨by (with_reducible repeat (first | refine k_n ?_ _ | refine k_d ?_ | refine k_a ?_ _)); exact BK176.out⟩, ⟨by repeat (first | (with_reducible first | exact HB.out | apply b_a | apply b_n | apply b_d | refine b_s ?_ GE176.out) | exact HB.out)⟩⟩
  rw [if_neg c10] at H
  have c10b0 : decide (300 < (l1.length : Int)) = false := decide_eq_false c10
  have c10b1 : decide (300 < l1.length) = false := decide_eq_false (by omega)
  clear c10
  (first | rw [c10b0] | (simp only [i64_w, i32_w]; rw [c10b0]) | skip)
  have H' := Aside0.mk H
  clear H
  go_wp2_with (first | ((with_reducible refine gate_callee (f := 10) rfl ?_); refine goesL_ (some 16) rfl rfl Try.func10 (by kernel_rfl) rfl #[] rfl (by (try simp only [l_4, l_5, l_6]); first | done | rfl | (simp only [l_7, l_8]; rfl)) ?_; (with_reducible refine (pelotonlaw04_awake.calls k  true _ A6.out).mono ?_); rintro e w14 ⟨rfl, hb⟩; (try clear A6); refine ⟨_, rfl, ?_⟩; have n0_ := Aside0.mk (Kd.V_below (by (with_reducible repeat (first | apply Kd.V_alloc | apply Kd.V_drewN | apply Kd.V_drew)); exact HO0_2.out) hb); have n1_ := Aside0.mk (Kd.V_below (by (with_reducible repeat (first | apply Kd.V_alloc | apply Kd.V_drewN | apply Kd.V_drew)); exact HO1.out) hb); have n2_ := Aside0.mk (Kd.V_below (by (with_reducible repeat (first | apply Kd.V_alloc | apply Kd.V_drewN | apply Kd.V_drew)); exact HO2.out) hb); have n3_ := Aside0.mk (blk_below (g := gb176) (o := .cells #[.int .i64 a0_0, .int .i64 a0_1, .slice A0_2 l0_2.length c0_2] 30 (0, 0)) (by (with_reducible repeat (first | refine k_n ?_ _ | refine k_d ?_ | refine k_a ?_ _)); exact BK176.out) hb); have n4_ := Aside0.mk (below_step (by repeat (first | (with_reducible first | exact HB.out | apply b_a | apply b_n | apply b_d | refine b_s ?_ GE176.out) | exact HB.out)) hb); clear HO0_2; clear HO1; clear HO2; clear BK176; clear HB; have HO0_2 := n0_; have HO1 := n1_; have HO2 := n2_; have BK176 := n3_; have HB := n4_; clear n0_ n1_ n2_ n3_ n4_; (try clear hb); (try clear hb2); (try clear hk); (try clear hi); have hcz15_0 : w14.cell? ⟨gb176, 0, none⟩ = some (.int .i64 a0_0) := (blk_cell BK176.out 0).trans rfl; have hcz15_1 : w14.cell? ⟨gb176, 1, none⟩ = some (.int .i64 a0_1) := (blk_cell BK176.out 1).trans rfl; have hcz15_2 : w14.cell? ⟨gb176, 2, none⟩ = some (.slice A0_2 l0_2.length c0_2) := (blk_cell BK176.out 2).trans rfl; have hfz15_0 := blk_frozen BK176.out 0; have hfz15_1 := blk_frozen BK176.out 1; have hfz15_2 := blk_frozen BK176.out 2) | (go_at_call 12; (with_reducible refine (pelotonlaw04_small.calls a0_0 a0_1 _ _ l0_2 true _ ?side1 ?side2 A8.out).mono ?_); (case side1 => repeat (first | exact (Kd.V_reads' HO0_2.out).2.2 | (with_reducible refine Kd.C_alloc ?_ _) | (with_reducible refine Kd.C_drewN ?_ _) | (with_reducible refine Kd.C_drew ?_))); (case side2 => exact (Kd.V_reads' HO0_2.out).2.1); rintro e w16 ⟨rfl, hb⟩; (try clear A8); have n0_ := Aside0.mk (Kd.V_below (by (with_reducible repeat (first | apply Kd.V_alloc | apply Kd.V_drewN | apply Kd.V_drew)); exact HO0_2.out) hb); have n1_ := Aside0.mk (Kd.V_below (by (with_reducible repeat (first | apply Kd.V_alloc | apply Kd.V_drewN | apply Kd.V_drew)); exact HO1.out) hb); have n2_ := Aside0.mk (Kd.V_below (by (with_reducible repeat (first | apply Kd.V_alloc | apply Kd.V_drewN | apply Kd.V_drew)); exact HO2.out) hb); have n3_ := Aside0.mk (blk_below (g := gb176) (o := .cells #[.int .i64 a0_0, .int .i64 a0_1, .slice A0_2 l0_2.length c0_2] 30 (0, 0)) (by (with_reducible repeat (first | refine k_n ?_ _ | refine k_d ?_ | refine k_a ?_ _)); exact BK176.out) hb); have n4_ := Aside0.mk (below_step (by repeat (first | (with_reducible first | exact HB.out | apply b_a | apply b_n | apply b_d | refine b_s ?_ GE176.out) | exact HB.out)) hb); clear HO0_2; clear HO1; clear HO2; clear BK176; clear HB; have HO0_2 := n0_; have HO1 := n1_; have HO2 := n2_; have BK176 := n3_; have HB := n4_; clear n0_ n1_ n2_ n3_ n4_; (try clear hb); (try clear hb2); (try clear hk); (try clear hi)))
  go_meet
  case rel => exact ⟨_, (decide ((l2.length : Int) > 300)), (by first | rfl | (simp; done) | (simp [*]; done)), H', ⟨by first | omega | exact Nat.le_refl _⟩, ⟨by (with_reducible repeat (first | apply Kd.V_alloc | apply Kd.V_drewN | apply Kd.V_drew)); exact HO1.out⟩, ⟨by (with_reducible repeat (first | apply Kd.V_alloc | apply Kd.V_drewN | apply Kd.V_drew)); exact HO2.out⟩, ⟨by (with_reducible repeat (first | apply Kd.V_alloc | apply Kd.V_drewN | apply Kd.V_drew)); exact HO0_2.out⟩, ⟨by (with_reducible repeat (first | refine k_n ?_ _ | refine k_d ?_ | refine k_a ?_ _)); exact BK176.out⟩, ⟨by repeat (first | (with_reducible first | exact HB.out | apply b_a | apply b_n | apply b_d | refine b_s ?_ GE176.out) | exact HB.out)⟩⟩
 case rest => as_aux_lemma =>
  clear HC4
  try clear c1
  try clear c2
  try clear p2
  try clear c5
  try clear c7
  try clear c9
  try clear c10
  try clear c10b0
  try clear c10b1
  try clear hcz12_0
  try clear hcz12_1
  try clear hcz12_2
  try clear hcz15_0
  try clear hcz15_1
  try clear hcz15_2
  try clear hcz18_0
  try clear hcz18_1
  try clear hcz18_2
  try clear hfz12_0
  try clear hfz12_1
  try clear hfz12_2
  try clear hfz15_0
  try clear hfz15_1
  try clear hfz15_2
  try clear hfz18_0
  try clear hfz18_1
  try clear hfz18_2
  obtain ⟨kq, x32_3, rfl, HA, HJ3, HO_1, HO_2, HO_177002, BK176, HB⟩ := hcut
  cases kq with
  | zero => exact absurd HA.out (by simp [pelotonlaw04_MatmulApplies.j0])
  | succ kj3 =>
   have H := HA.out
   clear HA
   simp only [pelotonlaw04_MatmulApplies.j0] at H
   by_cases c21 : x32_3 = true
   ·
    subst c21
    have H1 : ((pelotonlaw04_awake.f kj3).bind fun t179 => (some t179)) = some r := by rw [if_pos rfl] at H; exact H
    clear H
    have H := H1
    clear H1
    replace H := Option.bind_eq_some_iff.mp H
    obtain ⟨t179, A220, H⟩ := H
    replace H : (some t179) = some r := H
    have A22 := Aside0.mk A220
    clear A220
    obtain rfl := Option.some.inj H
    go_wp2_with (first | ((with_reducible refine gate_callee (f := 10) rfl ?_); refine goesL_ (some 33) rfl rfl Try.func10 (by kernel_rfl) rfl #[] rfl (by (try simp only [l_4, l_5, l_6]); first | done | rfl | (simp only [l_7, l_8]; rfl)) ?_; (with_reducible refine (pelotonlaw04_awake.calls kj3  t179 _ A22.out).mono ?_); rintro e w23 ⟨rfl, hb⟩; (try clear A22); refine ⟨_, rfl, ?_⟩; have n0_ := Aside0.mk (Kd.V_below (by (with_reducible repeat (first | apply Kd.V_alloc | apply Kd.V_drewN | apply Kd.V_drew)); exact HO_1.out) hb); have n1_ := Aside0.mk (Kd.V_below (by (with_reducible repeat (first | apply Kd.V_alloc | apply Kd.V_drewN | apply Kd.V_drew)); exact HO_2.out) hb); have n2_ := Aside0.mk (Kd.V_below (by (with_reducible repeat (first | apply Kd.V_alloc | apply Kd.V_drewN | apply Kd.V_drew)); exact HO_177002.out) hb); have n3_ := Aside0.mk (blk_below (g := gb176) (o := .cells #[.int .i64 a0_0, .int .i64 a0_1, .slice A0_2 l0_2.length c0_2] 30 (0, 0)) (by (with_reducible repeat (first | refine k_n ?_ _ | refine k_d ?_ | refine k_a ?_ _)); exact BK176.out) hb); have n4_ := Aside0.mk (below_step (by repeat (first | (with_reducible first | exact HB.out | apply b_a | apply b_n | apply b_d | refine b_s ?_ GE176.out) | exact HB.out)) hb); clear HO_1; clear HO_2; clear HO_177002; clear BK176; clear HB; have HO_1 := n0_; have HO_2 := n1_; have HO_177002 := n2_; have BK176 := n3_; have HB := n4_; clear n0_ n1_ n2_ n3_ n4_; (try clear hb); (try clear hb2); (try clear hk); (try clear hi)))
    go_ret
    exact ⟨by first | rfl | (simp [errW_none, errW_some] <;> rfl) | (simp [*, errW_none, errW_some] <;> rfl), by repeat (first | (with_reducible first | exact HB.out | apply b_a | apply b_n | apply b_d | refine b_s ?_ GE176.out) | exact HB.out)⟩
   replace c21 := Bool.eq_false_iff.mpr c21
   subst c21
   have H1 : ((some (([] : List Int) : List Int)).bind fun y180 => (if y180.length + l0_2.length < 140737488355328 then ((some (y180 ++ l0_2 : List Int)).bind fun y183 => ((matmul_Apply.f kj3 a0_0 a0_1 y183 l1).bind fun bt187 => ((matmul_Many.f kj3 a0_0 a0_1 y183 (([l1, l2] : List (List Int)))).bind fun bt194 => ((pelotonref04_Apply.f kj3 a0_0 a0_1 l0_2 l1).bind fun bt198 => ((pelotonref04_Apply.f kj3 a0_0 a0_1 l0_2 l2).bind fun bt202 => ((pelotonref04_Same.f kj3 a0_0 a0_1 y183 a0_0 a0_1 l0_2).bind fun t206 => (if t206 = true then ((matmul_Right.f kj3 (([(⟨a0_0, a0_1, l0_2⟩ : S30)] : List (S30)))).bind fun t210 => ((pelotonref04_Right.f a0_0 a0_1 l0_2).bind fun t211 => (if (t210 != t211) = true then (pelotonlaw04_MatmulApplies.j1 kj3 bt187.1 bt187.2 bt194.1 bt194.2 bt198.1 bt198.2 bt202.1 bt202.2 true) else ((matmul_Right.f kj3 ([] : List (S30))).bind fun t212 => (pelotonlaw04_MatmulApplies.j1 kj3 bt187.1 bt187.2 bt194.1 bt194.2 bt198.1 bt198.2 bt202.1 bt202.2 (!t212)))))) else (pelotonlaw04_MatmulApplies.j1 kj3 bt187.1 bt187.2 bt194.1 bt194.2 bt198.1 bt198.2 bt202.1 bt202.2 true)))))))) else (none))) = some r := by rw [if_neg (show ¬ (false = true) by decide)] at H; exact H
   clear H
   have H := H1
   clear H1
   obtain ⟨y180, hy180⟩ : ∃ y_ : List Int, y_ = (([] : List Int)) := ⟨_, rfl⟩
   replace H : (if y180.length + l0_2.length < 140737488355328 then ((some (y180 ++ l0_2 : List Int)).bind fun y183 => ((matmul_Apply.f kj3 a0_0 a0_1 y183 l1).bind fun bt187 => ((matmul_Many.f kj3 a0_0 a0_1 y183 (([l1, l2] : List (List Int)))).bind fun bt194 => ((pelotonref04_Apply.f kj3 a0_0 a0_1 l0_2 l1).bind fun bt198 => ((pelotonref04_Apply.f kj3 a0_0 a0_1 l0_2 l2).bind fun bt202 => ((pelotonref04_Same.f kj3 a0_0 a0_1 y183 a0_0 a0_1 l0_2).bind fun t206 => (if t206 = true then ((matmul_Right.f kj3 (([(⟨a0_0, a0_1, l0_2⟩ : S30)] : List (S30)))).bind fun t210 => ((pelotonref04_Right.f a0_0 a0_1 l0_2).bind fun t211 => (if (t210 != t211) = true then (pelotonlaw04_MatmulApplies.j1 kj3 bt187.1 bt187.2 bt194.1 bt194.2 bt198.1 bt198.2 bt202.1 bt202.2 true) else ((matmul_Right.f kj3 ([] : List (S30))).bind fun t212 => (pelotonlaw04_MatmulApplies.j1 kj3 bt187.1 bt187.2 bt194.1 bt194.2 bt198.1 bt198.2 bt202.1 bt202.2 (!t212)))))) else (pelotonlaw04_MatmulApplies.j1 kj3 bt187.1 bt187.2 bt194.1 bt194.2 bt198.1 bt198.2 bt202.1 bt202.2 true)))))))) else (none)) = some r := by first | (rw [hy180]; with_reducible exact H) | (have H2_ := (Option.bind_some _ _).symm.trans H; rw [hy180]; with_reducible exact H2_) | (have H2_ := (Option.bind_some _ _).symm.trans H; with_reducible exact H2_) | with_reducible exact H | (rw [hy180]; exact H) | exact H
   have Ny180 := Aside0.mk hy180
   clear hy180
   by_cases c24 : y180.length + l0_2.length < 140737488355328
   rotate_left
   ·
    rw [if_neg c24] at H
    exact absurd H (by simp)

   rw [if_pos c24] at H
   have LMc24 := Aside0.mk c24
   clear c24
   obtain ⟨y183, hy183⟩ : ∃ y_ : List Int, y_ = (y180 ++ l0_2) := ⟨_, rfl⟩
   replace H : ((matmul_Apply.f kj3 a0_0 a0_1 y183 l1).bind fun bt187 => ((matmul_Many.f kj3 a0_0 a0_1 y183 (([l1, l2] : List (List Int)))).bind fun bt194 => ((pelotonref04_Apply.f kj3 a0_0 a0_1 l0_2 l1).bind fun bt198 => ((pelotonref04_Apply.f kj3 a0_0 a0_1 l0_2 l2).bind fun bt202 => ((pelotonref04_Same.f kj3 a0_0 a0_1 y183 a0_0 a0_1 l0_2).bind fun t206 => (if t206 = true then ((matmul_Right.f kj3 (([(⟨a0_0, a0_1, l0_2⟩ : S30)] : List (S30)))).bind fun t210 => ((pelotonref04_Right.f a0_0 a0_1 l0_2).bind fun t211 => (if (t210 != t211) = true then (pelotonlaw04_MatmulApplies.j1 kj3 bt187.1 bt187.2 bt194.1 bt194.2 bt198.1 bt198.2 bt202.1 bt202.2 true) else ((matmul_Right.f kj3 ([] : List (S30))).bind fun t212 => (pelotonlaw04_MatmulApplies.j1 kj3 bt187.1 bt187.2 bt194.1 bt194.2 bt198.1 bt198.2 bt202.1 bt202.2 (!t212)))))) else (pelotonlaw04_MatmulApplies.j1 kj3 bt187.1 bt187.2 bt194.1 bt194.2 bt198.1 bt198.2 bt202.1 bt202.2 true))))))) = some r := by first | (rw [hy183]; with_reducible exact H) | (have H2_ := (Option.bind_some _ _).symm.trans H; rw [hy183]; with_reducible exact H2_) | (have H2_ := (Option.bind_some _ _).symm.trans H; with_reducible exact H2_) | with_reducible exact H | (rw [hy183]; exact H) | exact H
   have Ny183 := Aside0.mk hy183
   clear hy183
   replace H := Option.bind_eq_some_iff.mp H
   obtain ⟨⟨t187, t190⟩, A250, H⟩ := H
   replace H : ((matmul_Many.f kj3 a0_0 a0_1 y183 (([l1, l2] : List (List Int)))).bind fun bt194 => ((pelotonref04_Apply.f kj3 a0_0 a0_1 l0_2 l1).bind fun bt198 => ((pelotonref04_Apply.f kj3 a0_0 a0_1 l0_2 l2).bind fun bt202 => ((pelotonref04_Same.f kj3 a0_0 a0_1 y183 a0_0 a0_1 l0_2).bind fun t206 => (if t206 = true then ((matmul_Right.f kj3 (([(⟨a0_0, a0_1, l0_2⟩ : S30)] : List (S30)))).bind fun t210 => ((pelotonref04_Right.f a0_0 a0_1 l0_2).bind fun t211 => (if (t210 != t211) = true then (pelotonlaw04_MatmulApplies.j1 kj3 t187 t190 bt194.1 bt194.2 bt198.1 bt198.2 bt202.1 bt202.2 true) else ((matmul_Right.f kj3 ([] : List (S30))).bind fun t212 => (pelotonlaw04_MatmulApplies.j1 kj3 t187 t190 bt194.1 bt194.2 bt198.1 bt198.2 bt202.1 bt202.2 (!t212)))))) else (pelotonlaw04_MatmulApplies.j1 kj3 t187 t190 bt194.1 bt194.2 bt198.1 bt198.2 bt202.1 bt202.2 true)))))) = some r := H
   have A25 := Aside0.mk A250
   clear A250
   obtain ⟨y191, hy191⟩ : ∃ y_ : List (List Int), y_ = (([l1, l2] : List (List Int))) := ⟨_, rfl⟩
   replace H : ((matmul_Many.f kj3 a0_0 a0_1 y183 y191).bind fun bt194 => ((pelotonref04_Apply.f kj3 a0_0 a0_1 l0_2 l1).bind fun bt198 => ((pelotonref04_Apply.f kj3 a0_0 a0_1 l0_2 l2).bind fun bt202 => ((pelotonref04_Same.f kj3 a0_0 a0_1 y183 a0_0 a0_1 l0_2).bind fun t206 => (if t206 = true then ((matmul_Right.f kj3 (([(⟨a0_0, a0_1, l0_2⟩ : S30)] : List (S30)))).bind fun t210 => ((pelotonref04_Right.f a0_0 a0_1 l0_2).bind fun t211 => (if (t210 != t211) = true then (pelotonlaw04_MatmulApplies.j1 kj3 t187 t190 bt194.1 bt194.2 bt198.1 bt198.2 bt202.1 bt202.2 true) else ((matmul_Right.f kj3 ([] : List (S30))).bind fun t212 => (pelotonlaw04_MatmulApplies.j1 kj3 t187 t190 bt194.1 bt194.2 bt198.1 bt198.2 bt202.1 bt202.2 (!t212)))))) else (pelotonlaw04_MatmulApplies.j1 kj3 t187 t190 bt194.1 bt194.2 bt198.1 bt198.2 bt202.1 bt202.2 true)))))) = some r := by first | (rw [hy191]; with_reducible exact H) | (have H2_ := (Option.bind_some _ _).symm.trans H; rw [hy191]; with_reducible exact H2_) | (have H2_ := (Option.bind_some _ _).symm.trans H; with_reducible exact H2_) | with_reducible exact H | (rw [hy191]; exact H) | exact H
   have Ny191 := Aside0.mk hy191
   clear hy191
   replace H := Option.bind_eq_some_iff.mp H
   obtain ⟨⟨t194, t197⟩, A260, H⟩ := H
   replace H : ((pelotonref04_Apply.f kj3 a0_0 a0_1 l0_2 l1).bind fun bt198 => ((pelotonref04_Apply.f kj3 a0_0 a0_1 l0_2 l2).bind fun bt202 => ((pelotonref04_Same.f kj3 a0_0 a0_1 y183 a0_0 a0_1 l0_2).bind fun t206 => (if t206 = true then ((matmul_Right.f kj3 (([(⟨a0_0, a0_1, l0_2⟩ : S30)] : List (S30)))).bind fun t210 => ((pelotonref04_Right.f a0_0 a0_1 l0_2).bind fun t211 => (if (t210 != t211) = true then (pelotonlaw04_MatmulApplies.j1 kj3 t187 t190 t194 t197 bt198.1 bt198.2 bt202.1 bt202.2 true) else ((matmul_Right.f kj3 ([] : List (S30))).bind fun t212 => (pelotonlaw04_MatmulApplies.j1 kj3 t187 t190 t194 t197 bt198.1 bt198.2 bt202.1 bt202.2 (!t212)))))) else (pelotonlaw04_MatmulApplies.j1 kj3 t187 t190 t194 t197 bt198.1 bt198.2 bt202.1 bt202.2 true))))) = some r := H
   have A26 := Aside0.mk A260
   clear A260
   replace H := Option.bind_eq_some_iff.mp H
   obtain ⟨⟨t198, t201⟩, A270, H⟩ := H
   replace H : ((pelotonref04_Apply.f kj3 a0_0 a0_1 l0_2 l2).bind fun bt202 => ((pelotonref04_Same.f kj3 a0_0 a0_1 y183 a0_0 a0_1 l0_2).bind fun t206 => (if t206 = true then ((matmul_Right.f kj3 (([(⟨a0_0, a0_1, l0_2⟩ : S30)] : List (S30)))).bind fun t210 => ((pelotonref04_Right.f a0_0 a0_1 l0_2).bind fun t211 => (if (t210 != t211) = true then (pelotonlaw04_MatmulApplies.j1 kj3 t187 t190 t194 t197 t198 t201 bt202.1 bt202.2 true) else ((matmul_Right.f kj3 ([] : List (S30))).bind fun t212 => (pelotonlaw04_MatmulApplies.j1 kj3 t187 t190 t194 t197 t198 t201 bt202.1 bt202.2 (!t212)))))) else (pelotonlaw04_MatmulApplies.j1 kj3 t187 t190 t194 t197 t198 t201 bt202.1 bt202.2 true)))) = some r := H
   have A27 := Aside0.mk A270
   clear A270
   replace H := Option.bind_eq_some_iff.mp H
   obtain ⟨⟨t202, t205⟩, A280, H⟩ := H
   replace H : ((pelotonref04_Same.f kj3 a0_0 a0_1 y183 a0_0 a0_1 l0_2).bind fun t206 => (if t206 = true then ((matmul_Right.f kj3 (([(⟨a0_0, a0_1, l0_2⟩ : S30)] : List (S30)))).bind fun t210 => ((pelotonref04_Right.f a0_0 a0_1 l0_2).bind fun t211 => (if (t210 != t211) = true then (pelotonlaw04_MatmulApplies.j1 kj3 t187 t190 t194 t197 t198 t201 t202 t205 true) else ((matmul_Right.f kj3 ([] : List (S30))).bind fun t212 => (pelotonlaw04_MatmulApplies.j1 kj3 t187 t190 t194 t197 t198 t201 t202 t205 (!t212)))))) else (pelotonlaw04_MatmulApplies.j1 kj3 t187 t190 t194 t197 t198 t201 t202 t205 true))) = some r := H
   have A28 := Aside0.mk A280
   clear A280
   have HC29 := Aside0.mk H
   clear H
   try go_wp2
   have n0_ := Aside0.mk (Kd.V_drew HO_1.out)
   have n1_ := Aside0.mk (Kd.V_drew HO_2.out)
   have n2_ := Aside0.mk (Kd.V_drew HO_177002.out)
   have n3_ := Aside0.mk (k_d BK176.out)
   have n4_ := Aside0.mk (b_d HB.out)
   clear HO_1
   clear HO_2
   clear HO_177002
   clear BK176
   clear HB
   have HO_1 := n0_
   have HO_2 := n1_
   have HO_177002 := n2_
   have BK176 := n3_
   have HB := n4_
   clear n0_ n1_ n2_ n3_ n4_
   refine start_ (n := 11) (S := fun w' => w'.cell? ⟨gb176, 0, none⟩ = some (.int .i64 a0_0) ∧ w'.cell? ⟨gb176, 1, none⟩ = some (.int .i64 a0_1) ∧ w'.cell? ⟨gb176, 2, none⟩ = some (.slice A0_2 l0_2.length c0_2)) (ds := []) #[false, false, false, false, false, false, false, false, false, false, false] (by kernel_rfl) rfl rfl ⟨(blk_cell BK176.out 0).trans rfl, (blk_cell BK176.out 1).trans rfl, (blk_cell BK176.out 2).trans rfl⟩ (fun hHeld => ?_); refine with_tabW pelotonlaw04_MatmulApplies.tab3 pelotonlaw04_MatmulApplies.bits3 (fun HT_ HW_ => ?_)
   generalize wc.drew = w30 at HO_1 HO_2 HO_177002 BK176 HB hHeld ⊢
   refine pure_ (i := 0) (N := some 34) (v := ?_) (a' := ?_) #[true, false, false, false, false, false, false, false, false, false, false] rfl rfl (any_of HT_.out (by kernel_rfl)) (fun _ _ _ h => h) (Or.inl ⟨by rfl, ?_⟩) ?_ ?_
   rotate_left
   ·
    intro w'
    go_simp
    with_reducible rfl
   rotate_left
   ·
    simp only [Act.put, l_1, l_2, l_3, i64_w, i32_w]
    rfl
   refine pure_ (i := 2) (N := some 36) (v := ?_) (a' := ?_) #[true, false, true, false, false, false, false, false, false, false, false] rfl rfl (any_of HT_.out (by kernel_rfl)) (fun _ _ _ h => h) (Or.inl ⟨by rfl, ?_⟩) ?_ ?_
   rotate_left
   ·
    intro w'
    go_simp
    with_reducible rfl
   rotate_left
   ·
    simp only [Act.put, l_1, l_2, l_3, i64_w, i32_w]
    rfl
   refine pure_ (i := 5) (N := some 39) (v := ?_) (a' := ?_) #[true, false, true, false, false, true, false, false, false, false, false] rfl rfl (any_of HT_.out (by kernel_rfl)) (fun _ _ _ h => h) (Or.inl ⟨by rfl, ?_⟩) ?_ ?_
   rotate_left
   ·
    intro w'
    go_simp
    with_reducible rfl
   rotate_left
   ·
    simp only [Act.put, l_1, l_2, l_3, i64_w, i32_w]
    rfl
   refine take_ (i := 1) (N := some 35) (v := ?_) (a' := ?_) #[true, true, true, false, false, true, false, false, false, false, false] rfl rfl (take_ofW HT_.out HW_.out (by kernel_rfl)) (fun _ _ _ h => h) (Or.inl ⟨by rfl, ?_⟩) hHeld ?_ ?_
   rotate_left
   ·
    rintro w' ⟨s0, s1, s2⟩
    go_simp
    with_reducible rfl
   rotate_left
   ·
    simp only [Act.put, l_1, l_2, l_3, i64_w, i32_w]
    rfl
   refine take_ (i := 3) (N := some 37) (v := ?_) (a' := ?_) #[true, true, true, true, false, true, false, false, false, false, false] rfl rfl (take_ofW HT_.out HW_.out (by kernel_rfl)) (fun _ _ _ h => h) (Or.inl ⟨by rfl, ?_⟩) hHeld ?_ ?_
   rotate_left
   ·
    rintro w' ⟨s0, s1, s2⟩
    go_simp
    with_reducible rfl
   rotate_left
   ·
    simp only [Act.put, l_1, l_2, l_3, i64_w, i32_w]
    rfl
   refine take_ (i := 6) (N := some 40) (v := ?_) (a' := ?_) #[true, true, true, true, false, true, true, false, false, false, false] rfl rfl (take_ofW HT_.out HW_.out (by kernel_rfl)) (fun _ _ _ h => h) (Or.inl ⟨by rfl, ?_⟩) hHeld ?_ ?_
   rotate_left
   ·
    rintro w' ⟨s0, s1, s2⟩
    go_simp
    with_reducible rfl
   rotate_left
   ·
    simp only [Act.put, l_1, l_2, l_3, i64_w, i32_w]
    rfl
   refine join_ (σ := Value × Value × Nat) 1 #[true, true, true, true, true, true, true, true, true, true, false] (fun s_ => [(38, s_.1), (41, s_.2.1), (7, .pointer (some ⟨s_.2.2, 0, none⟩)), (42, .agg #[.int .i64 a0_0, .int .i64 a0_1, s_.2.1])]) (fun s_ w' => (w'.cell? ⟨gb176, 0, none⟩ = some (.int .i64 a0_0) ∧ w'.cell? ⟨gb176, 1, none⟩ = some (.int .i64 a0_1) ∧ w'.cell? ⟨gb176, 2, none⟩ = some (.slice A0_2 l0_2.length c0_2)) ∧ (Kd.R (Kd.int .i8) 35 w' w.heap.size (fun k_ => (w.heap.size ≤ k_)) s_.2.1 y183) ∧ (Kd.V (Kd.int .i8) 35 w' w.heap.size (fun k_ => ((P0_2_ k_ ∨ P1_ k_ ∨ P2_ k_) ∨ w.heap.size ≤ k_) ∧ some k_ ≠ (s_.2.1 : Value).ownBlock ∧ k_ ≠ gb176 ∧ k_ ≠ s_.2.2) (.slice A1 l1.length c1) l1) ∧ (Kd.V (Kd.int .i8) 35 w' w.heap.size (fun k_ => ((P0_2_ k_ ∨ P1_ k_ ∨ P2_ k_) ∨ w.heap.size ≤ k_) ∧ some k_ ≠ (s_.2.1 : Value).ownBlock ∧ k_ ≠ gb176 ∧ k_ ≠ s_.2.2) (.slice A0_2 l0_2.length c0_2) l0_2) ∧ (Kd.V (Kd.int .i8) 35 w' w.heap.size (fun k_ => ((P0_2_ k_ ∨ P1_ k_ ∨ P2_ k_) ∨ w.heap.size ≤ k_) ∧ some k_ ≠ (s_.2.1 : Value).ownBlock ∧ k_ ≠ gb176 ∧ k_ ≠ s_.2.2) (.slice A2 l2.length c2) l2) ∧ (w'.heap[gb176]? = some (.cells #[.int .i64 a0_0, .int .i64 a0_1, .slice A0_2 l0_2.length c0_2] 30 (0, 0))) ∧ (w'.heap[s_.2.2]? = some (.cells #[.int .i64 0, .int .i64 0, .slice none 0 0] 30 (0, 0))) ∧ (w.heap.size ≤ s_.2.2) ∧ (w.heap.size ≤ s_.2.2) ∧ (gb176 ≠ s_.2.2) ∧ (s_.2.2 ≠ gb176) ∧ (Below w.heap.size w w')) ?_ ?_
   rotate_left
   ·
    intro hCont
    refine two_ (i := 4) (j := 9) (Ni := some 38) (Nj := some 7) #[true, true, true, true, true, true, true, false, false, false, false] #[true, true, true, true, false, true, true, false, false, true, false] rfl rfl rfl rfl (two_of HT_.out (by kernel_rfl)) (by decide) (by decide) (fun K hK => ?_) (fun K hK => ?_)
    ·
     skip
     refine Kd.R_lit_step (Kd.int .i8) _ 35 ?hg (N := 38) ?hd (xs := ([] : List Int)) (inner := []) (ok := fun _ => True) (okp := fun _ => True) ?hr ?hp (fun _ hk => hk) trivial (Below.refl _ _) (Nat.le_refl _) (by simp) ?_; (case hd => rfl); (case hg => rfl); (case hr => first | (go_simp; done) | (go_simp; rfl)); (case hp => exact (Reps.none _ _))
     intro v181 w31 ho32 hb hg_ hnew_
     clear hg_ hnew_
     (first | rw [← Ny180.out] at ho32 | (simp only [Int.reduceToNat] at ho32; rw [← Ny180.out] at ho32))
     have n0_ := Aside0.mk (Kd.V_elder' (by (with_reducible repeat (first | apply Kd.V_alloc | apply Kd.V_drewN | apply Kd.V_drew)); exact HO_1.out) (Kd.R_base ho32) hb)
     have n1_ := Aside0.mk (Kd.V_elder' (by (with_reducible repeat (first | apply Kd.V_alloc | apply Kd.V_drewN | apply Kd.V_drew)); exact HO_2.out) (Kd.R_base ho32) hb)
     have n2_ := Aside0.mk (Kd.V_elder' (by (with_reducible repeat (first | apply Kd.V_alloc | apply Kd.V_drewN | apply Kd.V_drew)); exact HO_177002.out) (Kd.R_base ho32) hb)
     have n3_ := Aside0.mk (Kd.R_lower (Kd.R_newM (M := fun k_ => (w.heap.size ≤ k_)) ho32 (below_size (by repeat (first | (with_reducible first | exact HB.out | apply b_a | apply b_n | apply b_d | refine b_s ?_ GE176.out) | exact HB.out))) (fun k_ h_ => h_)) (below_size (by repeat (first | (with_reducible first | exact HB.out | apply b_a | apply b_n | apply b_d | refine b_s ?_ GE176.out) | exact HB.out))))
     have n4_ := Aside0.mk (blk_below (g := gb176) (o := .cells #[.int .i64 a0_0, .int .i64 a0_1, .slice A0_2 l0_2.length c0_2] 30 (0, 0)) (by (with_reducible repeat (first | refine k_n ?_ _ | refine k_d ?_ | refine k_a ?_ _)); exact BK176.out) hb)
     have n5_ := Aside0.mk (below_step (by repeat (first | (with_reducible first | exact HB.out | apply b_a | apply b_n | apply b_d | refine b_s ?_ GE176.out) | exact HB.out)) hb)
     clear HO_1
     clear HO_2
     clear HO_177002
     clear BK176
     clear HB
     have HO_1 := n0_
     have HO_2 := n1_
     have HO_177002 := n2_
     have HO182 := n3_
     have BK176 := n4_
     have HB := n5_
     clear n0_ n1_ n2_ n3_ n4_ n5_
     clear hb ho32
     refine hK.out _ _ ⟨(blk_cell BK176.out 0).trans rfl, (blk_cell BK176.out 1).trans rfl, (blk_cell BK176.out 2).trans rfl⟩ (fun hHeld => ?_)
     clear hK K
     refine norm_ (a' := ?_) ?_ ?_
     rotate_left
     ·
      show Act.put _ (some 38) _ = _
      simp only [Act.put, l_1, l_2, l_3, i64_w, i32_w]
      rfl
     refine two_ (i := 7) (j := 9) (Ni := some 41) (Nj := some 7) #[true, true, true, true, true, true, true, true, false, false, false] #[true, true, true, true, true, true, true, false, false, true, false] rfl rfl rfl rfl (two_of HT_.out (by kernel_rfl)) (by decide) (by decide) (fun K hK => ?_) (fun K hK => ?_)
     ·
      skip
      refine Kd.R_append_rows_step (Kd.int .i8) (w0 := w) w.heap.size (by rfl) (.tmp 38) (.tmp 40) 28 35 (.int .i8 0) 1 rfl Try.underlying28 info35 rfl (by decide) (by omega) v181 y180 l0_2 _ _ _ (fun k_ => (w.heap.size ≤ k_)) (fun _ => False) rfl rfl ?aO ?aR (fun _ _ h => h) (fun _ h => h.elim) ?aF ?aB ?aS ?aL ?_
      (case aR => repeat (first | exact (Kd.V_reads' HO_177002.out).2.2 | (with_reducible refine Kd.C_alloc ?_ _) | (with_reducible refine Kd.C_drewN ?_ _) | (with_reducible refine Kd.C_drew ?_)))
      (case aB => exact (by repeat (first | (with_reducible first | exact HB.out | apply b_a | apply b_n | apply b_d | refine b_s ?_ GE176.out) | exact HB.out)))
      (case aF => exact (fun k_ hk => (Nat.le_trans (below_size (by repeat (first | (with_reducible first | exact HB.out | apply b_a | apply b_n | apply b_d | refine b_s ?_ GE176.out) | exact HB.out))) hk)))
      (case aO => exact (by (with_reducible repeat (first | apply Kd.R_alloc | apply Kd.R_drewN | apply Kd.R_drew)); exact Kd.R_mono HO182.out (fun _ hk => hk.1)))
      (case aS => exact (below_size (by repeat (first | (with_reducible first | exact HB.out | apply b_a | apply b_n | apply b_d | refine b_s ?_ GE176.out) | exact HB.out))))
      (case aL => have := LMc24.out; omega)
      intro v184 w33 ho hb hg hat
      rw [← Ny183.out] at ho
      have n0_ := Aside0.mk (Kd.V_afterv (ok := (fun k_ => ((P0_2_ k_ ∨ P1_ k_ ∨ P2_ k_) ∨ w.heap.size ≤ k_) ∧ k_ ≠ gb176)) (by (with_reducible repeat (first | apply Kd.V_alloc | apply Kd.V_drewN | apply Kd.V_drew)); exact HO_1.out) hg hat)
      have n1_ := Aside0.mk (Kd.V_afterv (ok := (fun k_ => ((P0_2_ k_ ∨ P1_ k_ ∨ P2_ k_) ∨ w.heap.size ≤ k_) ∧ k_ ≠ gb176)) (by (with_reducible repeat (first | apply Kd.V_alloc | apply Kd.V_drewN | apply Kd.V_drew)); exact HO_2.out) hg hat)
      have n2_ := Aside0.mk (Kd.V_afterv (ok := (fun k_ => ((P0_2_ k_ ∨ P1_ k_ ∨ P2_ k_) ∨ w.heap.size ≤ k_) ∧ k_ ≠ gb176)) (by (with_reducible repeat (first | apply Kd.V_alloc | apply Kd.V_drewN | apply Kd.V_drew)); exact HO_177002.out) hg hat)
      have n3_ := Aside0.mk (blk_grown (g := gb176) (o := .cells #[.int .i64 a0_0, .int .i64 a0_1, .slice A0_2 l0_2.length c0_2] 30 (0, 0)) (by (with_reducible repeat (first | refine k_n ?_ _ | refine k_d ?_ | refine k_a ?_ _)); exact BK176.out) hg (Kd.R_ne HO182.out BK176.out (by decide)))
      have n4_ := Aside0.mk (hb)
      have n5_ := Aside0.mk (ho)
      clear HO_1
      clear HO_2
      clear HO_177002
      clear BK176
      clear HB
      clear HO182
      have HO_1 := n0_
      have HO_2 := n1_
      have HO_177002 := n2_
      have BK176 := n3_
      have HB := n4_
      have HO185 := n5_
      clear n0_ n1_ n2_ n3_ n4_ n5_
      clear ho hb hg hat
      obtain ⟨Ao34, co34, eo34⟩ := Kd.R_slice HO185.out
      (first | subst eo34 | (injection eo34 with f1_ f2_ f3_; have f4_ := f1_.symm; have f5_ := f3_.symm; clear f1_ f2_ f3_; subst f4_; subst f5_))
      refine hK.out _ _ ⟨(blk_cell BK176.out 0).trans rfl, (blk_cell BK176.out 1).trans rfl, (blk_cell BK176.out 2).trans rfl⟩ (fun hHeld => ?_)
      clear hK K
      refine norm_ (a' := ?_) ?_ ?_
      rotate_left
      ·
       show Act.put _ (some 41) _ = _
       simp only [Act.put, l_1, l_2, l_3, i64_w, i32_w]
       rfl
      refine pure_ (i := 8) (N := some 42) (v := ?_) (a' := ?_) #[true, true, true, true, true, true, true, true, true, false, false] rfl rfl (any_of HT_.out (by kernel_rfl)) (fun _ _ _ h => h) (Or.inl ⟨by rfl, ?_⟩) ?_ ?_
      rotate_left
      ·
       intro w'
       go_simp
       with_reducible rfl
      rotate_left
      ·
       simp only [Act.put, l_1, l_2, l_3, i64_w, i32_w]
       rfl
      refine one_ (i := 9) (N := some 7) #[true, true, true, true, true, true, true, true, true, true, false] rfl rfl (one_of HT_.out (by kernel_rfl)) (by decide) (fun K hK => ?_)
      refine box_step ?hg (N := 7) ?hd (cs := #[.int .i64 0, .int .i64 0, .slice none 0 0]) (t := 30) ?hr ?_; (case hd => rfl); (case hg => rfl); (case hr => first | (go_simp; done) | (go_simp; rfl))
      intro gb186 hg w35 hbox hb
      have n0_ := Aside0.mk (Kd.V_below (Kd.V_elderB (by (with_reducible repeat (first | apply Kd.V_alloc | apply Kd.V_drewN | apply Kd.V_drew)); exact HO_1.out) gb186 (Nat.le_of_eq hg.symm)) hb)
      have n1_ := Aside0.mk (Kd.V_below (Kd.V_elderB (by (with_reducible repeat (first | apply Kd.V_alloc | apply Kd.V_drewN | apply Kd.V_drew)); exact HO_2.out) gb186 (Nat.le_of_eq hg.symm)) hb)
      have n2_ := Aside0.mk (Kd.V_below (Kd.V_elderB (by (with_reducible repeat (first | apply Kd.V_alloc | apply Kd.V_drewN | apply Kd.V_drew)); exact HO_177002.out) gb186 (Nat.le_of_eq hg.symm)) hb)
      have n3_ := Aside0.mk (Kd.R_below (by (with_reducible repeat (first | apply Kd.R_alloc | apply Kd.R_drewN | apply Kd.R_drew)); exact HO185.out) hb)
      have n4_ := Aside0.mk (blk_below (g := gb176) (o := .cells #[.int .i64 a0_0, .int .i64 a0_1, .slice A0_2 l0_2.length c0_2] 30 (0, 0)) (by (with_reducible repeat (first | refine k_n ?_ _ | refine k_d ?_ | refine k_a ?_ _)); exact BK176.out) hb)
      have n5_ := Aside0.mk (below_step (by repeat (first | (with_reducible first | exact HB.out | apply b_a | apply b_n | apply b_d | refine b_s ?_ GE176.out) | exact HB.out)) hb)
      have n6_ := Aside0.mk (hbox)
      have n7_ := Aside0.mk ((by rw [hg]; exact (below_size (by repeat (first | (with_reducible first | exact HB.out | apply b_a | apply b_n | apply b_d | refine b_s ?_ GE176.out) | exact HB.out))) : w.heap.size ≤ gb186))
      have n8_ := Aside0.mk ((by rw [hg]; exact (below_size (by repeat (first | (with_reducible first | exact HB.out | apply b_a | apply b_n | apply b_d | refine b_s ?_ GE176.out) | exact HB.out))) : w.heap.size ≤ gb186))
      have n9_ := Aside0.mk ((by rw [hg]; exact Nat.ne_of_lt (blk_lt (g := gb176) (o := .cells #[.int .i64 a0_0, .int .i64 a0_1, .slice A0_2 l0_2.length c0_2] 30 (0, 0)) (by (with_reducible repeat (first | refine k_n ?_ _ | refine k_d ?_ | refine k_a ?_ _)); exact BK176.out)) : gb176 ≠ gb186))
      have n10_ := Aside0.mk ((by rw [hg]; exact Nat.ne_of_gt (blk_lt (g := gb176) (o := .cells #[.int .i64 a0_0, .int .i64 a0_1, .slice A0_2 l0_2.length c0_2] 30 (0, 0)) (by (with_reducible repeat (first | refine k_n ?_ _ | refine k_d ?_ | refine k_a ?_ _)); exact BK176.out)) : gb186 ≠ gb176))
      clear HO_1
      clear HO_2
      clear HO_177002
      clear HO185
      clear BK176
      clear HB
      have HO_1 := n0_
      have HO_2 := n1_
      have HO_177002 := n2_
      have HO185 := n3_
      have BK176 := n4_
      have HB := n5_
      have BK186 := n6_
      have GW186 := n7_
      have GE186 := n8_
      have NB176_186 := n9_
      have NB186_176 := n10_
      clear n0_ n1_ n2_ n3_ n4_ n5_ n6_ n7_ n8_ n9_ n10_
      clear hb hbox hg
      refine hK.out _ _ ⟨(blk_cell BK176.out 0).trans rfl, (blk_cell BK176.out 1).trans rfl, (blk_cell BK176.out 2).trans rfl⟩ (fun hHeld => ?_)
      clear hK K
      refine norm_ (a' := ?_) ?_ ?_
      rotate_left
      ·
       show Act.put _ (some 7) _ = _
       simp only [Act.put, l_1, l_2, l_3, i64_w, i32_w]
       rfl
      exact norm_ (by simp only [putAll, Act.put, l_1, l_2, l_3]) (hCont (v181, .slice Ao34 y183.length co34, gb186) _ ⟨hHeld, (by (with_reducible repeat (first | apply Kd.R_alloc | apply Kd.R_drewN | apply Kd.R_drew)); exact HO185.out), (by (with_reducible repeat (first | apply Kd.V_alloc | apply Kd.V_drewN | apply Kd.V_drew)); exact Kd.V_mono HO_1.out (fun _ hk => ⟨hk.1.1.1, ⟨hk.1.2, ⟨hk.1.1.2, hk.2⟩⟩⟩)), (by (with_reducible repeat (first | apply Kd.V_alloc | apply Kd.V_drewN | apply Kd.V_drew)); exact Kd.V_mono HO_177002.out (fun _ hk => ⟨hk.1.1.1, ⟨hk.1.2, ⟨hk.1.1.2, hk.2⟩⟩⟩)), (by (with_reducible repeat (first | apply Kd.V_alloc | apply Kd.V_drewN | apply Kd.V_drew)); exact Kd.V_mono HO_2.out (fun _ hk => ⟨hk.1.1.1, ⟨hk.1.2, ⟨hk.1.1.2, hk.2⟩⟩⟩)), (by (with_reducible repeat (first | refine k_n ?_ _ | refine k_d ?_ | refine k_a ?_ _)); exact BK176.out), (by (with_reducible repeat (first | refine k_n ?_ _ | refine k_d ?_ | refine k_a ?_ _)); exact BK186.out), GW186.out, GE186.out, NB176_186.out, NB186_176.out, (by repeat (first | (with_reducible first | exact HB.out | apply b_a | apply b_n | apply b_d | refine b_s ?_ GE176.out | refine b_s ?_ GE186.out) | exact HB.out))⟩)
     ·
      skip
      refine box_step ?hg (N := 7) ?hd (cs := #[.int .i64 0, .int .i64 0, .slice none 0 0]) (t := 30) ?hr ?_; (case hd => rfl); (case hg => rfl); (case hr => first | (go_simp; done) | (go_simp; rfl))
      intro gb186 hg w33 hbox hb
      have n0_ := Aside0.mk (Kd.V_below (Kd.V_elderB (by (with_reducible repeat (first | apply Kd.V_alloc | apply Kd.V_drewN | apply Kd.V_drew)); exact HO_1.out) gb186 (Nat.le_of_eq hg.symm)) hb)
      have n1_ := Aside0.mk (Kd.V_below (Kd.V_elderB (by (with_reducible repeat (first | apply Kd.V_alloc | apply Kd.V_drewN | apply Kd.V_drew)); exact HO_2.out) gb186 (Nat.le_of_eq hg.symm)) hb)
      have n2_ := Aside0.mk (Kd.V_below (Kd.V_elderB (by (with_reducible repeat (first | apply Kd.V_alloc | apply Kd.V_drewN | apply Kd.V_drew)); exact HO_177002.out) gb186 (Nat.le_of_eq hg.symm)) hb)
      have n3_ := Aside0.mk (Kd.R_below (by (with_reducible repeat (first | apply Kd.R_alloc | apply Kd.R_drewN | apply Kd.R_drew)); exact HO182.out) hb)
      have n4_ := Aside0.mk (blk_below (g := gb176) (o := .cells #[.int .i64 a0_0, .int .i64 a0_1, .slice A0_2 l0_2.length c0_2] 30 (0, 0)) (by (with_reducible repeat (first | refine k_n ?_ _ | refine k_d ?_ | refine k_a ?_ _)); exact BK176.out) hb)
      have n5_ := Aside0.mk (below_step (by repeat (first | (with_reducible first | exact HB.out | apply b_a | apply b_n | apply b_d | refine b_s ?_ GE176.out) | exact HB.out)) hb)
      have n6_ := Aside0.mk (hbox)
      have n7_ := Aside0.mk ((by rw [hg]; exact (below_size (by repeat (first | (with_reducible first | exact HB.out | apply b_a | apply b_n | apply b_d | refine b_s ?_ GE176.out) | exact HB.out))) : w.heap.size ≤ gb186))
      have n8_ := Aside0.mk ((by rw [hg]; exact (below_size (by repeat (first | (with_reducible first | exact HB.out | apply b_a | apply b_n | apply b_d | refine b_s ?_ GE176.out) | exact HB.out))) : w.heap.size ≤ gb186))
      have n9_ := Aside0.mk ((by rw [hg]; exact Nat.ne_of_lt (blk_lt (g := gb176) (o := .cells #[.int .i64 a0_0, .int .i64 a0_1, .slice A0_2 l0_2.length c0_2] 30 (0, 0)) (by (with_reducible repeat (first | refine k_n ?_ _ | refine k_d ?_ | refine k_a ?_ _)); exact BK176.out)) : gb176 ≠ gb186))
      have n10_ := Aside0.mk ((by rw [hg]; exact Nat.ne_of_gt (blk_lt (g := gb176) (o := .cells #[.int .i64 a0_0, .int .i64 a0_1, .slice A0_2 l0_2.length c0_2] 30 (0, 0)) (by (with_reducible repeat (first | refine k_n ?_ _ | refine k_d ?_ | refine k_a ?_ _)); exact BK176.out)) : gb186 ≠ gb176))
      clear HO_1
      clear HO_2
      clear HO_177002
      clear HO182
      clear BK176
      clear HB
      have HO_1 := n0_
      have HO_2 := n1_
      have HO_177002 := n2_
      have HO182 := n3_
      have BK176 := n4_
      have HB := n5_
      have BK186 := n6_
      have GW186 := n7_
      have GE186 := n8_
      have NB176_186 := n9_
      have NB186_176 := n10_
      clear n0_ n1_ n2_ n3_ n4_ n5_ n6_ n7_ n8_ n9_ n10_
      clear hb hbox hg
      refine hK.out _ _ ⟨(blk_cell BK176.out 0).trans rfl, (blk_cell BK176.out 1).trans rfl, (blk_cell BK176.out 2).trans rfl⟩ (fun hHeld => ?_)
      clear hK K
      refine norm_ (a' := ?_) ?_ ?_
      rotate_left
      ·
       show Act.put _ (some 7) _ = _
       simp only [Act.put, l_1, l_2, l_3, i64_w, i32_w]
       rfl
      refine one_ (i := 7) (N := some 41) #[true, true, true, true, true, true, true, true, false, true, false] rfl rfl (one_of HT_.out (by kernel_rfl)) (by decide) (fun K hK => ?_)
      refine Kd.R_append_rows_step (Kd.int .i8) (w0 := w) w.heap.size (by rfl) (.tmp 38) (.tmp 40) 28 35 (.int .i8 0) 1 rfl Try.underlying28 info35 rfl (by decide) (by omega) v181 y180 l0_2 _ _ _ (fun k_ => (w.heap.size ≤ k_)) (fun _ => False) rfl rfl ?aO ?aR (fun _ _ h => h) (fun _ h => h.elim) ?aF ?aB ?aS ?aL ?_
      (case aR => repeat (first | exact (Kd.V_reads' HO_177002.out).2.2 | (with_reducible refine Kd.C_alloc ?_ _) | (with_reducible refine Kd.C_drewN ?_ _) | (with_reducible refine Kd.C_drew ?_)))
      (case aB => exact (by repeat (first | (with_reducible first | exact HB.out | apply b_a | apply b_n | apply b_d | refine b_s ?_ GE176.out | refine b_s ?_ GE186.out) | exact HB.out)))
      (case aF => exact (fun k_ hk => (Nat.le_trans (below_size (by repeat (first | (with_reducible first | exact HB.out | apply b_a | apply b_n | apply b_d | refine b_s ?_ GE176.out | refine b_s ?_ GE186.out) | exact HB.out))) hk)))
      (case aO => exact (by (with_reducible repeat (first | apply Kd.R_alloc | apply Kd.R_drewN | apply Kd.R_drew)); exact Kd.R_mono HO182.out (fun _ hk => hk.1)))
      (case aS => exact (below_size (by repeat (first | (with_reducible first | exact HB.out | apply b_a | apply b_n | apply b_d | refine b_s ?_ GE176.out | refine b_s ?_ GE186.out) | exact HB.out))))
      (case aL => have := LMc24.out; omega)
      intro v184 w34 ho hb hg hat
      rw [← Ny183.out] at ho
      have n0_ := Aside0.mk (Kd.V_afterv (ok := (fun k_ => ((P0_2_ k_ ∨ P1_ k_ ∨ P2_ k_) ∨ w.heap.size ≤ k_) ∧ k_ ≠ gb176 ∧ k_ ≠ gb186)) (by (with_reducible repeat (first | apply Kd.V_alloc | apply Kd.V_drewN | apply Kd.V_drew)); exact Kd.V_mono HO_1.out (fun _ hk => ⟨⟨hk.1.1.1, ⟨hk.1.1.2, hk.2⟩⟩, hk.1.2⟩)) hg hat)
      have n1_ := Aside0.mk (Kd.V_afterv (ok := (fun k_ => ((P0_2_ k_ ∨ P1_ k_ ∨ P2_ k_) ∨ w.heap.size ≤ k_) ∧ k_ ≠ gb176 ∧ k_ ≠ gb186)) (by (with_reducible repeat (first | apply Kd.V_alloc | apply Kd.V_drewN | apply Kd.V_drew)); exact Kd.V_mono HO_2.out (fun _ hk => ⟨⟨hk.1.1.1, ⟨hk.1.1.2, hk.2⟩⟩, hk.1.2⟩)) hg hat)
      have n2_ := Aside0.mk (Kd.V_afterv (ok := (fun k_ => ((P0_2_ k_ ∨ P1_ k_ ∨ P2_ k_) ∨ w.heap.size ≤ k_) ∧ k_ ≠ gb176 ∧ k_ ≠ gb186)) (by (with_reducible repeat (first | apply Kd.V_alloc | apply Kd.V_drewN | apply Kd.V_drew)); exact Kd.V_mono HO_177002.out (fun _ hk => ⟨⟨hk.1.1.1, ⟨hk.1.1.2, hk.2⟩⟩, hk.1.2⟩)) hg hat)
      have n3_ := Aside0.mk (blk_grown (g := gb176) (o := .cells #[.int .i64 a0_0, .int .i64 a0_1, .slice A0_2 l0_2.length c0_2] 30 (0, 0)) (by (with_reducible repeat (first | refine k_n ?_ _ | refine k_d ?_ | refine k_a ?_ _)); exact BK176.out) hg (Kd.R_ne HO182.out BK176.out (by decide)))
      have n4_ := Aside0.mk (blk_grown (g := gb186) (o := .cells #[.int .i64 0, .int .i64 0, .slice none 0 0] 30 (0, 0)) (by (with_reducible repeat (first | refine k_n ?_ _ | refine k_d ?_ | refine k_a ?_ _)); exact BK186.out) hg (Kd.R_ne HO182.out BK186.out (by decide)))
      have n5_ := Aside0.mk (hb)
      have n6_ := Aside0.mk (ho)
      clear HO_1
      clear HO_2
      clear HO_177002
      clear BK176
      clear BK186
      clear HB
      clear HO182
      have HO_1 := n0_
      have HO_2 := n1_
      have HO_177002 := n2_
      have BK176 := n3_
      have BK186 := n4_
      have HB := n5_
      have HO185 := n6_
      clear n0_ n1_ n2_ n3_ n4_ n5_ n6_
      clear ho hb hg hat
      obtain ⟨Ao35, co35, eo35⟩ := Kd.R_slice HO185.out
      (first | subst eo35 | (injection eo35 with f1_ f2_ f3_; have f4_ := f1_.symm; have f5_ := f3_.symm; clear f1_ f2_ f3_; subst f4_; subst f5_))
      refine hK.out _ _ ⟨(blk_cell BK176.out 0).trans rfl, (blk_cell BK176.out 1).trans rfl, (blk_cell BK176.out 2).trans rfl⟩ (fun hHeld => ?_)
      clear hK K
      refine norm_ (a' := ?_) ?_ ?_
      rotate_left
      ·
       show Act.put _ (some 41) _ = _
       simp only [Act.put, l_1, l_2, l_3, i64_w, i32_w]
       rfl
      refine pure_ (i := 8) (N := some 42) (v := ?_) (a' := ?_) #[true, true, true, true, true, true, true, true, true, true, false] rfl rfl (any_of HT_.out (by kernel_rfl)) (fun _ _ _ h => h) (Or.inl ⟨by rfl, ?_⟩) ?_ ?_
      rotate_left
      ·
       intro w'
       go_simp
       with_reducible rfl
      rotate_left
      ·
       simp only [Act.put, l_1, l_2, l_3, i64_w, i32_w]
       rfl
      exact norm_ (by simp only [putAll, Act.put, l_1, l_2, l_3]) (hCont (v181, .slice Ao35 y183.length co35, gb186) _ ⟨hHeld, (by (with_reducible repeat (first | apply Kd.R_alloc | apply Kd.R_drewN | apply Kd.R_drew)); exact HO185.out), (by (with_reducible repeat (first | apply Kd.V_alloc | apply Kd.V_drewN | apply Kd.V_drew)); exact Kd.V_mono HO_1.out (fun _ hk => ⟨hk.1.1, ⟨hk.2, ⟨hk.1.2.1, hk.1.2.2⟩⟩⟩)), (by (with_reducible repeat (first | apply Kd.V_alloc | apply Kd.V_drewN | apply Kd.V_drew)); exact Kd.V_mono HO_177002.out (fun _ hk => ⟨hk.1.1, ⟨hk.2, ⟨hk.1.2.1, hk.1.2.2⟩⟩⟩)), (by (with_reducible repeat (first | apply Kd.V_alloc | apply Kd.V_drewN | apply Kd.V_drew)); exact Kd.V_mono HO_2.out (fun _ hk => ⟨hk.1.1, ⟨hk.2, ⟨hk.1.2.1, hk.1.2.2⟩⟩⟩)), (by (with_reducible repeat (first | refine k_n ?_ _ | refine k_d ?_ | refine k_a ?_ _)); exact BK176.out), (by (with_reducible repeat (first | refine k_n ?_ _ | refine k_d ?_ | refine k_a ?_ _)); exact BK186.out), GW186.out, GE186.out, NB176_186.out, NB186_176.out, (by repeat (first | (with_reducible first | exact HB.out | apply b_a | apply b_n | apply b_d | refine b_s ?_ GE176.out | refine b_s ?_ GE186.out) | exact HB.out))⟩)
    ·
     skip
     refine box_step ?hg (N := 7) ?hd (cs := #[.int .i64 0, .int .i64 0, .slice none 0 0]) (t := 30) ?hr ?_; (case hd => rfl); (case hg => rfl); (case hr => first | (go_simp; done) | (go_simp; rfl))
     intro gb186 hg w31 hbox hb
     have n0_ := Aside0.mk (Kd.V_below (Kd.V_elderB (by (with_reducible repeat (first | apply Kd.V_alloc | apply Kd.V_drewN | apply Kd.V_drew)); exact HO_1.out) gb186 (Nat.le_of_eq hg.symm)) hb)
     have n1_ := Aside0.mk (Kd.V_below (Kd.V_elderB (by (with_reducible repeat (first | apply Kd.V_alloc | apply Kd.V_drewN | apply Kd.V_drew)); exact HO_2.out) gb186 (Nat.le_of_eq hg.symm)) hb)
     have n2_ := Aside0.mk (Kd.V_below (Kd.V_elderB (by (with_reducible repeat (first | apply Kd.V_alloc | apply Kd.V_drewN | apply Kd.V_drew)); exact HO_177002.out) gb186 (Nat.le_of_eq hg.symm)) hb)
     have n3_ := Aside0.mk (blk_below (g := gb176) (o := .cells #[.int .i64 a0_0, .int .i64 a0_1, .slice A0_2 l0_2.length c0_2] 30 (0, 0)) (by (with_reducible repeat (first | refine k_n ?_ _ | refine k_d ?_ | refine k_a ?_ _)); exact BK176.out) hb)
     have n4_ := Aside0.mk (below_step (by repeat (first | (with_reducible first | exact HB.out | apply b_a | apply b_n | apply b_d | refine b_s ?_ GE176.out) | exact HB.out)) hb)
     have n5_ := Aside0.mk (hbox)
     have n6_ := Aside0.mk ((by rw [hg]; exact (below_size (by repeat (first | (with_reducible first | exact HB.out | apply b_a | apply b_n | apply b_d | refine b_s ?_ GE176.out) | exact HB.out))) : w.heap.size ≤ gb186))
     have n7_ := Aside0.mk ((by rw [hg]; exact (below_size (by repeat (first | (with_reducible first | exact HB.out | apply b_a | apply b_n | apply b_d | refine b_s ?_ GE176.out) | exact HB.out))) : w.heap.size ≤ gb186))
     have n8_ := Aside0.mk ((by rw [hg]; exact Nat.ne_of_lt (blk_lt (g := gb176) (o := .cells #[.int .i64 a0_0, .int .i64 a0_1, .slice A0_2 l0_2.length c0_2] 30 (0, 0)) (by (with_reducible repeat (first | refine k_n ?_ _ | refine k_d ?_ | refine k_a ?_ _)); exact BK176.out)) : gb176 ≠ gb186))
     have n9_ := Aside0.mk ((by rw [hg]; exact Nat.ne_of_gt (blk_lt (g := gb176) (o := .cells #[.int .i64 a0_0, .int .i64 a0_1, .slice A0_2 l0_2.length c0_2] 30 (0, 0)) (by (with_reducible repeat (first | refine k_n ?_ _ | refine k_d ?_ | refine k_a ?_ _)); exact BK176.out)) : gb186 ≠ gb176))
     clear HO_1
     clear HO_2
     clear HO_177002
     clear BK176
     clear HB
     have HO_1 := n0_
     have HO_2 := n1_
     have HO_177002 := n2_
     have BK176 := n3_
     have HB := n4_
     have BK186 := n5_
     have GW186 := n6_
     have GE186 := n7_
     have NB176_186 := n8_
     have NB186_176 := n9_
     clear n0_ n1_ n2_ n3_ n4_ n5_ n6_ n7_ n8_ n9_
     clear hb hbox hg
     refine hK.out _ _ ⟨(blk_cell BK176.out 0).trans rfl, (blk_cell BK176.out 1).trans rfl, (blk_cell BK176.out 2).trans rfl⟩ (fun hHeld => ?_)
     clear hK K
     refine norm_ (a' := ?_) ?_ ?_
     rotate_left
     ·
      show Act.put _ (some 7) _ = _
      simp only [Act.put, l_1, l_2, l_3, i64_w, i32_w]
      rfl
     refine one_ (i := 4) (N := some 38) #[true, true, true, true, true, true, true, false, false, true, false] rfl rfl (one_of HT_.out (by kernel_rfl)) (by decide) (fun K hK => ?_)
     refine Kd.R_lit_step (Kd.int .i8) _ 35 ?hg (N := 38) ?hd (xs := ([] : List Int)) (inner := []) (ok := fun _ => True) (okp := fun _ => True) ?hr ?hp (fun _ hk => hk) trivial (Below.refl _ _) (Nat.le_refl _) (by simp) ?_; (case hd => rfl); (case hg => rfl); (case hr => first | (go_simp; done) | (go_simp; rfl)); (case hp => exact (Reps.none _ _))
     intro v181 w32 ho33 hb hg_ hnew_
     clear hg_ hnew_
     (first | rw [← Ny180.out] at ho33 | (simp only [Int.reduceToNat] at ho33; rw [← Ny180.out] at ho33))
     have n0_ := Aside0.mk (Kd.V_elder' (by (with_reducible repeat (first | apply Kd.V_alloc | apply Kd.V_drewN | apply Kd.V_drew)); exact HO_1.out) (Kd.R_base ho33) hb)
     have n1_ := Aside0.mk (Kd.V_elder' (by (with_reducible repeat (first | apply Kd.V_alloc | apply Kd.V_drewN | apply Kd.V_drew)); exact HO_2.out) (Kd.R_base ho33) hb)
     have n2_ := Aside0.mk (Kd.V_elder' (by (with_reducible repeat (first | apply Kd.V_alloc | apply Kd.V_drewN | apply Kd.V_drew)); exact HO_177002.out) (Kd.R_base ho33) hb)
     have n3_ := Aside0.mk (Kd.R_lower (Kd.R_newM (M := fun k_ => (w.heap.size ≤ k_)) ho33 (below_size (by repeat (first | (with_reducible first | exact HB.out | apply b_a | apply b_n | apply b_d | refine b_s ?_ GE176.out | refine b_s ?_ GE186.out) | exact HB.out))) (fun k_ h_ => h_)) (below_size (by repeat (first | (with_reducible first | exact HB.out | apply b_a | apply b_n | apply b_d | refine b_s ?_ GE176.out | refine b_s ?_ GE186.out) | exact HB.out))))
     have n4_ := Aside0.mk (blk_below (g := gb176) (o := .cells #[.int .i64 a0_0, .int .i64 a0_1, .slice A0_2 l0_2.length c0_2] 30 (0, 0)) (by (with_reducible repeat (first | refine k_n ?_ _ | refine k_d ?_ | refine k_a ?_ _)); exact BK176.out) hb)
     have n5_ := Aside0.mk (blk_below (g := gb186) (o := .cells #[.int .i64 0, .int .i64 0, .slice none 0 0] 30 (0, 0)) (by (with_reducible repeat (first | refine k_n ?_ _ | refine k_d ?_ | refine k_a ?_ _)); exact BK186.out) hb)
     have n6_ := Aside0.mk (below_step (by repeat (first | (with_reducible first | exact HB.out | apply b_a | apply b_n | apply b_d | refine b_s ?_ GE176.out | refine b_s ?_ GE186.out) | exact HB.out)) hb)
     clear HO_1
     clear HO_2
     clear HO_177002
     clear BK176
     clear BK186
     clear HB
     have HO_1 := n0_
     have HO_2 := n1_
     have HO_177002 := n2_
     have HO182 := n3_
     have BK176 := n4_
     have BK186 := n5_
     have HB := n6_
     clear n0_ n1_ n2_ n3_ n4_ n5_ n6_
     clear hb ho33
     refine hK.out _ _ ⟨(blk_cell BK176.out 0).trans rfl, (blk_cell BK176.out 1).trans rfl, (blk_cell BK176.out 2).trans rfl⟩ (fun hHeld => ?_)
     clear hK K
     refine norm_ (a' := ?_) ?_ ?_
     rotate_left
     ·
      show Act.put _ (some 38) _ = _
      simp only [Act.put, l_1, l_2, l_3, i64_w, i32_w]
      rfl
     refine one_ (i := 7) (N := some 41) #[true, true, true, true, true, true, true, true, false, true, false] rfl rfl (one_of HT_.out (by kernel_rfl)) (by decide) (fun K hK => ?_)
     refine Kd.R_append_rows_step (Kd.int .i8) (w0 := w) w.heap.size (by rfl) (.tmp 38) (.tmp 40) 28 35 (.int .i8 0) 1 rfl Try.underlying28 info35 rfl (by decide) (by omega) v181 y180 l0_2 _ _ _ (fun k_ => (w.heap.size ≤ k_)) (fun _ => False) rfl rfl ?aO ?aR (fun _ _ h => h) (fun _ h => h.elim) ?aF ?aB ?aS ?aL ?_
     (case aR => repeat (first | exact (Kd.V_reads' HO_177002.out).2.2 | (with_reducible refine Kd.C_alloc ?_ _) | (with_reducible refine Kd.C_drewN ?_ _) | (with_reducible refine Kd.C_drew ?_)))
     (case aB => exact (by repeat (first | (with_reducible first | exact HB.out | apply b_a | apply b_n | apply b_d | refine b_s ?_ GE176.out | refine b_s ?_ GE186.out) | exact HB.out)))
     (case aF => exact (fun k_ hk => (Nat.le_trans (below_size (by repeat (first | (with_reducible first | exact HB.out | apply b_a | apply b_n | apply b_d | refine b_s ?_ GE176.out | refine b_s ?_ GE186.out) | exact HB.out))) hk)))
     (case aO => exact (by (with_reducible repeat (first | apply Kd.R_alloc | apply Kd.R_drewN | apply Kd.R_drew)); exact Kd.R_mono HO182.out (fun _ hk => hk.1)))
     (case aS => exact (below_size (by repeat (first | (with_reducible first | exact HB.out | apply b_a | apply b_n | apply b_d | refine b_s ?_ GE176.out | refine b_s ?_ GE186.out) | exact HB.out))))
     (case aL => have := LMc24.out; omega)
     intro v184 w34 ho hb hg hat
     rw [← Ny183.out] at ho
     have n0_ := Aside0.mk (Kd.V_afterv (ok := (fun k_ => ((P0_2_ k_ ∨ P1_ k_ ∨ P2_ k_) ∨ w.heap.size ≤ k_) ∧ k_ ≠ gb176 ∧ k_ ≠ gb186)) (by (with_reducible repeat (first | apply Kd.V_alloc | apply Kd.V_drewN | apply Kd.V_drew)); exact Kd.V_mono HO_1.out (fun _ hk => ⟨⟨hk.1.1.1, ⟨hk.1.1.2, hk.1.2⟩⟩, hk.2⟩)) hg hat)
     have n1_ := Aside0.mk (Kd.V_afterv (ok := (fun k_ => ((P0_2_ k_ ∨ P1_ k_ ∨ P2_ k_) ∨ w.heap.size ≤ k_) ∧ k_ ≠ gb176 ∧ k_ ≠ gb186)) (by (with_reducible repeat (first | apply Kd.V_alloc | apply Kd.V_drewN | apply Kd.V_drew)); exact Kd.V_mono HO_2.out (fun _ hk => ⟨⟨hk.1.1.1, ⟨hk.1.1.2, hk.1.2⟩⟩, hk.2⟩)) hg hat)
     have n2_ := Aside0.mk (Kd.V_afterv (ok := (fun k_ => ((P0_2_ k_ ∨ P1_ k_ ∨ P2_ k_) ∨ w.heap.size ≤ k_) ∧ k_ ≠ gb176 ∧ k_ ≠ gb186)) (by (with_reducible repeat (first | apply Kd.V_alloc | apply Kd.V_drewN | apply Kd.V_drew)); exact Kd.V_mono HO_177002.out (fun _ hk => ⟨⟨hk.1.1.1, ⟨hk.1.1.2, hk.1.2⟩⟩, hk.2⟩)) hg hat)
     have n3_ := Aside0.mk (blk_grown (g := gb176) (o := .cells #[.int .i64 a0_0, .int .i64 a0_1, .slice A0_2 l0_2.length c0_2] 30 (0, 0)) (by (with_reducible repeat (first | refine k_n ?_ _ | refine k_d ?_ | refine k_a ?_ _)); exact BK176.out) hg (Kd.R_ne HO182.out BK176.out (by decide)))
     have n4_ := Aside0.mk (blk_grown (g := gb186) (o := .cells #[.int .i64 0, .int .i64 0, .slice none 0 0] 30 (0, 0)) (by (with_reducible repeat (first | refine k_n ?_ _ | refine k_d ?_ | refine k_a ?_ _)); exact BK186.out) hg (Kd.R_ne HO182.out BK186.out (by decide)))
     have n5_ := Aside0.mk (hb)
     have n6_ := Aside0.mk (ho)
     clear HO_1
     clear HO_2
     clear HO_177002
     clear BK176
     clear BK186
     clear HB
     clear HO182
     have HO_1 := n0_
     have HO_2 := n1_
     have HO_177002 := n2_
     have BK176 := n3_
     have BK186 := n4_
     have HB := n5_
     have HO185 := n6_
     clear n0_ n1_ n2_ n3_ n4_ n5_ n6_
     clear ho hb hg hat
     obtain ⟨Ao35, co35, eo35⟩ := Kd.R_slice HO185.out
     (first | subst eo35 | (injection eo35 with f1_ f2_ f3_; have f4_ := f1_.symm; have f5_ := f3_.symm; clear f1_ f2_ f3_; subst f4_; subst f5_))
     refine hK.out _ _ ⟨(blk_cell BK176.out 0).trans rfl, (blk_cell BK176.out 1).trans rfl, (blk_cell BK176.out 2).trans rfl⟩ (fun hHeld => ?_)
     clear hK K
     refine norm_ (a' := ?_) ?_ ?_
     rotate_left
     ·
      show Act.put _ (some 41) _ = _
      simp only [Act.put, l_1, l_2, l_3, i64_w, i32_w]
      rfl
     refine pure_ (i := 8) (N := some 42) (v := ?_) (a' := ?_) #[true, true, true, true, true, true, true, true, true, true, false] rfl rfl (any_of HT_.out (by kernel_rfl)) (fun _ _ _ h => h) (Or.inl ⟨by rfl, ?_⟩) ?_ ?_
     rotate_left
     ·
      intro w'
      go_simp
      with_reducible rfl
     rotate_left
     ·
      simp only [Act.put, l_1, l_2, l_3, i64_w, i32_w]
      rfl
     exact norm_ (by simp only [putAll, Act.put, l_1, l_2, l_3]) (hCont (v181, .slice Ao35 y183.length co35, gb186) _ ⟨hHeld, (by (with_reducible repeat (first | apply Kd.R_alloc | apply Kd.R_drewN | apply Kd.R_drew)); exact HO185.out), (by (with_reducible repeat (first | apply Kd.V_alloc | apply Kd.V_drewN | apply Kd.V_drew)); exact Kd.V_mono HO_1.out (fun _ hk => ⟨hk.1.1, ⟨hk.2, ⟨hk.1.2.1, hk.1.2.2⟩⟩⟩)), (by (with_reducible repeat (first | apply Kd.V_alloc | apply Kd.V_drewN | apply Kd.V_drew)); exact Kd.V_mono HO_177002.out (fun _ hk => ⟨hk.1.1, ⟨hk.2, ⟨hk.1.2.1, hk.1.2.2⟩⟩⟩)), (by (with_reducible repeat (first | apply Kd.V_alloc | apply Kd.V_drewN | apply Kd.V_drew)); exact Kd.V_mono HO_2.out (fun _ hk => ⟨hk.1.1, ⟨hk.2, ⟨hk.1.2.1, hk.1.2.2⟩⟩⟩)), (by (with_reducible repeat (first | refine k_n ?_ _ | refine k_d ?_ | refine k_a ?_ _)); exact BK176.out), (by (with_reducible repeat (first | refine k_n ?_ _ | refine k_d ?_ | refine k_a ?_ _)); exact BK186.out), GW186.out, GE186.out, NB176_186.out, NB186_176.out, (by repeat (first | (with_reducible first | exact HB.out | apply b_a | apply b_n | apply b_d | refine b_s ?_ GE176.out | refine b_s ?_ GE186.out) | exact HB.out))⟩)
   rintro ⟨v181, v184, gb186⟩ w36 ⟨hS_, h0_, h1_, h2_, h3_, h4_, h5_, h6_, h7_, h8_, h9_, h10_⟩
   have n0_ : Aside0 (Kd.R (Kd.int .i8) 35 w36 w.heap.size (fun k_ => (w.heap.size ≤ k_)) v184 y183) := ⟨h0_⟩
   have n1_ : Aside0 (Kd.V (Kd.int .i8) 35 w36 w.heap.size (fun k_ => ((P0_2_ k_ ∨ P1_ k_ ∨ P2_ k_) ∨ w.heap.size ≤ k_) ∧ some k_ ≠ (v184 : Value).ownBlock ∧ k_ ≠ gb176 ∧ k_ ≠ gb186) (.slice A1 l1.length c1) l1) := ⟨h1_⟩
   have n2_ : Aside0 (Kd.V (Kd.int .i8) 35 w36 w.heap.size (fun k_ => ((P0_2_ k_ ∨ P1_ k_ ∨ P2_ k_) ∨ w.heap.size ≤ k_) ∧ some k_ ≠ (v184 : Value).ownBlock ∧ k_ ≠ gb176 ∧ k_ ≠ gb186) (.slice A0_2 l0_2.length c0_2) l0_2) := ⟨h2_⟩
   have n3_ : Aside0 (Kd.V (Kd.int .i8) 35 w36 w.heap.size (fun k_ => ((P0_2_ k_ ∨ P1_ k_ ∨ P2_ k_) ∨ w.heap.size ≤ k_) ∧ some k_ ≠ (v184 : Value).ownBlock ∧ k_ ≠ gb176 ∧ k_ ≠ gb186) (.slice A2 l2.length c2) l2) := ⟨h3_⟩
   have n4_ : Aside0 (w36.heap[gb176]? = some (.cells #[.int .i64 a0_0, .int .i64 a0_1, .slice A0_2 l0_2.length c0_2] 30 (0, 0))) := ⟨h4_⟩
   have n5_ : Aside0 (w36.heap[gb186]? = some (.cells #[.int .i64 0, .int .i64 0, .slice none 0 0] 30 (0, 0))) := ⟨h5_⟩
   have n6_ : Aside0 (w.heap.size ≤ gb186) := ⟨h6_⟩
   have n7_ : Aside0 (w.heap.size ≤ gb186) := ⟨h7_⟩
   have n8_ : Aside0 (gb176 ≠ gb186) := ⟨h8_⟩
   have n9_ : Aside0 (gb186 ≠ gb176) := ⟨h9_⟩
   have n10_ : Aside0 (Below w.heap.size w w36) := ⟨h10_⟩
   clear HO_1
   clear HO_2
   clear HO_177002
   clear BK176
   clear HB
   clear h0_ h1_ h2_ h3_ h4_ h5_ h6_ h7_ h8_ h9_ h10_
   have HO185 := n0_
   have HO_1 := n1_
   have HO_177002 := n2_
   have HO_2 := n3_
   have BK176 := n4_
   have BK186 := n5_
   have GW186 := n6_
   have GE186 := n7_
   have NB176_186 := n8_
   have NB186_176 := n9_
   have HB := n10_
   clear n0_ n1_ n2_ n3_ n4_ n5_ n6_ n7_ n8_ n9_ n10_
   have hHeld : w36.cell? ⟨gb176, 0, none⟩ = some (.int .i64 a0_0) ∧ w36.cell? ⟨gb176, 1, none⟩ = some (.int .i64 a0_1) ∧ w36.cell? ⟨gb176, 2, none⟩ = some (.slice A0_2 l0_2.length c0_2) := hS_
   obtain ⟨Ao37, co37, eo37⟩ := Kd.R_slice HO185.out
   (first | subst eo37 | (injection eo37 with f1_ f2_ f3_; have f4_ := f1_.symm; have f5_ := f3_.symm; clear f1_ f2_ f3_; subst f4_; subst f5_))
   refine norm_ (a' := ?_) ?_ ?_
   rotate_left
   ·
    simp only [putAll, Act.put, l_1, l_2, l_3]
    rfl
   refine one_ (i := 10) (N := none) #[true, true, true, true, true, true, true, true, true, true, true] rfl rfl (one_of HT_.out (by kernel_rfl)) (by decide) (fun K hK => ?_)
   have hs38 : w36.cell? ⟨gb186, 0, none⟩ = some (.int .i64 0) := (blk_cell BK186.out 0).trans rfl
   have hfs38 := blk_frozen BK186.out 0
   have hns38_0 := NB176_186.out
   have hms38_0 := NB186_176.out
   have hs39 : w36.cell? ⟨gb186, 1, none⟩ = some (.int .i64 0) := (blk_cell BK186.out 1).trans rfl
   have hfs39 := blk_frozen BK186.out 1
   have hns39_0 := NB176_186.out
   have hms39_0 := NB186_176.out
   have hs40 : w36.cell? ⟨gb186, 2, none⟩ = some (.slice none 0 0) := (blk_cell BK186.out 2).trans rfl
   have hfs40 := blk_frozen BK186.out 2
   have hns40_0 := NB176_186.out
   have hms40_0 := NB186_176.out
   refine skip_ (w1 := ?_) (by rfl) rfl ?_ ?_
   rotate_left
   ·
    go_simp
    rfl
   refine hK.out _ _ ⟨((cell_far (p := ⟨gb186, _, none⟩) NB176_186.out _).trans (((cell_far (p := ⟨gb186, _, none⟩) NB176_186.out _).trans (((cell_far (p := ⟨gb186, _, none⟩) NB176_186.out _).trans (hHeld.1)))))), ((cell_far (p := ⟨gb186, _, none⟩) NB176_186.out _).trans (((cell_far (p := ⟨gb186, _, none⟩) NB176_186.out _).trans (((cell_far (p := ⟨gb186, _, none⟩) NB176_186.out _).trans (hHeld.2.1)))))), ((cell_far (p := ⟨gb186, _, none⟩) NB176_186.out _).trans (((cell_far (p := ⟨gb186, _, none⟩) NB176_186.out _).trans (((cell_far (p := ⟨gb186, _, none⟩) NB176_186.out _).trans (hHeld.2.2))))))⟩ (fun hHeld => ?_)
   clear hK K
   refine done_ (done_of HT_.out (by kernel_rfl)) ?_
   have hnb41 := NB186_176.out
   have hnc41 := NB176_186.out
   have hcz42_0 : w36.cell? ⟨gb186, 0, none⟩ = some (.int .i64 0) := (blk_cell BK186.out 0).trans rfl
   have hcz42_1 : w36.cell? ⟨gb186, 1, none⟩ = some (.int .i64 0) := (blk_cell BK186.out 1).trans rfl
   have hcz42_2 : w36.cell? ⟨gb186, 2, none⟩ = some (.slice none 0 0) := (blk_cell BK186.out 2).trans rfl
   have hfz42_0 := blk_frozen BK186.out 0
   have hfz42_1 := blk_frozen BK186.out 1
   have hfz42_2 := blk_frozen BK186.out 2
   go_upto_region 8 with (first | ((with_reducible refine gate_callee (f := 14) rfl ?_); refine goesL_ (some 46) rfl rfl Try.func14 (by kernel_rfl) rfl #[.agg #[.int .i64 a0_0, .int .i64 a0_1, .slice Ao37 y183.length co37], .slice A1 l1.length c1] rfl (by (try simp only [l_4, l_5, l_6]); first | done | rfl | (simp only [l_7, l_8]; rfl)) ?_; (with_reducible refine (matmul_Apply.calls kj3 a0_0 a0_1 _ _ y183 _ _ l1 t187 t190 _ ?side1 ?side2 ?side3 ?side4 A25.out).mono ?_); (case side1 => refine (Kd.R_reads' (e := 35) (base := w.heap.size) (ok := fun k_ => (w.heap.size ≤ k_)) (n := y183.length) (c := co37) ?_).2.2; exact (by (with_reducible repeat (first | apply Kd.R_alloc | apply Kd.R_drewN | apply Kd.R_drew)); exact (Kd.R_mono (Kd.R_far (p := ⟨gb186, 2, none⟩) (Kd.R_far (p := ⟨gb186, 1, none⟩) (Kd.R_far (p := ⟨gb186, 0, none⟩) (Kd.R_types HO185.out BK186.out (by decide)) (fun _ hk => hk.2) (.int .i64 a0_0)) (fun _ hk => hk.2) (.int .i64 a0_1)) (fun _ hk => hk.2) (.slice Ao37 y183.length co37)) (fun _ h_ => h_.1)))); (case side2 => exact (Kd.R_reads' HO185.out).2.1); (case side3 => refine (Kd.V_reads' (e := 35) (base := w.heap.size) (ok := fun k_ => ((((P0_2_ k_ ∨ P1_ k_ ∨ P2_ k_) ∨ w.heap.size ≤ k_)) ∧ (some k_ ≠ (.slice Ao37 y183.length co37 : Value).ownBlock ∧ (k_ ≠ gb176 ∧ k_ ≠ gb186)))) (n := l1.length) (c := c1) ?_).2.2; exact (by (with_reducible repeat (first | apply Kd.V_alloc | apply Kd.V_drewN | apply Kd.V_drew)); exact (Kd.V_mono (Kd.V_far (p := ⟨gb186, 2, none⟩) (Kd.V_far (p := ⟨gb186, 1, none⟩) (Kd.V_far (p := ⟨gb186, 0, none⟩) (Kd.V_mono HO_1.out (fun k_ hk => (⟨hk, hk.2.2.2⟩ : _ ∧ k_ ≠ gb186))) (fun _ hk => hk.2) (.int .i64 a0_0)) (fun _ hk => hk.2) (.int .i64 a0_1)) (fun _ hk => hk.2) (.slice Ao37 y183.length co37)) (fun _ h_ => h_.1)))); (case side4 => exact (Kd.V_reads' HO_1.out).2.1); rintro e w43 ⟨v188, rfl, ho0, hb⟩; (try clear A25); refine ⟨_, rfl, ?_⟩; have n0_ := Aside0.mk (Kd.V_elder' (by (with_reducible repeat (first | apply Kd.V_alloc | apply Kd.V_drewN | apply Kd.V_drew)); exact (Kd.V_mono (Kd.V_far (p := ⟨gb186, 2, none⟩) (Kd.V_far (p := ⟨gb186, 1, none⟩) (Kd.V_far (p := ⟨gb186, 0, none⟩) (Kd.V_mono HO_1.out (fun k_ hk => (⟨hk, hk.2.2.2⟩ : _ ∧ k_ ≠ gb186))) (fun _ hk => hk.2) (.int .i64 a0_0)) (fun _ hk => hk.2) (.int .i64 a0_1)) (fun _ hk => hk.2) (.slice Ao37 y183.length co37)) (fun _ h_ => h_.1))) (Kd.R_base ho0) hb); have n1_ := Aside0.mk (Kd.V_elder' (by (with_reducible repeat (first | apply Kd.V_alloc | apply Kd.V_drewN | apply Kd.V_drew)); exact (Kd.V_mono (Kd.V_far (p := ⟨gb186, 2, none⟩) (Kd.V_far (p := ⟨gb186, 1, none⟩) (Kd.V_far (p := ⟨gb186, 0, none⟩) (Kd.V_mono HO_2.out (fun k_ hk => (⟨hk, hk.2.2.2⟩ : _ ∧ k_ ≠ gb186))) (fun _ hk => hk.2) (.int .i64 a0_0)) (fun _ hk => hk.2) (.int .i64 a0_1)) (fun _ hk => hk.2) (.slice Ao37 y183.length co37)) (fun _ h_ => h_.1))) (Kd.R_base ho0) hb); have n2_ := Aside0.mk (Kd.V_elder' (by (with_reducible repeat (first | apply Kd.V_alloc | apply Kd.V_drewN | apply Kd.V_drew)); exact (Kd.V_mono (Kd.V_far (p := ⟨gb186, 2, none⟩) (Kd.V_far (p := ⟨gb186, 1, none⟩) (Kd.V_far (p := ⟨gb186, 0, none⟩) (Kd.V_mono HO_177002.out (fun k_ hk => (⟨hk, hk.2.2.2⟩ : _ ∧ k_ ≠ gb186))) (fun _ hk => hk.2) (.int .i64 a0_0)) (fun _ hk => hk.2) (.int .i64 a0_1)) (fun _ hk => hk.2) (.slice Ao37 y183.length co37)) (fun _ h_ => h_.1))) (Kd.R_base ho0) hb); have n3_ := Aside0.mk (Kd.R_below (by (with_reducible repeat (first | apply Kd.R_alloc | apply Kd.R_drewN | apply Kd.R_drew)); exact (Kd.R_mono (Kd.R_far (p := ⟨gb186, 2, none⟩) (Kd.R_far (p := ⟨gb186, 1, none⟩) (Kd.R_far (p := ⟨gb186, 0, none⟩) (Kd.R_types HO185.out BK186.out (by decide)) (fun _ hk => hk.2) (.int .i64 a0_0)) (fun _ hk => hk.2) (.int .i64 a0_1)) (fun _ hk => hk.2) (.slice Ao37 y183.length co37)) (fun _ h_ => h_.1))) hb); have n4_ := Aside0.mk (Kd.R_lower (Kd.R_newM (M := fun k_ => (w.heap.size ≤ k_)) ho0 (below_size (by repeat (first | (with_reducible first | exact HB.out | apply b_a | apply b_n | apply b_d | refine b_s ?_ GE176.out | refine b_s ?_ GE186.out) | exact HB.out))) (fun k_ h_ => h_)) (below_size (by repeat (first | (with_reducible first | exact HB.out | apply b_a | apply b_n | apply b_d | refine b_s ?_ GE176.out | refine b_s ?_ GE186.out) | exact HB.out)))); have n5_ := Aside0.mk (blk_below (g := gb176) (o := .cells #[.int .i64 a0_0, .int .i64 a0_1, .slice A0_2 l0_2.length c0_2] 30 (0, 0)) (by (with_reducible repeat (first | refine k_n ?_ _ | refine k_d ?_ | refine k_a ?_ _)); refine blk_far ?_ NB176_186.out _; (with_reducible repeat (first | refine k_n ?_ _ | refine k_d ?_ | refine k_a ?_ _)); refine blk_far ?_ NB176_186.out _; (with_reducible repeat (first | refine k_n ?_ _ | refine k_d ?_ | refine k_a ?_ _)); refine blk_far ?_ NB176_186.out _; (with_reducible repeat (first | refine k_n ?_ _ | refine k_d ?_ | refine k_a ?_ _)); exact BK176.out) hb); have n6_ := Aside0.mk (blk_below (g := gb186) (o := .cells #[.int .i64 a0_0, .int .i64 a0_1, .slice Ao37 y183.length co37] 30 (0, 0)) (by (with_reducible repeat (first | refine k_n ?_ _ | refine k_d ?_ | refine k_a ?_ _)); refine blk_put (cs := #[.int .i64 a0_0, .int .i64 a0_1, .slice none 0 0]) ?_ 2 _ rfl; (with_reducible repeat (first | refine k_n ?_ _ | refine k_d ?_ | refine k_a ?_ _)); refine blk_put (cs := #[.int .i64 a0_0, .int .i64 0, .slice none 0 0]) ?_ 1 _ rfl; (with_reducible repeat (first | refine k_n ?_ _ | refine k_d ?_ | refine k_a ?_ _)); refine blk_put (cs := #[.int .i64 0, .int .i64 0, .slice none 0 0]) ?_ 0 _ rfl; (with_reducible repeat (first | refine k_n ?_ _ | refine k_d ?_ | refine k_a ?_ _)); exact BK186.out) hb); have n7_ := Aside0.mk (below_step (by repeat (first | (with_reducible first | exact HB.out | apply b_a | apply b_n | apply b_d | refine b_s ?_ GE176.out | refine b_s ?_ GE186.out) | exact HB.out)) hb); clear HO_1; clear HO_2; clear HO_177002; clear HO185; clear BK176; clear BK186; clear HB; have HO_1 := n0_; have HO_2 := n1_; have HO_177002 := n2_; have HO185 := n3_; have HO189 := n4_; have BK176 := n5_; have BK186 := n6_; have HB := n7_; clear n0_ n1_ n2_ n3_ n4_ n5_ n6_ n7_; (try clear hb); (try clear hb2); (try clear hk); (try clear hi); (try clear ho0); have hcz44_0 : w43.cell? ⟨gb186, 0, none⟩ = some (.int .i64 a0_0) := (blk_cell BK186.out 0).trans rfl; have hcz44_1 : w43.cell? ⟨gb186, 1, none⟩ = some (.int .i64 a0_1) := (blk_cell BK186.out 1).trans rfl; have hcz44_2 : w43.cell? ⟨gb186, 2, none⟩ = some (.slice Ao37 y183.length co37) := (blk_cell BK186.out 2).trans rfl; have hfz44_0 := blk_frozen BK186.out 0; have hfz44_1 := blk_frozen BK186.out 1; have hfz44_2 := blk_frozen BK186.out 2) | ((with_reducible refine gate_dst (N := 53) rfl ?_); (try (refine gate_guard (by rfl) ?_; dsimp only)); refine Kd.N_lit (Kd.slice 35 (Kd.int .i8)) _ 28 ?hg (N' := 53) ?hd (xs := ([l1, l2] : List (List Int))) (inner := [.slice A1 l1.length c1, .slice A2 l2.length c2]) (ok := (fun k_ => ((P0_2_ k_ ∨ P1_ k_ ∨ P2_ k_) ∨ w.heap.size ≤ k_) ∧ some k_ ≠ (.slice Ao37 y183.length co37 : Value).ownBlock ∧ some k_ ≠ (v188 : Value).ownBlock ∧ k_ ≠ gb176 ∧ k_ ≠ gb186)) (okp := (fun k_ => ((P0_2_ k_ ∨ P1_ k_ ∨ P2_ k_) ∨ w.heap.size ≤ k_) ∧ some k_ ≠ (.slice Ao37 y183.length co37 : Value).ownBlock ∧ some k_ ≠ (v188 : Value).ownBlock ∧ k_ ≠ gb176 ∧ k_ ≠ gb186)) ?hr ?hp (fun _ hk => hk) ((show ∀ k_, (_ : Nat) ≤ k_ → (fun k_ => ((P0_2_ k_ ∨ P1_ k_ ∨ P2_ k_) ∨ w.heap.size ≤ k_) ∧ some k_ ≠ (.slice Ao37 y183.length co37 : Value).ownBlock ∧ some k_ ≠ (v188 : Value).ownBlock ∧ k_ ≠ gb176 ∧ k_ ≠ gb186) k_ from fun k_ hk => ⟨(.inr (Nat.le_trans (below_size (by repeat (first | (with_reducible first | exact HB.out | apply b_a | apply b_n | apply b_d | refine b_s ?_ GE176.out | refine b_s ?_ GE186.out) | exact HB.out))) hk)), Kd.fresh' (Kd.R_lt (by (with_reducible repeat (first | apply Kd.R_alloc | apply Kd.R_drewN | apply Kd.R_drew)); exact HO185.out)) k_ hk, Kd.fresh' (Kd.R_lt (by (with_reducible repeat (first | apply Kd.R_alloc | apply Kd.R_drewN | apply Kd.R_drew)); exact HO189.out)) k_ hk, Kd.freshB (g := gb176) (o := .cells #[.int .i64 a0_0, .int .i64 a0_1, .slice A0_2 l0_2.length c0_2] 30 (0, 0)) (by (with_reducible repeat (first | refine k_n ?_ _ | refine k_d ?_ | refine k_a ?_ _)); exact BK176.out) k_ hk, Kd.freshB (g := gb186) (o := .cells #[.int .i64 a0_0, .int .i64 a0_1, .slice Ao37 y183.length co37] 30 (0, 0)) (by (with_reducible repeat (first | refine k_n ?_ _ | refine k_d ?_ | refine k_a ?_ _)); exact BK186.out) k_ hk⟩) _ (Nat.le_refl _)) (Below.refl _ _) (Nat.le_refl _) (by simp) ?_; (case hd => rfl); (case hg => rfl); (case hr => first | (go_simp; done) | (go_simp; rfl)); (case hp => exact (Reps.one (show Kd.FK (Kd.slice 35 (Kd.int .i8)) _ _ l1 [.slice A1 l1.length c1] from (Kd.FK_slice_mk (Kd.V_reads' (Kd.V_mono (ok' := (fun k_ => ((P0_2_ k_ ∨ P1_ k_ ∨ P2_ k_) ∨ w.heap.size ≤ k_) ∧ some k_ ≠ (.slice Ao37 y183.length co37 : Value).ownBlock ∧ some k_ ≠ (v188 : Value).ownBlock ∧ k_ ≠ gb176 ∧ k_ ≠ gb186)) (HO_1.out) (fun k_ hk => ⟨hk.1.1, ⟨hk.1.2.1, ⟨hk.2, ⟨hk.1.2.2.1, hk.1.2.2.2⟩⟩⟩⟩))).2.1 (Kd.V_F (Kd.V_mono (ok' := (fun k_ => ((P0_2_ k_ ∨ P1_ k_ ∨ P2_ k_) ∨ w.heap.size ≤ k_) ∧ some k_ ≠ (.slice Ao37 y183.length co37 : Value).ownBlock ∧ some k_ ≠ (v188 : Value).ownBlock ∧ k_ ≠ gb176 ∧ k_ ≠ gb186)) (HO_1.out) (fun k_ hk => ⟨hk.1.1, ⟨hk.1.2.1, ⟨hk.2, ⟨hk.1.2.2.1, hk.1.2.2.2⟩⟩⟩⟩))))) (Reps.one (show Kd.FK (Kd.slice 35 (Kd.int .i8)) _ _ l2 [.slice A2 l2.length c2] from (Kd.FK_slice_mk (Kd.V_reads' (Kd.V_mono (ok' := (fun k_ => ((P0_2_ k_ ∨ P1_ k_ ∨ P2_ k_) ∨ w.heap.size ≤ k_) ∧ some k_ ≠ (.slice Ao37 y183.length co37 : Value).ownBlock ∧ some k_ ≠ (v188 : Value).ownBlock ∧ k_ ≠ gb176 ∧ k_ ≠ gb186)) (HO_2.out) (fun k_ hk => ⟨hk.1.1, ⟨hk.1.2.1, ⟨hk.2, ⟨hk.1.2.2.1, hk.1.2.2.2⟩⟩⟩⟩))).2.1 (Kd.V_F (Kd.V_mono (ok' := (fun k_ => ((P0_2_ k_ ∨ P1_ k_ ∨ P2_ k_) ∨ w.heap.size ≤ k_) ∧ some k_ ≠ (.slice Ao37 y183.length co37 : Value).ownBlock ∧ some k_ ≠ (v188 : Value).ownBlock ∧ k_ ≠ gb176 ∧ k_ ≠ gb186)) (HO_2.out) (fun k_ hk => ⟨hk.1.1, ⟨hk.1.2.1, ⟨hk.2, ⟨hk.1.2.2.1, hk.1.2.2.2⟩⟩⟩⟩))))) (Reps.none _ _)))); intro v192 w45 ho46 hb hg_ hnew_; clear hg_ hnew_; (first | rw [← Ny191.out] at ho46 | (simp only [Int.reduceToNat] at ho46; rw [← Ny191.out] at ho46)); have n0_ := Aside0.mk (Kd.V_elder' (by (with_reducible repeat (first | apply Kd.V_alloc | apply Kd.V_drewN | apply Kd.V_drew)); exact HO_1.out) (by first | exact Kd.N_base ho46 | exact Kd.N_base (Kd.S_N ho46)) hb); have n1_ := Aside0.mk (Kd.V_elder' (by (with_reducible repeat (first | apply Kd.V_alloc | apply Kd.V_drewN | apply Kd.V_drew)); exact HO_2.out) (by first | exact Kd.N_base ho46 | exact Kd.N_base (Kd.S_N ho46)) hb); have n2_ := Aside0.mk (Kd.V_elder' (by (with_reducible repeat (first | apply Kd.V_alloc | apply Kd.V_drewN | apply Kd.V_drew)); exact HO_177002.out) (by first | exact Kd.N_base ho46 | exact Kd.N_base (Kd.S_N ho46)) hb); have n3_ := Aside0.mk (Kd.R_below (by (with_reducible repeat (first | apply Kd.R_alloc | apply Kd.R_drewN | apply Kd.R_drew)); exact HO185.out) hb); have n4_ := Aside0.mk (Kd.R_below (by (with_reducible repeat (first | apply Kd.R_alloc | apply Kd.R_drewN | apply Kd.R_drew)); exact HO189.out) hb); have n5_ := Aside0.mk (Kd.N_lower ho46 (below_size (by repeat (first | (with_reducible first | exact HB.out | apply b_a | apply b_n | apply b_d | refine b_s ?_ GE176.out | refine b_s ?_ GE186.out) | exact HB.out)))); have n6_ := Aside0.mk (blk_below (g := gb176) (o := .cells #[.int .i64 a0_0, .int .i64 a0_1, .slice A0_2 l0_2.length c0_2] 30 (0, 0)) (by (with_reducible repeat (first | refine k_n ?_ _ | refine k_d ?_ | refine k_a ?_ _)); exact BK176.out) hb); have n7_ := Aside0.mk (blk_below (g := gb186) (o := .cells #[.int .i64 a0_0, .int .i64 a0_1, .slice Ao37 y183.length co37] 30 (0, 0)) (by (with_reducible repeat (first | refine k_n ?_ _ | refine k_d ?_ | refine k_a ?_ _)); exact BK186.out) hb); have n8_ := Aside0.mk (below_step (by repeat (first | (with_reducible first | exact HB.out | apply b_a | apply b_n | apply b_d | refine b_s ?_ GE176.out | refine b_s ?_ GE186.out) | exact HB.out)) hb); clear HO_1; clear HO_2; clear HO_177002; clear HO185; clear HO189; clear BK176; clear BK186; clear HB; have HO_1 := n0_; have HO_2 := n1_; have HO_177002 := n2_; have HO185 := n3_; have HO189 := n4_; have HO193 := n5_; have BK176 := n6_; have BK186 := n7_; have HB := n8_; clear n0_ n1_ n2_ n3_ n4_ n5_ n6_ n7_ n8_; clear hb ho46; obtain ⟨Ao47, co47, eo47⟩ := Kd.N_slice HO193.out; subst eo47) | ((with_reducible refine gate_callee (f := 16) rfl ?_); refine goesL_ (some 54) rfl rfl Try.func16 (by kernel_rfl) rfl #[.agg #[.int .i64 a0_0, .int .i64 a0_1, .slice Ao37 y183.length co37], .slice Ao47 y191.length co47] rfl (by (try simp only [l_4, l_5, l_6]); first | done | rfl | (simp only [l_7, l_8]; rfl)) ?_; (with_reducible refine (matmul_Many.calls kj3 a0_0 a0_1 _ _ y183 _ _ y191 t194 t197 _ ?side1 ?side2 ?side3 ?side4 A26.out).mono ?_); (case side1 => repeat (first | exact (Kd.R_reads' HO185.out).2.2 | (with_reducible refine Kd.C_alloc ?_ _) | (with_reducible refine Kd.C_drewN ?_ _) | (with_reducible refine Kd.C_drew ?_))); (case side2 => exact (Kd.R_reads' HO185.out).2.1); (case side3 => repeat (first | exact (Kd.N_reads' HO193.out).2.2 | (with_reducible refine Kd.C_alloc ?_ _) | (with_reducible refine Kd.C_drewN ?_ _) | (with_reducible refine Kd.C_drew ?_))); (case side4 => exact (Kd.N_reads' HO193.out).2.1); rintro e w48 ⟨v195, rfl, ho0, hb⟩; (try clear A26); refine ⟨_, rfl, ?_⟩; have n0_ := Aside0.mk (Kd.V_elder' (by (with_reducible repeat (first | apply Kd.V_alloc | apply Kd.V_drewN | apply Kd.V_drew)); exact HO_1.out) (by first | exact Kd.N_base ho0 | exact Kd.N_base (Kd.S_N ho0)) hb); have n1_ := Aside0.mk (Kd.V_elder' (by (with_reducible repeat (first | apply Kd.V_alloc | apply Kd.V_drewN | apply Kd.V_drew)); exact HO_2.out) (by first | exact Kd.N_base ho0 | exact Kd.N_base (Kd.S_N ho0)) hb); have n2_ := Aside0.mk (Kd.V_elder' (by (with_reducible repeat (first | apply Kd.V_alloc | apply Kd.V_drewN | apply Kd.V_drew)); exact HO_177002.out) (by first | exact Kd.N_base ho0 | exact Kd.N_base (Kd.S_N ho0)) hb); have n3_ := Aside0.mk (Kd.R_below (by (with_reducible repeat (first | apply Kd.R_alloc | apply Kd.R_drewN | apply Kd.R_drew)); exact HO185.out) hb); have n4_ := Aside0.mk (Kd.R_below (by (with_reducible repeat (first | apply Kd.R_alloc | apply Kd.R_drewN | apply Kd.R_drew)); exact HO189.out) hb); have n5_ := Aside0.mk (Kd.N_elder' (by (with_reducible repeat (first | apply Kd.N_alloc | apply Kd.N_drewN | apply Kd.N_drew)); exact HO193.out) (by first | exact Kd.N_base ho0 | exact Kd.N_base (Kd.S_N ho0)) hb); have n6_ := Aside0.mk (Kd.N_lower (Kd.N_mono (ok' := fun k_ => ((P0_2_ k_ ∨ P1_ k_ ∨ P2_ k_) ∨ w.heap.size ≤ k_) ∧ some k_ ≠ (.slice Ao37 y183.length co37 : Value).ownBlock ∧ some k_ ≠ (v188 : Value).ownBlock ∧ some k_ ≠ (.slice Ao47 y191.length co47 : Value).ownBlock ∧ k_ ≠ gb176 ∧ k_ ≠ gb186) (Kd.S_N (Kd.S_bound ho0)) (fun k_ hk_ => ⟨(.inr (Nat.le_trans (below_size (by repeat (first | (with_reducible first | exact HB.out | apply b_a | apply b_n | apply b_d | refine b_s ?_ GE176.out | refine b_s ?_ GE186.out) | exact HB.out))) hk_.2.1)), (Kd.fresh' (Kd.R_lt (by (with_reducible repeat (first | apply Kd.R_alloc | apply Kd.R_drewN | apply Kd.R_drew)); exact HO185.out)) k_ hk_.2.1), (Kd.fresh' (Kd.R_lt (by (with_reducible repeat (first | apply Kd.R_alloc | apply Kd.R_drewN | apply Kd.R_drew)); exact HO189.out)) k_ hk_.2.1), (Kd.fresh' (Kd.N_lt (by (with_reducible repeat (first | apply Kd.N_alloc | apply Kd.N_drewN | apply Kd.N_drew)); exact HO193.out)) k_ hk_.2.1), (Kd.freshB (g := gb176) (o := .cells #[.int .i64 a0_0, .int .i64 a0_1, .slice A0_2 l0_2.length c0_2] 30 (0, 0)) (by (with_reducible repeat (first | refine k_n ?_ _ | refine k_d ?_ | refine k_a ?_ _)); exact BK176.out) k_ hk_.2.1), (Kd.freshB (g := gb186) (o := .cells #[.int .i64 a0_0, .int .i64 a0_1, .slice Ao37 y183.length co37] 30 (0, 0)) (by (with_reducible repeat (first | refine k_n ?_ _ | refine k_d ?_ | refine k_a ?_ _)); exact BK186.out) k_ hk_.2.1)⟩)) (below_size (by repeat (first | (with_reducible first | exact HB.out | apply b_a | apply b_n | apply b_d | refine b_s ?_ GE176.out | refine b_s ?_ GE186.out) | exact HB.out)))); have n7_ := Aside0.mk (blk_below (g := gb176) (o := .cells #[.int .i64 a0_0, .int .i64 a0_1, .slice A0_2 l0_2.length c0_2] 30 (0, 0)) (by (with_reducible repeat (first | refine k_n ?_ _ | refine k_d ?_ | refine k_a ?_ _)); exact BK176.out) hb); have n8_ := Aside0.mk (blk_below (g := gb186) (o := .cells #[.int .i64 a0_0, .int .i64 a0_1, .slice Ao37 y183.length co37] 30 (0, 0)) (by (with_reducible repeat (first | refine k_n ?_ _ | refine k_d ?_ | refine k_a ?_ _)); exact BK186.out) hb); have n9_ := Aside0.mk (below_step (by repeat (first | (with_reducible first | exact HB.out | apply b_a | apply b_n | apply b_d | refine b_s ?_ GE176.out | refine b_s ?_ GE186.out) | exact HB.out)) hb); clear HO_1; clear HO_2; clear HO_177002; clear HO185; clear HO189; clear HO193; clear BK176; clear BK186; clear HB; have HO_1 := n0_; have HO_2 := n1_; have HO_177002 := n2_; have HO185 := n3_; have HO189 := n4_; have HO193 := n5_; have HO196 := n6_; have BK176 := n7_; have BK186 := n8_; have HB := n9_; clear n0_ n1_ n2_ n3_ n4_ n5_ n6_ n7_ n8_ n9_; (try clear hb); (try clear hb2); (try clear hk); (try clear hi); (try clear ho0); have hcz49_0 : w48.cell? ⟨gb176, 0, none⟩ = some (.int .i64 a0_0) := (blk_cell BK176.out 0).trans rfl; have hcz49_1 : w48.cell? ⟨gb176, 1, none⟩ = some (.int .i64 a0_1) := (blk_cell BK176.out 1).trans rfl; have hcz49_2 : w48.cell? ⟨gb176, 2, none⟩ = some (.slice A0_2 l0_2.length c0_2) := (blk_cell BK176.out 2).trans rfl; have hfz49_0 := blk_frozen BK176.out 0; have hfz49_1 := blk_frozen BK176.out 1; have hfz49_2 := blk_frozen BK176.out 2) | ((with_reducible refine gate_callee (f := 17) rfl ?_); refine goesL_ (some 60) rfl rfl Try.func17 (by kernel_rfl) rfl #[.agg #[.int .i64 a0_0, .int .i64 a0_1, .slice A0_2 l0_2.length c0_2], .slice A1 l1.length c1] rfl (by (try simp only [l_4, l_5, l_6]); first | done | rfl | (simp only [l_7, l_8]; rfl)) ?_; (with_reducible refine (pelotonref04_Apply.calls kj3 a0_0 a0_1 _ _ l0_2 _ _ l1 t198 t201 _ ?side1 ?side2 ?side3 ?side4 A27.out).mono ?_); (case side1 => repeat (first | exact (Kd.V_reads' HO_177002.out).2.2 | (with_reducible refine Kd.C_alloc ?_ _) | (with_reducible refine Kd.C_drewN ?_ _) | (with_reducible refine Kd.C_drew ?_))); (case side2 => exact (Kd.V_reads' HO_177002.out).2.1); (case side3 => repeat (first | exact (Kd.V_reads' HO_1.out).2.2 | (with_reducible refine Kd.C_alloc ?_ _) | (with_reducible refine Kd.C_drewN ?_ _) | (with_reducible refine Kd.C_drew ?_))); (case side4 => exact (Kd.V_reads' HO_1.out).2.1); rintro e w50 ⟨v199, rfl, ho0, hb⟩; (try clear A27); refine ⟨_, rfl, ?_⟩; have n0_ := Aside0.mk (Kd.V_elder' (by (with_reducible repeat (first | apply Kd.V_alloc | apply Kd.V_drewN | apply Kd.V_drew)); exact HO_1.out) (Kd.R_base ho0) hb); have n1_ := Aside0.mk (Kd.V_elder' (by (with_reducible repeat (first | apply Kd.V_alloc | apply Kd.V_drewN | apply Kd.V_drew)); exact HO_2.out) (Kd.R_base ho0) hb); have n2_ := Aside0.mk (Kd.V_elder' (by (with_reducible repeat (first | apply Kd.V_alloc | apply Kd.V_drewN | apply Kd.V_drew)); exact HO_177002.out) (Kd.R_base ho0) hb); have n3_ := Aside0.mk (Kd.R_below (by (with_reducible repeat (first | apply Kd.R_alloc | apply Kd.R_drewN | apply Kd.R_drew)); exact HO185.out) hb); have n4_ := Aside0.mk (Kd.R_elder' (by (with_reducible repeat (first | apply Kd.R_alloc | apply Kd.R_drewN | apply Kd.R_drew)); exact HO189.out) (Kd.R_base ho0) hb); have n5_ := Aside0.mk (Kd.N_elder' (by (with_reducible repeat (first | apply Kd.N_alloc | apply Kd.N_drewN | apply Kd.N_drew)); exact HO193.out) (Kd.R_base ho0) hb); have n6_ := Aside0.mk (Kd.N_elder' (by (with_reducible repeat (first | apply Kd.N_alloc | apply Kd.N_drewN | apply Kd.N_drew)); exact HO196.out) (Kd.R_base ho0) hb); have n7_ := Aside0.mk (Kd.R_lower (Kd.R_new' (Kd.R_newM (M := fun k_ => (w.heap.size ≤ k_)) ho0 (below_size (by repeat (first | (with_reducible first | exact HB.out | apply b_a | apply b_n | apply b_d | refine b_s ?_ GE176.out | refine b_s ?_ GE186.out) | exact HB.out))) (fun k_ h_ => h_)) (Kd.R_lt (by (with_reducible repeat (first | apply Kd.R_alloc | apply Kd.R_drewN | apply Kd.R_drew)); exact HO189.out))) (below_size (by repeat (first | (with_reducible first | exact HB.out | apply b_a | apply b_n | apply b_d | refine b_s ?_ GE176.out | refine b_s ?_ GE186.out) | exact HB.out)))); have n8_ := Aside0.mk (blk_below (g := gb176) (o := .cells #[.int .i64 a0_0, .int .i64 a0_1, .slice A0_2 l0_2.length c0_2] 30 (0, 0)) (by (with_reducible repeat (first | refine k_n ?_ _ | refine k_d ?_ | refine k_a ?_ _)); exact BK176.out) hb); have n9_ := Aside0.mk (blk_below (g := gb186) (o := .cells #[.int .i64 a0_0, .int .i64 a0_1, .slice Ao37 y183.length co37] 30 (0, 0)) (by (with_reducible repeat (first | refine k_n ?_ _ | refine k_d ?_ | refine k_a ?_ _)); exact BK186.out) hb); have n10_ := Aside0.mk (below_step (by repeat (first | (with_reducible first | exact HB.out | apply b_a | apply b_n | apply b_d | refine b_s ?_ GE176.out | refine b_s ?_ GE186.out) | exact HB.out)) hb); clear HO_1; clear HO_2; clear HO_177002; clear HO185; clear HO189; clear HO193; clear HO196; clear BK176; clear BK186; clear HB; have HO_1 := n0_; have HO_2 := n1_; have HO_177002 := n2_; have HO185 := n3_; have HO189 := n4_; have HO193 := n5_; have HO196 := n6_; have HO200 := n7_; have BK176 := n8_; have BK186 := n9_; have HB := n10_; clear n0_ n1_ n2_ n3_ n4_ n5_ n6_ n7_ n8_ n9_ n10_; (try clear hb); (try clear hb2); (try clear hk); (try clear hi); (try clear ho0); have hcz51_0 : w50.cell? ⟨gb176, 0, none⟩ = some (.int .i64 a0_0) := (blk_cell BK176.out 0).trans rfl; have hcz51_1 : w50.cell? ⟨gb176, 1, none⟩ = some (.int .i64 a0_1) := (blk_cell BK176.out 1).trans rfl; have hcz51_2 : w50.cell? ⟨gb176, 2, none⟩ = some (.slice A0_2 l0_2.length c0_2) := (blk_cell BK176.out 2).trans rfl; have hfz51_0 := blk_frozen BK176.out 0; have hfz51_1 := blk_frozen BK176.out 1; have hfz51_2 := blk_frozen BK176.out 2) | ((with_reducible refine gate_callee (f := 17) rfl ?_); refine goesL_ (some 66) rfl rfl Try.func17 (by kernel_rfl) rfl #[.agg #[.int .i64 a0_0, .int .i64 a0_1, .slice A0_2 l0_2.length c0_2], .slice A2 l2.length c2] rfl (by (try simp only [l_4, l_5, l_6]); first | done | rfl | (simp only [l_7, l_8]; rfl)) ?_; (with_reducible refine (pelotonref04_Apply.calls kj3 a0_0 a0_1 _ _ l0_2 _ _ l2 t202 t205 _ ?side1 ?side2 ?side3 ?side4 A28.out).mono ?_); (case side1 => repeat (first | exact (Kd.V_reads' HO_177002.out).2.2 | (with_reducible refine Kd.C_alloc ?_ _) | (with_reducible refine Kd.C_drewN ?_ _) | (with_reducible refine Kd.C_drew ?_))); (case side2 => exact (Kd.V_reads' HO_177002.out).2.1); (case side3 => repeat (first | exact (Kd.V_reads' HO_2.out).2.2 | (with_reducible refine Kd.C_alloc ?_ _) | (with_reducible refine Kd.C_drewN ?_ _) | (with_reducible refine Kd.C_drew ?_))); (case side4 => exact (Kd.V_reads' HO_2.out).2.1); rintro e w52 ⟨v203, rfl, ho0, hb⟩; (try clear A28); refine ⟨_, rfl, ?_⟩; have n0_ := Aside0.mk (Kd.V_elder' (by (with_reducible repeat (first | apply Kd.V_alloc | apply Kd.V_drewN | apply Kd.V_drew)); exact HO_1.out) (Kd.R_base ho0) hb); have n1_ := Aside0.mk (Kd.V_elder' (by (with_reducible repeat (first | apply Kd.V_alloc | apply Kd.V_drewN | apply Kd.V_drew)); exact HO_2.out) (Kd.R_base ho0) hb); have n2_ := Aside0.mk (Kd.V_elder' (by (with_reducible repeat (first | apply Kd.V_alloc | apply Kd.V_drewN | apply Kd.V_drew)); exact HO_177002.out) (Kd.R_base ho0) hb); have n3_ := Aside0.mk (Kd.R_below (by (with_reducible repeat (first | apply Kd.R_alloc | apply Kd.R_drewN | apply Kd.R_drew)); exact HO185.out) hb); have n4_ := Aside0.mk (Kd.R_elder' (by (with_reducible repeat (first | apply Kd.R_alloc | apply Kd.R_drewN | apply Kd.R_drew)); exact HO189.out) (Kd.R_base ho0) hb); have n5_ := Aside0.mk (Kd.N_elder' (by (with_reducible repeat (first | apply Kd.N_alloc | apply Kd.N_drewN | apply Kd.N_drew)); exact HO193.out) (Kd.R_base ho0) hb); have n6_ := Aside0.mk (Kd.N_elder' (by (with_reducible repeat (first | apply Kd.N_alloc | apply Kd.N_drewN | apply Kd.N_drew)); exact HO196.out) (Kd.R_base ho0) hb); have n7_ := Aside0.mk (Kd.R_elder' (by (with_reducible repeat (first | apply Kd.R_alloc | apply Kd.R_drewN | apply Kd.R_drew)); exact HO200.out) (Kd.R_base ho0) hb); have n8_ := Aside0.mk (Kd.R_lower (Kd.R_new' (Kd.R_new' (Kd.R_newM (M := fun k_ => (w.heap.size ≤ k_)) ho0 (below_size (by repeat (first | (with_reducible first | exact HB.out | apply b_a | apply b_n | apply b_d | refine b_s ?_ GE176.out | refine b_s ?_ GE186.out) | exact HB.out))) (fun k_ h_ => h_)) (Kd.R_lt (by (with_reducible repeat (first | apply Kd.R_alloc | apply Kd.R_drewN | apply Kd.R_drew)); exact HO189.out))) (Kd.R_lt (by (with_reducible repeat (first | apply Kd.R_alloc | apply Kd.R_drewN | apply Kd.R_drew)); exact HO200.out))) (below_size (by repeat (first | (with_reducible first | exact HB.out | apply b_a | apply b_n | apply b_d | refine b_s ?_ GE176.out | refine b_s ?_ GE186.out) | exact HB.out)))); have n9_ := Aside0.mk (blk_below (g := gb176) (o := .cells #[.int .i64 a0_0, .int .i64 a0_1, .slice A0_2 l0_2.length c0_2] 30 (0, 0)) (by (with_reducible repeat (first | refine k_n ?_ _ | refine k_d ?_ | refine k_a ?_ _)); exact BK176.out) hb); have n10_ := Aside0.mk (blk_below (g := gb186) (o := .cells #[.int .i64 a0_0, .int .i64 a0_1, .slice Ao37 y183.length co37] 30 (0, 0)) (by (with_reducible repeat (first | refine k_n ?_ _ | refine k_d ?_ | refine k_a ?_ _)); exact BK186.out) hb); have n11_ := Aside0.mk (below_step (by repeat (first | (with_reducible first | exact HB.out | apply b_a | apply b_n | apply b_d | refine b_s ?_ GE176.out | refine b_s ?_ GE186.out) | exact HB.out)) hb); clear HO_1; clear HO_2; clear HO_177002; clear HO185; clear HO189; clear HO193; clear HO196; clear HO200; clear BK176; clear BK186; clear HB; have HO_1 := n0_; have HO_2 := n1_; have HO_177002 := n2_; have HO185 := n3_; have HO189 := n4_; have HO193 := n5_; have HO196 := n6_; have HO200 := n7_; have HO204 := n8_; have BK176 := n9_; have BK186 := n10_; have HB := n11_; clear n0_ n1_ n2_ n3_ n4_ n5_ n6_ n7_ n8_ n9_ n10_ n11_; (try clear hb); (try clear hb2); (try clear hk); (try clear hi); (try clear ho0)))
   (try simp only [Act.put, l_1, l_2, l_3])
   go_cut [84] (fun v84 wc => ∃ (kq : Nat) (x84_28 : Bool), v84 = .bool x84_28 ∧ Aside0 (pelotonlaw04_MatmulApplies.j1 kq t187 t190 t194 t197 t198 t201 t202 t205 x84_28 = some r) ∧ Aside0 (kq ≤ kj3) ∧ Aside0 (Kd.R (Kd.int .i32) 21 wc w.heap.size (fun k_ => (w.heap.size ≤ k_) ∧ some k_ ≠ (v199 : Value).ownBlock ∧ some k_ ≠ (v203 : Value).ownBlock) v188 t187) ∧ Aside0 (Kd.N (Kd.slice 21 (Kd.int .i32)) 32 wc w.heap.size (fun k_ => ((P0_2_ k_ ∨ P1_ k_ ∨ P2_ k_) ∨ w.heap.size ≤ k_) ∧ some k_ ≠ (v188 : Value).ownBlock ∧ some k_ ≠ (v199 : Value).ownBlock ∧ some k_ ≠ (v203 : Value).ownBlock ∧ some k_ ≠ ((.slice Ao37 y183.length co37) : Value).ownBlock ∧ k_ ≠ gb176 ∧ k_ ≠ gb186) v195 t194) ∧ Aside0 (Kd.R (Kd.int .i32) 21 wc w.heap.size (fun k_ => (w.heap.size ≤ k_) ∧ some k_ ≠ (v188 : Value).ownBlock ∧ some k_ ≠ (v203 : Value).ownBlock) v199 t198) ∧ Aside0 (Kd.R (Kd.int .i32) 21 wc w.heap.size (fun k_ => (w.heap.size ≤ k_) ∧ some k_ ≠ (v188 : Value).ownBlock ∧ some k_ ≠ (v199 : Value).ownBlock) v203 t202) ∧ Aside0 (Kd.V (Kd.int .i8) 35 wc w.heap.size (fun k_ => ((P0_2_ k_ ∨ P1_ k_ ∨ P2_ k_) ∨ w.heap.size ≤ k_) ∧ some k_ ≠ (v188 : Value).ownBlock ∧ some k_ ≠ (v195 : Value).ownBlock ∧ some k_ ≠ (v199 : Value).ownBlock ∧ some k_ ≠ (v203 : Value).ownBlock ∧ some k_ ≠ ((.slice Ao37 y183.length co37) : Value).ownBlock ∧ k_ ≠ gb176 ∧ k_ ≠ gb186) (.slice A0_2 l0_2.length c0_2) l0_2) ∧ Aside0 (Kd.R (Kd.int .i8) 35 wc w.heap.size (fun k_ => (w.heap.size ≤ k_)) (.slice Ao37 y183.length co37) y183) ∧ Aside0 (wc.heap[gb176]? = some (.cells #[.int .i64 a0_0, .int .i64 a0_1, (.slice A0_2 l0_2.length c0_2)] 30 (0, 0))) ∧ Aside0 (wc.heap[gb186]? = some (.cells #[.int .i64 a0_0, .int .i64 a0_1, (.slice Ao37 y183.length co37)] 30 (0, 0))) ∧ Aside0 (Below w.heap.size w wc))
   case first =>
    have H := HC29.out
    clear HC29
    replace H := Option.bind_eq_some_iff.mp H
    obtain ⟨t206, A530, H⟩ := H
    replace H : (if t206 = true then ((matmul_Right.f kj3 (([(⟨a0_0, a0_1, l0_2⟩ : S30)] : List (S30)))).bind fun t210 => ((pelotonref04_Right.f a0_0 a0_1 l0_2).bind fun t211 => (if (t210 != t211) = true then (pelotonlaw04_MatmulApplies.j1 kj3 t187 t190 t194 t197 t198 t201 t202 t205 true) else ((matmul_Right.f kj3 ([] : List (S30))).bind fun t212 => (pelotonlaw04_MatmulApplies.j1 kj3 t187 t190 t194 t197 t198 t201 t202 t205 (!t212)))))) else (pelotonlaw04_MatmulApplies.j1 kj3 t187 t190 t194 t197 t198 t201 t202 t205 true)) = some r := H
    have A53 := Aside0.mk A530
    clear A530
    by_cases c54 : t206 = true
    rotate_left
    ·
     replace c54 := Bool.eq_false_iff.mpr c54
     subst c54
     have H1 : (pelotonlaw04_MatmulApplies.j1 kj3 t187 t190 t194 t197 t198 t201 t202 t205 true) = some r := by rw [if_neg (show ¬ (false = true) by decide)] at H; exact H
     clear H
     have H := H1
     clear H1
     have H' := Aside0.mk H
     clear H
     try go_wp2
     have n0_ := Aside0.mk (Kd.V_drew HO_1.out)
     have n1_ := Aside0.mk (Kd.V_drew HO_2.out)
     have n2_ := Aside0.mk (Kd.V_drew HO_177002.out)
     have n3_ := Aside0.mk (Kd.R_drew HO185.out)
     have n4_ := Aside0.mk (Kd.R_drew HO189.out)
     have n5_ := Aside0.mk (Kd.N_drew HO193.out)
     have n6_ := Aside0.mk (Kd.N_drew HO196.out)
     have n7_ := Aside0.mk (Kd.R_drew HO200.out)
     have n8_ := Aside0.mk (Kd.R_drew HO204.out)
     have n9_ := Aside0.mk (k_d BK176.out)
     have n10_ := Aside0.mk (k_d BK186.out)
     have n11_ := Aside0.mk (b_d HB.out)
     clear HO_1
     clear HO_2
     clear HO_177002
     clear HO185
     clear HO189
     clear HO193
     clear HO196
     clear HO200
     clear HO204
     clear BK176
     clear BK186
     clear HB
     have HO_1 := n0_
     have HO_2 := n1_
     have HO_177002 := n2_
     have HO185 := n3_
     have HO189 := n4_
     have HO193 := n5_
     have HO196 := n6_
     have HO200 := n7_
     have HO204 := n8_
     have BK176 := n9_
     have BK186 := n10_
     have HB := n11_
     clear n0_ n1_ n2_ n3_ n4_ n5_ n6_ n7_ n8_ n9_ n10_ n11_
     refine start_ (n := 16) (S := fun w' => w'.cell? ⟨gb186, 0, none⟩ = some (.int .i64 a0_0) ∧ w'.cell? ⟨gb186, 1, none⟩ = some (.int .i64 a0_1) ∧ w'.cell? ⟨gb186, 2, none⟩ = some (.slice Ao37 y183.length co37) ∧ w'.cell? ⟨gb176, 0, none⟩ = some (.int .i64 a0_0) ∧ w'.cell? ⟨gb176, 1, none⟩ = some (.int .i64 a0_1) ∧ w'.cell? ⟨gb176, 2, none⟩ = some (.slice A0_2 l0_2.length c0_2)) (ds := []) #[false, false, false, false, false, false, false, false, false, false, false, false, false, false, false, false] (by kernel_rfl) rfl rfl ⟨(blk_cell BK186.out 0).trans rfl, (blk_cell BK186.out 1).trans rfl, (blk_cell BK186.out 2).trans rfl, (blk_cell BK176.out 0).trans rfl, (blk_cell BK176.out 1).trans rfl, (blk_cell BK176.out 2).trans rfl⟩ (fun hHeld => ?_); refine with_tabW pelotonlaw04_MatmulApplies.tab8 pelotonlaw04_MatmulApplies.bits8 (fun HT_ HW_ => ?_)
     generalize w52.drew = w74 at HO_1 HO_2 HO_177002 HO185 HO189 HO193 HO196 HO200 HO204 BK176 BK186 HB hHeld ⊢
     refine take_ (i := 0) (N := some 69) (v := ?_) (a' := ?_) #[true, false, false, false, false, false, false, false, false, false, false, false, false, false, false, false] rfl rfl (take_ofW HT_.out HW_.out (by kernel_rfl)) (fun _ _ _ h => h) (Or.inl ⟨by rfl, ?_⟩) hHeld ?_ ?_
     rotate_left
     ·
      rintro w' ⟨s0, s1, s2, s3, s4, s5⟩
      go_simp
      with_reducible rfl
     rotate_left
     ·
      simp only [Act.put, l_1, l_2, l_3, i64_w, i32_w]
      rfl
     refine take_ (i := 1) (N := some 70) (v := ?_) (a' := ?_) #[true, true, false, false, false, false, false, false, false, false, false, false, false, false, false, false] rfl rfl (take_ofW HT_.out HW_.out (by kernel_rfl)) (fun _ _ _ h => h) (Or.inl ⟨by rfl, ?_⟩) hHeld ?_ ?_
     rotate_left
     ·
      rintro w' ⟨s0, s1, s2, s3, s4, s5⟩
      go_simp
      with_reducible rfl
     rotate_left
     ·
      simp only [Act.put, l_1, l_2, l_3, i64_w, i32_w]
      rfl
     refine one_ (i := 2) (N := some 71) #[true, true, true, false, false, false, false, false, false, false, false, false, false, false, false, false] rfl rfl (one_of HT_.out (by kernel_rfl)) (by decide) (fun K hK => ?_)
     refine goes_ Try.func18 (by kernel_rfl) rfl #[.agg #[.int .i64 a0_0, .int .i64 a0_1, .slice Ao37 y183.length co37], .agg #[.int .i64 a0_0, .int .i64 a0_1, .slice A0_2 l0_2.length c0_2]] (by rfl) rfl rfl (by (try simp only [l_4, l_5, l_6]); first | done | rfl | (simp only [l_7, l_8]; rfl)) ?_
     with_reducible refine (pelotonref04_Same.calls kj3 a0_0 a0_1 _ _ y183 a0_0 a0_1 _ _ l0_2 false _ ?side1 ?side2 ?side3 ?side4 A53.out).mono ?_
     (case side1 => repeat (first | exact (Kd.R_reads' HO185.out).2.2 | (with_reducible refine Kd.C_alloc ?_ _) | (with_reducible refine Kd.C_drewN ?_ _) | (with_reducible refine Kd.C_drew ?_)))
     (case side2 => exact (Kd.R_reads' HO185.out).2.1)
     (case side3 => repeat (first | exact (Kd.V_reads' HO_177002.out).2.2 | (with_reducible refine Kd.C_alloc ?_ _) | (with_reducible refine Kd.C_drewN ?_ _) | (with_reducible refine Kd.C_drew ?_)))
     (case side4 => exact (Kd.V_reads' HO_177002.out).2.1)
     rintro e w75 ⟨rfl, hb⟩
     refine ⟨_, rfl, ?_⟩
     have n0_ := Aside0.mk (Kd.V_below (by (with_reducible repeat (first | apply Kd.V_alloc | apply Kd.V_drewN | apply Kd.V_drew)); exact HO_1.out) hb)
     have n1_ := Aside0.mk (Kd.V_below (by (with_reducible repeat (first | apply Kd.V_alloc | apply Kd.V_drewN | apply Kd.V_drew)); exact HO_2.out) hb)
     have n2_ := Aside0.mk (Kd.V_below (by (with_reducible repeat (first | apply Kd.V_alloc | apply Kd.V_drewN | apply Kd.V_drew)); exact HO_177002.out) hb)
     have n3_ := Aside0.mk (Kd.R_below (by (with_reducible repeat (first | apply Kd.R_alloc | apply Kd.R_drewN | apply Kd.R_drew)); exact HO185.out) hb)
     have n4_ := Aside0.mk (Kd.R_below (by (with_reducible repeat (first | apply Kd.R_alloc | apply Kd.R_drewN | apply Kd.R_drew)); exact HO189.out) hb)
     have n5_ := Aside0.mk (Kd.N_below (by (with_reducible repeat (first | apply Kd.N_alloc | apply Kd.N_drewN | apply Kd.N_drew)); exact HO193.out) hb)
     have n6_ := Aside0.mk (Kd.N_below (by (with_reducible repeat (first | apply Kd.N_alloc | apply Kd.N_drewN | apply Kd.N_drew)); exact HO196.out) hb)
     have n7_ := Aside0.mk (Kd.R_below (by (with_reducible repeat (first | apply Kd.R_alloc | apply Kd.R_drewN | apply Kd.R_drew)); exact HO200.out) hb)
     have n8_ := Aside0.mk (Kd.R_below (by (with_reducible repeat (first | apply Kd.R_alloc | apply Kd.R_drewN | apply Kd.R_drew)); exact HO204.out) hb)
     have n9_ := Aside0.mk (blk_below (g := gb176) (o := .cells #[.int .i64 a0_0, .int .i64 a0_1, .slice A0_2 l0_2.length c0_2] 30 (0, 0)) (by (with_reducible repeat (first | refine k_n ?_ _ | refine k_d ?_ | refine k_a ?_ _)); exact BK176.out) hb)
     have n10_ := Aside0.mk (blk_below (g := gb186) (o := .cells #[.int .i64 a0_0, .int .i64 a0_1, .slice Ao37 y183.length co37] 30 (0, 0)) (by (with_reducible repeat (first | refine k_n ?_ _ | refine k_d ?_ | refine k_a ?_ _)); exact BK186.out) hb)
     have n11_ := Aside0.mk (below_step (by repeat (first | (with_reducible first | exact HB.out | apply b_a | apply b_n | apply b_d | refine b_s ?_ GE176.out | refine b_s ?_ GE186.out) | exact HB.out)) hb)
     clear HO_1
     clear HO_2
     clear HO_177002
     clear HO185
     clear HO189
     clear HO193
     clear HO196
     clear HO200
     clear HO204
     clear BK176
     clear BK186
     clear HB
     have HO_1 := n0_
     have HO_2 := n1_
     have HO_177002 := n2_
     have HO185 := n3_
     have HO189 := n4_
     have HO193 := n5_
     have HO196 := n6_
     have HO200 := n7_
     have HO204 := n8_
     have BK176 := n9_
     have BK186 := n10_
     have HB := n11_
     clear n0_ n1_ n2_ n3_ n4_ n5_ n6_ n7_ n8_ n9_ n10_ n11_
     (try clear hb)
     (try clear hb2)
     (try clear hk)
     (try clear hi)
     refine hK.out _ _ ⟨(blk_cell BK186.out 0).trans rfl, (blk_cell BK186.out 1).trans rfl, (blk_cell BK186.out 2).trans rfl, (blk_cell BK176.out 0).trans rfl, (blk_cell BK176.out 1).trans rfl, (blk_cell BK176.out 2).trans rfl⟩ (fun hHeld => ?_)
     clear hK K
     refine norm_ (a' := ?_) ?_ ?_
     rotate_left
     ·
      show Act.put _ (some 71) _ = _
      simp only [Act.put, l_1, l_2, l_3, i64_w, i32_w]
      rfl
     refine pure_ (i := 3) (N := some 72) (v := ?_) (a' := ?_) #[true, true, true, true, false, false, false, false, false, false, false, false, false, false, false, false] rfl rfl (any_of HT_.out (by kernel_rfl)) (fun _ _ _ h => h) (Or.inl ⟨by rfl, ?_⟩) ?_ ?_
     rotate_left
     ·
      intro w'
      go_simp
      with_reducible rfl
     rotate_left
     ·
      simp only [Act.put, l_1, l_2, l_3, i64_w, i32_w]
      rfl
     refine pure_ (i := 4) (N := some 73) (v := ?_) (a' := ?_) #[true, true, true, true, true, false, false, false, false, false, false, false, false, false, false, false] rfl rfl (any_of HT_.out (by kernel_rfl)) (fun _ _ _ h => h) (Or.inl ⟨by rfl, ?_⟩) ?_ ?_
     rotate_left
     ·
      intro w'
      go_simp
      with_reducible rfl
     rotate_left
     ·
      simp only [Act.put, l_1, l_2, l_3, i64_w, i32_w]
      rfl
     refine pure_ (i := 5) (N := some 74) (v := undef) (a' := ?_) #[true, true, true, true, true, true, false, false, false, false, false, false, false, false, false, false] rfl rfl (any_of HT_.out (by kernel_rfl)) (fun _ _ _ h => h) (Or.inr ⟨by rfl, rfl⟩) ?_ ?_
     rotate_left
     ·
      simp only [Act.put, l_1, l_2, l_3, i64_w, i32_w]
      rfl
     refine pure_ (i := 6) (N := some 75) (v := undef) (a' := ?_) #[true, true, true, true, true, true, true, false, false, false, false, false, false, false, false, false] rfl rfl (any_of HT_.out (by kernel_rfl)) (fun _ _ _ h => h) (Or.inr ⟨by rfl, rfl⟩) ?_ ?_
     rotate_left
     ·
      simp only [Act.put, l_1, l_2, l_3, i64_w, i32_w]
      rfl
     refine pure_ (i := 7) (N := some 76) (v := undef) (a' := ?_) #[true, true, true, true, true, true, true, true, false, false, false, false, false, false, false, false] rfl rfl (any_of HT_.out (by kernel_rfl)) (fun _ _ _ h => h) (Or.inr ⟨by rfl, rfl⟩) ?_ ?_
     rotate_left
     ·
      simp only [Act.put, l_1, l_2, l_3, i64_w, i32_w]
      rfl
     refine pure_ (i := 8) (N := some 77) (v := undef) (a' := ?_) #[true, true, true, true, true, true, true, true, true, false, false, false, false, false, false, false] rfl rfl (any_of HT_.out (by kernel_rfl)) (fun _ _ _ h => h) (Or.inr ⟨by rfl, rfl⟩) ?_ ?_
     rotate_left
     ·
      simp only [Act.put, l_1, l_2, l_3, i64_w, i32_w]
      rfl
     refine pure_ (i := 9) (N := some 78) (v := undef) (a' := ?_) #[true, true, true, true, true, true, true, true, true, true, false, false, false, false, false, false] rfl rfl (any_of HT_.out (by kernel_rfl)) (fun _ _ _ h => h) (Or.inr ⟨by rfl, rfl⟩) ?_ ?_
     rotate_left
     ·
      simp only [Act.put, l_1, l_2, l_3, i64_w, i32_w]
      rfl
     refine pure_ (i := 10) (N := some 79) (v := undef) (a' := ?_) #[true, true, true, true, true, true, true, true, true, true, true, false, false, false, false, false] rfl rfl (any_of HT_.out (by kernel_rfl)) (fun _ _ _ h => h) (Or.inr ⟨by rfl, rfl⟩) ?_ ?_
     rotate_left
     ·
      simp only [Act.put, l_1, l_2, l_3, i64_w, i32_w]
      rfl
     refine pure_ (i := 11) (N := some 80) (v := ?_) (a' := ?_) #[true, true, true, true, true, true, true, true, true, true, true, true, false, false, false, false] rfl rfl (any_of HT_.out (by kernel_rfl)) (fun _ _ _ h => h) (Or.inl ⟨by rfl, ?_⟩) ?_ ?_
     rotate_left
     ·
      intro w'
      go_simp
      with_reducible rfl
     rotate_left
     ·
      simp only [Act.put, l_1, l_2, l_3, i64_w, i32_w]
      rfl
     refine pure_ (i := 12) (N := some 81) (v := ?_) (a' := ?_) #[true, true, true, true, true, true, true, true, true, true, true, true, true, false, false, false] rfl rfl (any_of HT_.out (by kernel_rfl)) (fun _ _ _ h => h) (Or.inl ⟨by rfl, ?_⟩) ?_ ?_
     rotate_left
     ·
      intro w'
      go_simp
      with_reducible rfl
     rotate_left
     ·
      simp only [Act.put, l_1, l_2, l_3, i64_w, i32_w]
      rfl
     refine pure_ (i := 13) (N := some 82) (v := undef) (a' := ?_) #[true, true, true, true, true, true, true, true, true, true, true, true, true, true, false, false] rfl rfl (any_of HT_.out (by kernel_rfl)) (fun _ _ _ h => h) (Or.inr ⟨by rfl, rfl⟩) ?_ ?_
     rotate_left
     ·
      simp only [Act.put, l_1, l_2, l_3, i64_w, i32_w]
      rfl
     refine pure_ (i := 14) (N := some 83) (v := undef) (a' := ?_) #[true, true, true, true, true, true, true, true, true, true, true, true, true, true, true, false] rfl rfl (any_of HT_.out (by kernel_rfl)) (fun _ _ _ h => h) (Or.inr ⟨by rfl, rfl⟩) ?_ ?_
     rotate_left
     ·
      simp only [Act.put, l_1, l_2, l_3, i64_w, i32_w]
      rfl
     refine pure_ (i := 15) (N := some 84) (v := ?_) (a' := ?_) #[true, true, true, true, true, true, true, true, true, true, true, true, true, true, true, true] rfl rfl (any_of HT_.out (by kernel_rfl)) (fun _ _ _ h => h) (Or.inl ⟨by rfl, ?_⟩) ?_ ?_
     rotate_left
     ·
      intro w'
      go_simp
      with_reducible rfl
     rotate_left
     ·
      simp only [Act.put, l_1, l_2, l_3, i64_w, i32_w]
      rfl
     refine done_ (done_of HT_.out (by kernel_rfl)) ?_
     try go_wp2
     go_meet
     case rel => exact ⟨_, (true), (by first | rfl | (simp; done) | (simp [*]; done)), H', ⟨by have := HJ3.out; first | omega | exact Nat.le_refl _⟩, ⟨by (with_reducible repeat (first | apply Kd.R_alloc | apply Kd.R_drewN | apply Kd.R_drew)); exact Kd.R_mono HO189.out (fun _ hk => ⟨hk.1.1.1, ⟨hk.1.2, hk.2⟩⟩)⟩, ⟨by (with_reducible repeat (first | apply Kd.N_alloc | apply Kd.N_drewN | apply Kd.N_drew)); exact Kd.N_mono HO196.out (fun _ hk => ⟨hk.1.1.1, ⟨hk.1.1.2.2.1, ⟨hk.1.2, ⟨hk.2, ⟨hk.1.1.2.1, ⟨hk.1.1.2.2.2.2.1, hk.1.1.2.2.2.2.2⟩⟩⟩⟩⟩⟩)⟩, ⟨by (with_reducible repeat (first | apply Kd.R_alloc | apply Kd.R_drewN | apply Kd.R_drew)); exact Kd.R_mono HO200.out (fun _ hk => ⟨hk.1.1.1, ⟨hk.1.2, hk.2⟩⟩)⟩, ⟨by (with_reducible repeat (first | apply Kd.R_alloc | apply Kd.R_drewN | apply Kd.R_drew)); exact Kd.R_mono HO204.out (fun _ hk => ⟨hk.1.1.1, ⟨hk.1.2, hk.2⟩⟩)⟩, ⟨by (with_reducible repeat (first | apply Kd.V_alloc | apply Kd.V_drewN | apply Kd.V_drew)); exact Kd.V_mono HO_177002.out (fun _ hk => ⟨hk.1.1.1.1.1.1, ⟨hk.1.1.1.1.2, ⟨hk.1.1.2, ⟨hk.1.2, ⟨hk.2, ⟨hk.1.1.1.1.1.2.1, ⟨hk.1.1.1.1.1.2.2.1, hk.1.1.1.1.1.2.2.2⟩⟩⟩⟩⟩⟩⟩)⟩, ⟨by (with_reducible repeat (first | apply Kd.R_alloc | apply Kd.R_drewN | apply Kd.R_drew)); exact HO185.out⟩, ⟨by (with_reducible repeat (first | refine k_n ?_ _ | refine k_d ?_ | refine k_a ?_ _)); exact BK176.out⟩, ⟨by (with_reducible repeat (first | refine k_n ?_ _ | refine k_d ?_ | refine k_a ?_ _)); exact BK186.out⟩, ⟨by repeat (first | (with_reducible first | exact HB.out | apply b_a | apply b_n | apply b_d | refine b_s ?_ GE176.out | refine b_s ?_ GE186.out) | exact HB.out)⟩⟩
    subst c54
    have H1 : ((matmul_Right.f kj3 (([(⟨a0_0, a0_1, l0_2⟩ : S30)] : List (S30)))).bind fun t210 => ((pelotonref04_Right.f a0_0 a0_1 l0_2).bind fun t211 => (if (t210 != t211) = true then (pelotonlaw04_MatmulApplies.j1 kj3 t187 t190 t194 t197 t198 t201 t202 t205 true) else ((matmul_Right.f kj3 ([] : List (S30))).bind fun t212 => (pelotonlaw04_MatmulApplies.j1 kj3 t187 t190 t194 t197 t198 t201 t202 t205 (!t212)))))) = some r := by rw [if_pos rfl] at H; exact H
    clear H
    have H := H1
    clear H1
    obtain ⟨y207, hy207⟩ : ∃ y_ : List (S30), y_ = (([(⟨a0_0, a0_1, l0_2⟩ : S30)] : List (S30))) := ⟨_, rfl⟩
    replace H : ((matmul_Right.f kj3 y207).bind fun t210 => ((pelotonref04_Right.f a0_0 a0_1 l0_2).bind fun t211 => (if (t210 != t211) = true then (pelotonlaw04_MatmulApplies.j1 kj3 t187 t190 t194 t197 t198 t201 t202 t205 true) else ((matmul_Right.f kj3 ([] : List (S30))).bind fun t212 => (pelotonlaw04_MatmulApplies.j1 kj3 t187 t190 t194 t197 t198 t201 t202 t205 (!t212)))))) = some r := by first | (rw [hy207]; with_reducible exact H) | (have H2_ := (Option.bind_some _ _).symm.trans H; rw [hy207]; with_reducible exact H2_) | (have H2_ := (Option.bind_some _ _).symm.trans H; with_reducible exact H2_) | with_reducible exact H | (rw [hy207]; exact H) | exact H
    have Ny207 := Aside0.mk hy207
    clear hy207
    replace H := Option.bind_eq_some_iff.mp H
    obtain ⟨t210, A550, H⟩ := H
    replace H : ((pelotonref04_Right.f a0_0 a0_1 l0_2).bind fun t211 => (if (t210 != t211) = true then (pelotonlaw04_MatmulApplies.j1 kj3 t187 t190 t194 t197 t198 t201 t202 t205 true) else ((matmul_Right.f kj3 ([] : List (S30))).bind fun t212 => (pelotonlaw04_MatmulApplies.j1 kj3 t187 t190 t194 t197 t198 t201 t202 t205 (!t212))))) = some r := H
    have A55 := Aside0.mk A550
    clear A550
    replace H := Option.bind_eq_some_iff.mp H
    obtain ⟨t211, A560, H⟩ := H
    replace H : (if (t210 != t211) = true then (pelotonlaw04_MatmulApplies.j1 kj3 t187 t190 t194 t197 t198 t201 t202 t205 true) else ((matmul_Right.f kj3 ([] : List (S30))).bind fun t212 => (pelotonlaw04_MatmulApplies.j1 kj3 t187 t190 t194 t197 t198 t201 t202 t205 (!t212)))) = some r := H
    have A56 := Aside0.mk A560
    clear A560
    by_cases c57 : (t210 != t211) = true
    ·
     rw [if_pos c57] at H
     have c57b0 : (t210 != t211) = true := c57
     (try (have c57b1 : decide (t210 = t211) = false := by simpa using c57))
     (try (have c57b2 : (t210 == t211) = false := by simpa using c57))
     (try (have c57b3 : ¬ (t210 = t211) := by simpa using c57))
     clear c57
     (first | rw [c57b0] | (simp only [i64_w, i32_w]; rw [c57b0]) | skip)
     have H' := Aside0.mk H
     clear H
     try go_wp2
     have n0_ := Aside0.mk (Kd.V_drew HO_1.out)
     have n1_ := Aside0.mk (Kd.V_drew HO_2.out)
     have n2_ := Aside0.mk (Kd.V_drew HO_177002.out)
     have n3_ := Aside0.mk (Kd.R_drew HO185.out)
     have n4_ := Aside0.mk (Kd.R_drew HO189.out)
     have n5_ := Aside0.mk (Kd.N_drew HO193.out)
     have n6_ := Aside0.mk (Kd.N_drew HO196.out)
     have n7_ := Aside0.mk (Kd.R_drew HO200.out)
     have n8_ := Aside0.mk (Kd.R_drew HO204.out)
     have n9_ := Aside0.mk (k_d BK176.out)
     have n10_ := Aside0.mk (k_d BK186.out)
     have n11_ := Aside0.mk (b_d HB.out)
     clear HO_1
     clear HO_2
     clear HO_177002
     clear HO185
     clear HO189
     clear HO193
     clear HO196
     clear HO200
     clear HO204
     clear BK176
     clear BK186
     clear HB
     have HO_1 := n0_
     have HO_2 := n1_
     have HO_177002 := n2_
     have HO185 := n3_
     have HO189 := n4_
     have HO193 := n5_
     have HO196 := n6_
     have HO200 := n7_
     have HO204 := n8_
     have BK176 := n9_
     have BK186 := n10_
     have HB := n11_
     clear n0_ n1_ n2_ n3_ n4_ n5_ n6_ n7_ n8_ n9_ n10_ n11_
     refine start_ (n := 16) (S := fun w' => w'.cell? ⟨gb186, 0, none⟩ = some (.int .i64 a0_0) ∧ w'.cell? ⟨gb186, 1, none⟩ = some (.int .i64 a0_1) ∧ w'.cell? ⟨gb186, 2, none⟩ = some (.slice Ao37 y183.length co37) ∧ w'.cell? ⟨gb176, 0, none⟩ = some (.int .i64 a0_0) ∧ w'.cell? ⟨gb176, 1, none⟩ = some (.int .i64 a0_1) ∧ w'.cell? ⟨gb176, 2, none⟩ = some (.slice A0_2 l0_2.length c0_2)) (ds := []) #[false, false, false, false, false, false, false, false, false, false, false, false, false, false, false, false] (by kernel_rfl) rfl rfl ⟨(blk_cell BK186.out 0).trans rfl, (blk_cell BK186.out 1).trans rfl, (blk_cell BK186.out 2).trans rfl, (blk_cell BK176.out 0).trans rfl, (blk_cell BK176.out 1).trans rfl, (blk_cell BK176.out 2).trans rfl⟩ (fun hHeld => ?_); refine with_tabW pelotonlaw04_MatmulApplies.tab8 pelotonlaw04_MatmulApplies.bits8 (fun HT_ HW_ => ?_)
     generalize w52.drew = w58 at HO_1 HO_2 HO_177002 HO185 HO189 HO193 HO196 HO200 HO204 BK176 BK186 HB hHeld ⊢
     refine take_ (i := 0) (N := some 69) (v := ?_) (a' := ?_) #[true, false, false, false, false, false, false, false, false, false, false, false, false, false, false, false] rfl rfl (take_ofW HT_.out HW_.out (by kernel_rfl)) (fun _ _ _ h => h) (Or.inl ⟨by rfl, ?_⟩) hHeld ?_ ?_
     rotate_left
     ·
      rintro w' ⟨s0, s1, s2, s3, s4, s5⟩
      go_simp
      with_reducible rfl
     rotate_left
     ·
      simp only [Act.put, l_1, l_2, l_3, i64_w, i32_w]
      rfl
     refine take_ (i := 1) (N := some 70) (v := ?_) (a' := ?_) #[true, true, false, false, false, false, false, false, false, false, false, false, false, false, false, false] rfl rfl (take_ofW HT_.out HW_.out (by kernel_rfl)) (fun _ _ _ h => h) (Or.inl ⟨by rfl, ?_⟩) hHeld ?_ ?_
     rotate_left
     ·
      rintro w' ⟨s0, s1, s2, s3, s4, s5⟩
      go_simp
      with_reducible rfl
     rotate_left
     ·
      simp only [Act.put, l_1, l_2, l_3, i64_w, i32_w]
      rfl
     refine one_ (i := 2) (N := some 71) #[true, true, true, false, false, false, false, false, false, false, false, false, false, false, false, false] rfl rfl (one_of HT_.out (by kernel_rfl)) (by decide) (fun K hK => ?_)
     refine goes_ Try.func18 (by kernel_rfl) rfl #[.agg #[.int .i64 a0_0, .int .i64 a0_1, .slice Ao37 y183.length co37], .agg #[.int .i64 a0_0, .int .i64 a0_1, .slice A0_2 l0_2.length c0_2]] (by rfl) rfl rfl (by (try simp only [l_4, l_5, l_6]); first | done | rfl | (simp only [l_7, l_8]; rfl)) ?_
     with_reducible refine (pelotonref04_Same.calls kj3 a0_0 a0_1 _ _ y183 a0_0 a0_1 _ _ l0_2 true _ ?side1 ?side2 ?side3 ?side4 A53.out).mono ?_
     (case side1 => repeat (first | exact (Kd.R_reads' HO185.out).2.2 | (with_reducible refine Kd.C_alloc ?_ _) | (with_reducible refine Kd.C_drewN ?_ _) | (with_reducible refine Kd.C_drew ?_)))
     (case side2 => exact (Kd.R_reads' HO185.out).2.1)
     (case side3 => repeat (first | exact (Kd.V_reads' HO_177002.out).2.2 | (with_reducible refine Kd.C_alloc ?_ _) | (with_reducible refine Kd.C_drewN ?_ _) | (with_reducible refine Kd.C_drew ?_)))
     (case side4 => exact (Kd.V_reads' HO_177002.out).2.1)
     rintro e w59 ⟨rfl, hb⟩
     refine ⟨_, rfl, ?_⟩
     have n0_ := Aside0.mk (Kd.V_below (by (with_reducible repeat (first | apply Kd.V_alloc | apply Kd.V_drewN | apply Kd.V_drew)); exact HO_1.out) hb)
     have n1_ := Aside0.mk (Kd.V_below (by (with_reducible repeat (first | apply Kd.V_alloc | apply Kd.V_drewN | apply Kd.V_drew)); exact HO_2.out) hb)
     have n2_ := Aside0.mk (Kd.V_below (by (with_reducible repeat (first | apply Kd.V_alloc | apply Kd.V_drewN | apply Kd.V_drew)); exact HO_177002.out) hb)
     have n3_ := Aside0.mk (Kd.R_below (by (with_reducible repeat (first | apply Kd.R_alloc | apply Kd.R_drewN | apply Kd.R_drew)); exact HO185.out) hb)
     have n4_ := Aside0.mk (Kd.R_below (by (with_reducible repeat (first | apply Kd.R_alloc | apply Kd.R_drewN | apply Kd.R_drew)); exact HO189.out) hb)
     have n5_ := Aside0.mk (Kd.N_below (by (with_reducible repeat (first | apply Kd.N_alloc | apply Kd.N_drewN | apply Kd.N_drew)); exact HO193.out) hb)
     have n6_ := Aside0.mk (Kd.N_below (by (with_reducible repeat (first | apply Kd.N_alloc | apply Kd.N_drewN | apply Kd.N_drew)); exact HO196.out) hb)
     have n7_ := Aside0.mk (Kd.R_below (by (with_reducible repeat (first | apply Kd.R_alloc | apply Kd.R_drewN | apply Kd.R_drew)); exact HO200.out) hb)
     have n8_ := Aside0.mk (Kd.R_below (by (with_reducible repeat (first | apply Kd.R_alloc | apply Kd.R_drewN | apply Kd.R_drew)); exact HO204.out) hb)
     have n9_ := Aside0.mk (blk_below (g := gb176) (o := .cells #[.int .i64 a0_0, .int .i64 a0_1, .slice A0_2 l0_2.length c0_2] 30 (0, 0)) (by (with_reducible repeat (first | refine k_n ?_ _ | refine k_d ?_ | refine k_a ?_ _)); exact BK176.out) hb)
     have n10_ := Aside0.mk (blk_below (g := gb186) (o := .cells #[.int .i64 a0_0, .int .i64 a0_1, .slice Ao37 y183.length co37] 30 (0, 0)) (by (with_reducible repeat (first | refine k_n ?_ _ | refine k_d ?_ | refine k_a ?_ _)); exact BK186.out) hb)
     have n11_ := Aside0.mk (below_step (by repeat (first | (with_reducible first | exact HB.out | apply b_a | apply b_n | apply b_d | refine b_s ?_ GE176.out | refine b_s ?_ GE186.out) | exact HB.out)) hb)
     clear HO_1
     clear HO_2
     clear HO_177002
     clear HO185
     clear HO189
     clear HO193
     clear HO196
     clear HO200
     clear HO204
     clear BK176
     clear BK186
     clear HB
     have HO_1 := n0_
     have HO_2 := n1_
     have HO_177002 := n2_
     have HO185 := n3_
     have HO189 := n4_
     have HO193 := n5_
     have HO196 := n6_
     have HO200 := n7_
     have HO204 := n8_
     have BK176 := n9_
     have BK186 := n10_
     have HB := n11_
     clear n0_ n1_ n2_ n3_ n4_ n5_ n6_ n7_ n8_ n9_ n10_ n11_
     (try clear hb)
     (try clear hb2)
     (try clear hk)
     (try clear hi)
     refine hK.out _ _ ⟨(blk_cell BK186.out 0).trans rfl, (blk_cell BK186.out 1).trans rfl, (blk_cell BK186.out 2).trans rfl, (blk_cell BK176.out 0).trans rfl, (blk_cell BK176.out 1).trans rfl, (blk_cell BK176.out 2).trans rfl⟩ (fun hHeld => ?_)
     clear hK K
     refine norm_ (a' := ?_) ?_ ?_
     rotate_left
     ·
      show Act.put _ (some 71) _ = _
      simp only [Act.put, l_1, l_2, l_3, i64_w, i32_w]
      rfl
     refine pure_ (i := 3) (N := some 72) (v := ?_) (a' := ?_) #[true, true, true, true, false, false, false, false, false, false, false, false, false, false, false, false] rfl rfl (any_of HT_.out (by kernel_rfl)) (fun _ _ _ h => h) (Or.inl ⟨by rfl, ?_⟩) ?_ ?_
     rotate_left
     ·
      intro w'
      go_simp
      with_reducible rfl
     rotate_left
     ·
      simp only [Act.put, l_1, l_2, l_3, i64_w, i32_w]
      rfl
     refine pure_ (i := 4) (N := some 73) (v := ?_) (a' := ?_) #[true, true, true, true, true, false, false, false, false, false, false, false, false, false, false, false] rfl rfl (any_of HT_.out (by kernel_rfl)) (fun _ _ _ h => h) (Or.inl ⟨by rfl, ?_⟩) ?_ ?_
     rotate_left
     ·
      intro w'
      go_simp
      with_reducible rfl
     rotate_left
     ·
      simp only [Act.put, l_1, l_2, l_3, i64_w, i32_w]
      rfl
     refine take_ (i := 5) (N := some 74) (v := ?_) (a' := ?_) #[true, true, true, true, true, true, false, false, false, false, false, false, false, false, false, false] rfl rfl (take_ofW HT_.out HW_.out (by kernel_rfl)) (fun _ _ _ h => h) (Or.inl ⟨by rfl, ?_⟩) hHeld ?_ ?_
     rotate_left
     ·
      rintro w' ⟨s0, s1, s2, s3, s4, s5⟩
      go_simp
      with_reducible rfl
     rotate_left
     ·
      simp only [Act.put, l_1, l_2, l_3, i64_w, i32_w]
      rfl
     refine take_ (i := 8) (N := some 77) (v := ?_) (a' := ?_) #[true, true, true, true, true, true, false, false, true, false, false, false, false, false, false, false] rfl rfl (take_ofW HT_.out HW_.out (by kernel_rfl)) (fun _ _ _ h => h) (Or.inl ⟨by rfl, ?_⟩) hHeld ?_ ?_
     rotate_left
     ·
      rintro w' ⟨s0, s1, s2, s3, s4, s5⟩
      go_simp
      with_reducible rfl
     rotate_left
     ·
      simp only [Act.put, l_1, l_2, l_3, i64_w, i32_w]
      rfl
     refine one_ (i := 6) (N := some 75) #[true, true, true, true, true, true, true, false, true, false, false, false, false, false, false, false] rfl rfl (one_of HT_.out (by kernel_rfl)) (by decide) (fun K hK => ?_)
     refine Kd.N_lit_step k30 _ 30 ?hg (N' := 75) ?hd (xs := ([(⟨a0_0, a0_1, l0_2⟩ : S30)] : List (S30))) (inner := [.int .i64 a0_0, .int .i64 a0_1, .slice A0_2 l0_2.length c0_2]) (ok := (fun k_ => ((P0_2_ k_ ∨ P1_ k_ ∨ P2_ k_) ∨ w.heap.size ≤ k_) ∧ some k_ ≠ (.slice Ao37 y183.length co37 : Value).ownBlock ∧ some k_ ≠ (v188 : Value).ownBlock ∧ some k_ ≠ (.slice Ao47 y191.length co47 : Value).ownBlock ∧ some k_ ≠ (v195 : Value).ownBlock ∧ some k_ ≠ (v199 : Value).ownBlock ∧ some k_ ≠ (v203 : Value).ownBlock ∧ k_ ≠ gb176 ∧ k_ ≠ gb186)) (okp := (fun k_ => ((P0_2_ k_ ∨ P1_ k_ ∨ P2_ k_) ∨ w.heap.size ≤ k_) ∧ some k_ ≠ (.slice Ao37 y183.length co37 : Value).ownBlock ∧ some k_ ≠ (v188 : Value).ownBlock ∧ some k_ ≠ (.slice Ao47 y191.length co47 : Value).ownBlock ∧ some k_ ≠ (v195 : Value).ownBlock ∧ some k_ ≠ (v199 : Value).ownBlock ∧ some k_ ≠ (v203 : Value).ownBlock ∧ k_ ≠ gb176 ∧ k_ ≠ gb186)) ?hr ?hp (fun _ hk => hk) ((show ∀ k_, (_ : Nat) ≤ k_ → (fun k_ => ((P0_2_ k_ ∨ P1_ k_ ∨ P2_ k_) ∨ w.heap.size ≤ k_) ∧ some k_ ≠ (.slice Ao37 y183.length co37 : Value).ownBlock ∧ some k_ ≠ (v188 : Value).ownBlock ∧ some k_ ≠ (.slice Ao47 y191.length co47 : Value).ownBlock ∧ some k_ ≠ (v195 : Value).ownBlock ∧ some k_ ≠ (v199 : Value).ownBlock ∧ some k_ ≠ (v203 : Value).ownBlock ∧ k_ ≠ gb176 ∧ k_ ≠ gb186) k_ from fun k_ hk => ⟨(.inr (Nat.le_trans (below_size (by repeat (first | (with_reducible first | exact HB.out | apply b_a | apply b_n | apply b_d | refine b_s ?_ GE176.out | refine b_s ?_ GE186.out) | exact HB.out))) hk)), Kd.fresh' (Kd.R_lt (by (with_reducible repeat (first | apply Kd.R_alloc | apply Kd.R_drewN | apply Kd.R_drew)); exact HO185.out)) k_ hk, Kd.fresh' (Kd.R_lt (by (with_reducible repeat (first | apply Kd.R_alloc | apply Kd.R_drewN | apply Kd.R_drew)); exact HO189.out)) k_ hk, Kd.fresh' (Kd.N_lt (by (with_reducible repeat (first | apply Kd.N_alloc | apply Kd.N_drewN | apply Kd.N_drew)); exact HO193.out)) k_ hk, Kd.fresh' (Kd.N_lt (by (with_reducible repeat (first | apply Kd.N_alloc | apply Kd.N_drewN | apply Kd.N_drew)); exact HO196.out)) k_ hk, Kd.fresh' (Kd.R_lt (by (with_reducible repeat (first | apply Kd.R_alloc | apply Kd.R_drewN | apply Kd.R_drew)); exact HO200.out)) k_ hk, Kd.fresh' (Kd.R_lt (by (with_reducible repeat (first | apply Kd.R_alloc | apply Kd.R_drewN | apply Kd.R_drew)); exact HO204.out)) k_ hk, Kd.freshB (g := gb176) (o := .cells #[.int .i64 a0_0, .int .i64 a0_1, .slice A0_2 l0_2.length c0_2] 30 (0, 0)) (by (with_reducible repeat (first | refine k_n ?_ _ | refine k_d ?_ | refine k_a ?_ _)); exact BK176.out) k_ hk, Kd.freshB (g := gb186) (o := .cells #[.int .i64 a0_0, .int .i64 a0_1, .slice Ao37 y183.length co37] 30 (0, 0)) (by (with_reducible repeat (first | refine k_n ?_ _ | refine k_d ?_ | refine k_a ?_ _)); exact BK186.out) k_ hk⟩) _ (Nat.le_refl _)) (Below.refl _ _) (Nat.le_refl _) (by simp) ?_; (case hd => rfl); (case hg => rfl); (case hr => first | (go_simp; done) | (go_simp; rfl)); (case hp => exact (Reps.c3 (show Kd.FK k30 _ _ (⟨a0_0, a0_1, l0_2⟩ : S30) [.int .i64 a0_0, .int .i64 a0_1, .slice A0_2 l0_2.length c0_2] from (k30_mkF _ _ (⟨a0_0, a0_1, l0_2⟩ : S30) (Kd.V_reads' (Kd.V_mono (ok' := (fun k_ => ((P0_2_ k_ ∨ P1_ k_ ∨ P2_ k_) ∨ w.heap.size ≤ k_) ∧ some k_ ≠ (.slice Ao37 y183.length co37 : Value).ownBlock ∧ some k_ ≠ (v188 : Value).ownBlock ∧ some k_ ≠ (.slice Ao47 y191.length co47 : Value).ownBlock ∧ some k_ ≠ (v195 : Value).ownBlock ∧ some k_ ≠ (v199 : Value).ownBlock ∧ some k_ ≠ (v203 : Value).ownBlock ∧ k_ ≠ gb176 ∧ k_ ≠ gb186)) (HO_177002.out) (fun k_ hk => ⟨hk.1.1.1.1.1.1, ⟨hk.1.1.1.1.1.2.1, ⟨hk.1.1.1.1.2, ⟨hk.1.1.1.2, ⟨hk.1.1.2, ⟨hk.1.2, ⟨hk.2, ⟨hk.1.1.1.1.1.2.2.1, hk.1.1.1.1.1.2.2.2⟩⟩⟩⟩⟩⟩⟩⟩))).2.1 (Kd.V_F (Kd.V_mono (ok' := (fun k_ => ((P0_2_ k_ ∨ P1_ k_ ∨ P2_ k_) ∨ w.heap.size ≤ k_) ∧ some k_ ≠ (.slice Ao37 y183.length co37 : Value).ownBlock ∧ some k_ ≠ (v188 : Value).ownBlock ∧ some k_ ≠ (.slice Ao47 y191.length co47 : Value).ownBlock ∧ some k_ ≠ (v195 : Value).ownBlock ∧ some k_ ≠ (v199 : Value).ownBlock ∧ some k_ ≠ (v203 : Value).ownBlock ∧ k_ ≠ gb176 ∧ k_ ≠ gb186)) (HO_177002.out) (fun k_ hk => ⟨hk.1.1.1.1.1.1, ⟨hk.1.1.1.1.1.2.1, ⟨hk.1.1.1.1.2, ⟨hk.1.1.1.2, ⟨hk.1.1.2, ⟨hk.1.2, ⟨hk.2, ⟨hk.1.1.1.1.1.2.2.1, hk.1.1.1.1.1.2.2.2⟩⟩⟩⟩⟩⟩⟩⟩))))) (Reps.none _ _)))
     intro v208 w60 ho61 hb hg_ hnew_
     clear hg_ hnew_
     (first | rw [← Ny207.out] at ho61 | (simp only [Int.reduceToNat] at ho61; rw [← Ny207.out] at ho61))
     have n0_ := Aside0.mk (Kd.V_elder' (by (with_reducible repeat (first | apply Kd.V_alloc | apply Kd.V_drewN | apply Kd.V_drew)); exact HO_1.out) (by first | exact Kd.N_base ho61 | exact Kd.N_base (Kd.S_N ho61)) hb)
     have n1_ := Aside0.mk (Kd.V_elder' (by (with_reducible repeat (first | apply Kd.V_alloc | apply Kd.V_drewN | apply Kd.V_drew)); exact HO_2.out) (by first | exact Kd.N_base ho61 | exact Kd.N_base (Kd.S_N ho61)) hb)
     have n2_ := Aside0.mk (Kd.V_elder' (by (with_reducible repeat (first | apply Kd.V_alloc | apply Kd.V_drewN | apply Kd.V_drew)); exact HO_177002.out) (by first | exact Kd.N_base ho61 | exact Kd.N_base (Kd.S_N ho61)) hb)
     have n3_ := Aside0.mk (Kd.R_below (by (with_reducible repeat (first | apply Kd.R_alloc | apply Kd.R_drewN | apply Kd.R_drew)); exact HO185.out) hb)
     have n4_ := Aside0.mk (Kd.R_below (by (with_reducible repeat (first | apply Kd.R_alloc | apply Kd.R_drewN | apply Kd.R_drew)); exact HO189.out) hb)
     have n5_ := Aside0.mk (Kd.N_elder' (by (with_reducible repeat (first | apply Kd.N_alloc | apply Kd.N_drewN | apply Kd.N_drew)); exact HO193.out) (by first | exact Kd.N_base ho61 | exact Kd.N_base (Kd.S_N ho61)) hb)
     have n6_ := Aside0.mk (Kd.N_elder' (by (with_reducible repeat (first | apply Kd.N_alloc | apply Kd.N_drewN | apply Kd.N_drew)); exact HO196.out) (by first | exact Kd.N_base ho61 | exact Kd.N_base (Kd.S_N ho61)) hb)
     have n7_ := Aside0.mk (Kd.R_below (by (with_reducible repeat (first | apply Kd.R_alloc | apply Kd.R_drewN | apply Kd.R_drew)); exact HO200.out) hb)
     have n8_ := Aside0.mk (Kd.R_below (by (with_reducible repeat (first | apply Kd.R_alloc | apply Kd.R_drewN | apply Kd.R_drew)); exact HO204.out) hb)
     have n9_ := Aside0.mk (Kd.N_lower ho61 (below_size (by repeat (first | (with_reducible first | exact HB.out | apply b_a | apply b_n | apply b_d | refine b_s ?_ GE176.out | refine b_s ?_ GE186.out) | exact HB.out))))
     have n10_ := Aside0.mk (blk_below (g := gb176) (o := .cells #[.int .i64 a0_0, .int .i64 a0_1, .slice A0_2 l0_2.length c0_2] 30 (0, 0)) (by (with_reducible repeat (first | refine k_n ?_ _ | refine k_d ?_ | refine k_a ?_ _)); exact BK176.out) hb)
     have n11_ := Aside0.mk (blk_below (g := gb186) (o := .cells #[.int .i64 a0_0, .int .i64 a0_1, .slice Ao37 y183.length co37] 30 (0, 0)) (by (with_reducible repeat (first | refine k_n ?_ _ | refine k_d ?_ | refine k_a ?_ _)); exact BK186.out) hb)
     have n12_ := Aside0.mk (below_step (by repeat (first | (with_reducible first | exact HB.out | apply b_a | apply b_n | apply b_d | refine b_s ?_ GE176.out | refine b_s ?_ GE186.out) | exact HB.out)) hb)
     clear HO_1
     clear HO_2
     clear HO_177002
     clear HO185
     clear HO189
     clear HO193
     clear HO196
     clear HO200
     clear HO204
     clear BK176
     clear BK186
     clear HB
     have HO_1 := n0_
     have HO_2 := n1_
     have HO_177002 := n2_
     have HO185 := n3_
     have HO189 := n4_
     have HO193 := n5_
     have HO196 := n6_
     have HO200 := n7_
     have HO204 := n8_
     have HO209 := n9_
     have BK176 := n10_
     have BK186 := n11_
     have HB := n12_
     clear n0_ n1_ n2_ n3_ n4_ n5_ n6_ n7_ n8_ n9_ n10_ n11_ n12_
     clear hb ho61
     obtain ⟨Ao62, co62, eo62⟩ := Kd.N_slice HO209.out
     (first | subst eo62 | (injection eo62 with f1_ f2_ f3_; have f4_ := f1_.symm; have f5_ := f3_.symm; clear f1_ f2_ f3_; subst f4_; subst f5_))
     refine hK.out _ _ ⟨(blk_cell BK186.out 0).trans rfl, (blk_cell BK186.out 1).trans rfl, (blk_cell BK186.out 2).trans rfl, (blk_cell BK176.out 0).trans rfl, (blk_cell BK176.out 1).trans rfl, (blk_cell BK176.out 2).trans rfl⟩ (fun hHeld => ?_)
     clear hK K
     refine norm_ (a' := ?_) ?_ ?_
     rotate_left
     ·
      show Act.put _ (some 75) _ = _
      simp only [Act.put, l_1, l_2, l_3, i64_w, i32_w]
      rfl
     refine one_ (i := 7) (N := some 76) #[true, true, true, true, true, true, true, true, true, false, false, false, false, false, false, false] rfl rfl (one_of HT_.out (by kernel_rfl)) (by decide) (fun K hK => ?_)
     refine goes_ Try.func19 (by kernel_rfl) rfl #[.slice Ao62 y207.length co62] (by rfl) rfl rfl (by (try simp only [l_4, l_5, l_6]); first | done | rfl | (simp only [l_7, l_8]; rfl)) ?_
     with_reducible refine (matmul_Right.calls kj3 _ _ y207 t210 _ ?side1 ?side2 A55.out).mono ?_
     (case side1 => repeat (first | exact (Kd.N_reads' HO209.out).2.2 | (with_reducible refine Kd.C_alloc ?_ _) | (with_reducible refine Kd.C_drewN ?_ _) | (with_reducible refine Kd.C_drew ?_)))
     (case side2 => exact (Kd.N_reads' HO209.out).2.1)
     rintro e w63 ⟨rfl, hb⟩
     refine ⟨_, rfl, ?_⟩
     have n0_ := Aside0.mk (Kd.V_below (by (with_reducible repeat (first | apply Kd.V_alloc | apply Kd.V_drewN | apply Kd.V_drew)); exact HO_1.out) hb)
     have n1_ := Aside0.mk (Kd.V_below (by (with_reducible repeat (first | apply Kd.V_alloc | apply Kd.V_drewN | apply Kd.V_drew)); exact HO_2.out) hb)
     have n2_ := Aside0.mk (Kd.V_below (by (with_reducible repeat (first | apply Kd.V_alloc | apply Kd.V_drewN | apply Kd.V_drew)); exact HO_177002.out) hb)
     have n3_ := Aside0.mk (Kd.R_below (by (with_reducible repeat (first | apply Kd.R_alloc | apply Kd.R_drewN | apply Kd.R_drew)); exact HO185.out) hb)
     have n4_ := Aside0.mk (Kd.R_below (by (with_reducible repeat (first | apply Kd.R_alloc | apply Kd.R_drewN | apply Kd.R_drew)); exact HO189.out) hb)
     have n5_ := Aside0.mk (Kd.N_below (by (with_reducible repeat (first | apply Kd.N_alloc | apply Kd.N_drewN | apply Kd.N_drew)); exact HO193.out) hb)
     have n6_ := Aside0.mk (Kd.N_below (by (with_reducible repeat (first | apply Kd.N_alloc | apply Kd.N_drewN | apply Kd.N_drew)); exact HO196.out) hb)
     have n7_ := Aside0.mk (Kd.R_below (by (with_reducible repeat (first | apply Kd.R_alloc | apply Kd.R_drewN | apply Kd.R_drew)); exact HO200.out) hb)
     have n8_ := Aside0.mk (Kd.R_below (by (with_reducible repeat (first | apply Kd.R_alloc | apply Kd.R_drewN | apply Kd.R_drew)); exact HO204.out) hb)
     have n9_ := Aside0.mk (Kd.N_below (by (with_reducible repeat (first | apply Kd.N_alloc | apply Kd.N_drewN | apply Kd.N_drew)); exact HO209.out) hb)
     have n10_ := Aside0.mk (blk_below (g := gb176) (o := .cells #[.int .i64 a0_0, .int .i64 a0_1, .slice A0_2 l0_2.length c0_2] 30 (0, 0)) (by (with_reducible repeat (first | refine k_n ?_ _ | refine k_d ?_ | refine k_a ?_ _)); exact BK176.out) hb)
     have n11_ := Aside0.mk (blk_below (g := gb186) (o := .cells #[.int .i64 a0_0, .int .i64 a0_1, .slice Ao37 y183.length co37] 30 (0, 0)) (by (with_reducible repeat (first | refine k_n ?_ _ | refine k_d ?_ | refine k_a ?_ _)); exact BK186.out) hb)
     have n12_ := Aside0.mk (below_step (by repeat (first | (with_reducible first | exact HB.out | apply b_a | apply b_n | apply b_d | refine b_s ?_ GE176.out | refine b_s ?_ GE186.out) | exact HB.out)) hb)
     clear HO_1
     clear HO_2
     clear HO_177002
     clear HO185
     clear HO189
     clear HO193
     clear HO196
     clear HO200
     clear HO204
     clear HO209
     clear BK176
     clear BK186
     clear HB
     have HO_1 := n0_
     have HO_2 := n1_
     have HO_177002 := n2_
     have HO185 := n3_
     have HO189 := n4_
     have HO193 := n5_
     have HO196 := n6_
     have HO200 := n7_
     have HO204 := n8_
     have HO209 := n9_
     have BK176 := n10_
     have BK186 := n11_
     have HB := n12_
     clear n0_ n1_ n2_ n3_ n4_ n5_ n6_ n7_ n8_ n9_ n10_ n11_ n12_
     (try clear hb)
     (try clear hb2)
     (try clear hk)
     (try clear hi)
     refine hK.out _ _ ⟨(blk_cell BK186.out 0).trans rfl, (blk_cell BK186.out 1).trans rfl, (blk_cell BK186.out 2).trans rfl, (blk_cell BK176.out 0).trans rfl, (blk_cell BK176.out 1).trans rfl, (blk_cell BK176.out 2).trans rfl⟩ (fun hHeld => ?_)
     clear hK K
     refine norm_ (a' := ?_) ?_ ?_
     rotate_left
     ·
      show Act.put _ (some 76) _ = _
      simp only [Act.put, l_1, l_2, l_3, i64_w, i32_w]
      rfl
     refine one_ (i := 9) (N := some 78) #[true, true, true, true, true, true, true, true, true, true, false, false, false, false, false, false] rfl rfl (one_of HT_.out (by kernel_rfl)) (by decide) (fun K hK => ?_)
     refine goes_ Try.func13 (by kernel_rfl) rfl #[.agg #[.int .i64 a0_0, .int .i64 a0_1, .slice A0_2 l0_2.length c0_2]] (by rfl) rfl rfl (by (try simp only [l_4, l_5, l_6]); first | done | rfl | (simp only [l_7, l_8]; rfl)) ?_
     with_reducible refine (pelotonref04_Right.calls a0_0 a0_1 _ _ l0_2 t211 _ ?side1 ?side2 A56.out).mono ?_
     (case side1 => repeat (first | exact (Kd.V_reads' HO_177002.out).2.2 | (with_reducible refine Kd.C_alloc ?_ _) | (with_reducible refine Kd.C_drewN ?_ _) | (with_reducible refine Kd.C_drew ?_)))
     (case side2 => exact (Kd.V_reads' HO_177002.out).2.1)
     rintro e w64 ⟨rfl, hb⟩
     refine ⟨_, rfl, ?_⟩
     have n0_ := Aside0.mk (Kd.V_below (by (with_reducible repeat (first | apply Kd.V_alloc | apply Kd.V_drewN | apply Kd.V_drew)); exact HO_1.out) hb)
     have n1_ := Aside0.mk (Kd.V_below (by (with_reducible repeat (first | apply Kd.V_alloc | apply Kd.V_drewN | apply Kd.V_drew)); exact HO_2.out) hb)
     have n2_ := Aside0.mk (Kd.V_below (by (with_reducible repeat (first | apply Kd.V_alloc | apply Kd.V_drewN | apply Kd.V_drew)); exact HO_177002.out) hb)
     have n3_ := Aside0.mk (Kd.R_below (by (with_reducible repeat (first | apply Kd.R_alloc | apply Kd.R_drewN | apply Kd.R_drew)); exact HO185.out) hb)
     have n4_ := Aside0.mk (Kd.R_below (by (with_reducible repeat (first | apply Kd.R_alloc | apply Kd.R_drewN | apply Kd.R_drew)); exact HO189.out) hb)
     have n5_ := Aside0.mk (Kd.N_below (by (with_reducible repeat (first | apply Kd.N_alloc | apply Kd.N_drewN | apply Kd.N_drew)); exact HO193.out) hb)
     have n6_ := Aside0.mk (Kd.N_below (by (with_reducible repeat (first | apply Kd.N_alloc | apply Kd.N_drewN | apply Kd.N_drew)); exact HO196.out) hb)
     have n7_ := Aside0.mk (Kd.R_below (by (with_reducible repeat (first | apply Kd.R_alloc | apply Kd.R_drewN | apply Kd.R_drew)); exact HO200.out) hb)
     have n8_ := Aside0.mk (Kd.R_below (by (with_reducible repeat (first | apply Kd.R_alloc | apply Kd.R_drewN | apply Kd.R_drew)); exact HO204.out) hb)
     have n9_ := Aside0.mk (Kd.N_below (by (with_reducible repeat (first | apply Kd.N_alloc | apply Kd.N_drewN | apply Kd.N_drew)); exact HO209.out) hb)
     have n10_ := Aside0.mk (blk_below (g := gb176) (o := .cells #[.int .i64 a0_0, .int .i64 a0_1, .slice A0_2 l0_2.length c0_2] 30 (0, 0)) (by (with_reducible repeat (first | refine k_n ?_ _ | refine k_d ?_ | refine k_a ?_ _)); exact BK176.out) hb)
     have n11_ := Aside0.mk (blk_below (g := gb186) (o := .cells #[.int .i64 a0_0, .int .i64 a0_1, .slice Ao37 y183.length co37] 30 (0, 0)) (by (with_reducible repeat (first | refine k_n ?_ _ | refine k_d ?_ | refine k_a ?_ _)); exact BK186.out) hb)
     have n12_ := Aside0.mk (below_step (by repeat (first | (with_reducible first | exact HB.out | apply b_a | apply b_n | apply b_d | refine b_s ?_ GE176.out | refine b_s ?_ GE186.out) | exact HB.out)) hb)
     clear HO_1
     clear HO_2
     clear HO_177002
     clear HO185
     clear HO189
     clear HO193
     clear HO196
     clear HO200
     clear HO204
     clear HO209
     clear BK176
     clear BK186
     clear HB
     have HO_1 := n0_
     have HO_2 := n1_
     have HO_177002 := n2_
     have HO185 := n3_
     have HO189 := n4_
     have HO193 := n5_
     have HO196 := n6_
     have HO200 := n7_
     have HO204 := n8_
     have HO209 := n9_
     have BK176 := n10_
     have BK186 := n11_
     have HB := n12_
     clear n0_ n1_ n2_ n3_ n4_ n5_ n6_ n7_ n8_ n9_ n10_ n11_ n12_
     (try clear hb)
     (try clear hb2)
     (try clear hk)
     (try clear hi)
     refine hK.out _ _ ⟨(blk_cell BK186.out 0).trans rfl, (blk_cell BK186.out 1).trans rfl, (blk_cell BK186.out 2).trans rfl, (blk_cell BK176.out 0).trans rfl, (blk_cell BK176.out 1).trans rfl, (blk_cell BK176.out 2).trans rfl⟩ (fun hHeld => ?_)
     clear hK K
     refine norm_ (a' := ?_) ?_ ?_
     rotate_left
     ·
      show Act.put _ (some 78) _ = _
      simp only [Act.put, l_1, l_2, l_3, i64_w, i32_w]
      rfl
     refine pure_ (i := 10) (N := some 79) (v := ?_) (a' := ?_) #[true, true, true, true, true, true, true, true, true, true, true, false, false, false, false, false] rfl rfl (any_of HT_.out (by kernel_rfl)) (fun _ _ _ h => h) (Or.inl ⟨by rfl, ?_⟩) ?_ ?_
     rotate_left
     ·
      intro w'
      go_simp
      with_reducible rfl
     rotate_left
     ·
      simp only [Act.put, l_1, l_2, l_3, i64_w, i32_w]
      rfl
     refine pure_ (i := 11) (N := some 80) (v := ?_) (a' := ?_) #[true, true, true, true, true, true, true, true, true, true, true, true, false, false, false, false] rfl rfl (any_of HT_.out (by kernel_rfl)) (fun _ _ _ h => h) (Or.inl ⟨by rfl, ?_⟩) ?_ ?_
     rotate_left
     ·
      intro w'
      go_simp
      with_reducible rfl
     rotate_left
     ·
      simp only [Act.put, l_1, l_2, l_3, i64_w, i32_w]
      rfl
     refine pure_ (i := 12) (N := some 81) (v := ?_) (a' := ?_) #[true, true, true, true, true, true, true, true, true, true, true, true, true, false, false, false] rfl rfl (any_of HT_.out (by kernel_rfl)) (fun _ _ _ h => h) (Or.inl ⟨by rfl, ?_⟩) ?_ ?_
     rotate_left
     ·
      intro w'
      go_simp
      with_reducible rfl
     rotate_left
     ·
      simp only [Act.put, l_1, l_2, l_3, i64_w, i32_w]
      rfl
     refine pure_ (i := 13) (N := some 82) (v := undef) (a' := ?_) #[true, true, true, true, true, true, true, true, true, true, true, true, true, true, false, false] rfl rfl (any_of HT_.out (by kernel_rfl)) (fun _ _ _ h => h) (Or.inr ⟨by rfl, rfl⟩) ?_ ?_
     rotate_left
     ·
      simp only [Act.put, l_1, l_2, l_3, i64_w, i32_w]
      rfl
     refine pure_ (i := 14) (N := some 83) (v := undef) (a' := ?_) #[true, true, true, true, true, true, true, true, true, true, true, true, true, true, true, false] rfl rfl (any_of HT_.out (by kernel_rfl)) (fun _ _ _ h => h) (Or.inr ⟨by rfl, rfl⟩) ?_ ?_
     rotate_left
     ·
      simp only [Act.put, l_1, l_2, l_3, i64_w, i32_w]
      rfl
     refine pure_ (i := 15) (N := some 84) (v := ?_) (a' := ?_) #[true, true, true, true, true, true, true, true, true, true, true, true, true, true, true, true] rfl rfl (any_of HT_.out (by kernel_rfl)) (fun _ _ _ h => h) (Or.inl ⟨by rfl, ?_⟩) ?_ ?_
     rotate_left
     ·
      intro w'
      go_simp
      with_reducible rfl
     rotate_left
     ·
      simp only [Act.put, l_1, l_2, l_3, i64_w, i32_w]
      rfl
     refine done_ (done_of HT_.out (by kernel_rfl)) ?_
     try go_wp2
     go_meet
     case rel => exact ⟨_, (true), (by first | rfl | (simp; done) | (simp [*]; done)), H', ⟨by have := HJ3.out; first | omega | exact Nat.le_refl _⟩, ⟨by (with_reducible repeat (first | apply Kd.R_alloc | apply Kd.R_drewN | apply Kd.R_drew)); exact Kd.R_mono HO189.out (fun _ hk => ⟨hk.1.1.1, ⟨hk.1.2, hk.2⟩⟩)⟩, ⟨by (with_reducible repeat (first | apply Kd.N_alloc | apply Kd.N_drewN | apply Kd.N_drew)); exact Kd.N_mono HO196.out (fun _ hk => ⟨hk.1.1.1.1, ⟨hk.1.1.1.2.2.1, ⟨hk.1.1.2, ⟨hk.1.2, ⟨hk.1.1.1.2.1, ⟨hk.1.1.1.2.2.2.2.1, hk.1.1.1.2.2.2.2.2⟩⟩⟩⟩⟩⟩)⟩, ⟨by (with_reducible repeat (first | apply Kd.R_alloc | apply Kd.R_drewN | apply Kd.R_drew)); exact Kd.R_mono HO200.out (fun _ hk => ⟨hk.1.1.1, ⟨hk.1.2, hk.2⟩⟩)⟩, ⟨by (with_reducible repeat (first | apply Kd.R_alloc | apply Kd.R_drewN | apply Kd.R_drew)); exact Kd.R_mono HO204.out (fun _ hk => ⟨hk.1.1.1, ⟨hk.1.2, hk.2⟩⟩)⟩, ⟨by (with_reducible repeat (first | apply Kd.V_alloc | apply Kd.V_drewN | apply Kd.V_drew)); exact Kd.V_mono HO_177002.out (fun _ hk => ⟨hk.1.1.1.1.1.1.1, ⟨hk.1.1.1.1.1.2, ⟨hk.1.1.1.2, ⟨hk.1.1.2, ⟨hk.1.2, ⟨hk.1.1.1.1.1.1.2.1, ⟨hk.1.1.1.1.1.1.2.2.1, hk.1.1.1.1.1.1.2.2.2⟩⟩⟩⟩⟩⟩⟩)⟩, ⟨by (with_reducible repeat (first | apply Kd.R_alloc | apply Kd.R_drewN | apply Kd.R_drew)); exact HO185.out⟩, ⟨by (with_reducible repeat (first | refine k_n ?_ _ | refine k_d ?_ | refine k_a ?_ _)); exact BK176.out⟩, ⟨by (with_reducible repeat (first | refine k_n ?_ _ | refine k_d ?_ | refine k_a ?_ _)); exact BK186.out⟩, ⟨by repeat (first | (with_reducible first | exact HB.out | apply b_a | apply b_n | apply b_d | refine b_s ?_ GE176.out | refine b_s ?_ GE186.out) | exact HB.out)⟩⟩
    rw [if_neg c57] at H
    have c57b0 : (t210 != t211) = false := by simpa using c57
    (try (have c57b1 : decide (t210 = t211) = true := by simpa using c57))
    (try (have c57b2 : (t210 == t211) = true := by simpa using c57))
    clear c57
    (first | rw [c57b0] | (simp only [i64_w, i32_w]; rw [c57b0]) | skip)
    replace H := Option.bind_eq_some_iff.mp H
    obtain ⟨t212, A650, H⟩ := H
    replace H : (pelotonlaw04_MatmulApplies.j1 kj3 t187 t190 t194 t197 t198 t201 t202 t205 (!t212)) = some r := H
    have A65 := Aside0.mk A650
    clear A650
    have H' := Aside0.mk H
    clear H
    try go_wp2
    have n0_ := Aside0.mk (Kd.V_drew HO_1.out)
    have n1_ := Aside0.mk (Kd.V_drew HO_2.out)
    have n2_ := Aside0.mk (Kd.V_drew HO_177002.out)
    have n3_ := Aside0.mk (Kd.R_drew HO185.out)
    have n4_ := Aside0.mk (Kd.R_drew HO189.out)
    have n5_ := Aside0.mk (Kd.N_drew HO193.out)
    have n6_ := Aside0.mk (Kd.N_drew HO196.out)
    have n7_ := Aside0.mk (Kd.R_drew HO200.out)
    have n8_ := Aside0.mk (Kd.R_drew HO204.out)
    have n9_ := Aside0.mk (k_d BK176.out)
    have n10_ := Aside0.mk (k_d BK186.out)
    have n11_ := Aside0.mk (b_d HB.out)
    clear HO_1
    clear HO_2
    clear HO_177002
    clear HO185
    clear HO189
    clear HO193
    clear HO196
    clear HO200
    clear HO204
    clear BK176
    clear BK186
    clear HB
    have HO_1 := n0_
    have HO_2 := n1_
    have HO_177002 := n2_
    have HO185 := n3_
    have HO189 := n4_
    have HO193 := n5_
    have HO196 := n6_
    have HO200 := n7_
    have HO204 := n8_
    have BK176 := n9_
    have BK186 := n10_
    have HB := n11_
    clear n0_ n1_ n2_ n3_ n4_ n5_ n6_ n7_ n8_ n9_ n10_ n11_
    refine start_ (n := 16) (S := fun w' => w'.cell? ⟨gb186, 0, none⟩ = some (.int .i64 a0_0) ∧ w'.cell? ⟨gb186, 1, none⟩ = some (.int .i64 a0_1) ∧ w'.cell? ⟨gb186, 2, none⟩ = some (.slice Ao37 y183.length co37) ∧ w'.cell? ⟨gb176, 0, none⟩ = some (.int .i64 a0_0) ∧ w'.cell? ⟨gb176, 1, none⟩ = some (.int .i64 a0_1) ∧ w'.cell? ⟨gb176, 2, none⟩ = some (.slice A0_2 l0_2.length c0_2)) (ds := []) #[false, false, false, false, false, false, false, false, false, false, false, false, false, false, false, false] (by kernel_rfl) rfl rfl ⟨(blk_cell BK186.out 0).trans rfl, (blk_cell BK186.out 1).trans rfl, (blk_cell BK186.out 2).trans rfl, (blk_cell BK176.out 0).trans rfl, (blk_cell BK176.out 1).trans rfl, (blk_cell BK176.out 2).trans rfl⟩ (fun hHeld => ?_); refine with_tabW pelotonlaw04_MatmulApplies.tab8 pelotonlaw04_MatmulApplies.bits8 (fun HT_ HW_ => ?_)
    generalize w52.drew = w66 at HO_1 HO_2 HO_177002 HO185 HO189 HO193 HO196 HO200 HO204 BK176 BK186 HB hHeld ⊢
    refine take_ (i := 0) (N := some 69) (v := ?_) (a' := ?_) #[true, false, false, false, false, false, false, false, false, false, false, false, false, false, false, false] rfl rfl (take_ofW HT_.out HW_.out (by kernel_rfl)) (fun _ _ _ h => h) (Or.inl ⟨by rfl, ?_⟩) hHeld ?_ ?_
    rotate_left
    ·
     rintro w' ⟨s0, s1, s2, s3, s4, s5⟩
     go_simp
     with_reducible rfl
    rotate_left
    ·
     simp only [Act.put, l_1, l_2, l_3, i64_w, i32_w]
     rfl
    refine take_ (i := 1) (N := some 70) (v := ?_) (a' := ?_) #[true, true, false, false, false, false, false, false, false, false, false, false, false, false, false, false] rfl rfl (take_ofW HT_.out HW_.out (by kernel_rfl)) (fun _ _ _ h => h) (Or.inl ⟨by rfl, ?_⟩) hHeld ?_ ?_
    rotate_left
    ·
     rintro w' ⟨s0, s1, s2, s3, s4, s5⟩
     go_simp
     with_reducible rfl
    rotate_left
    ·
     simp only [Act.put, l_1, l_2, l_3, i64_w, i32_w]
     rfl
    refine one_ (i := 2) (N := some 71) #[true, true, true, false, false, false, false, false, false, false, false, false, false, false, false, false] rfl rfl (one_of HT_.out (by kernel_rfl)) (by decide) (fun K hK => ?_)
    refine goes_ Try.func18 (by kernel_rfl) rfl #[.agg #[.int .i64 a0_0, .int .i64 a0_1, .slice Ao37 y183.length co37], .agg #[.int .i64 a0_0, .int .i64 a0_1, .slice A0_2 l0_2.length c0_2]] (by rfl) rfl rfl (by (try simp only [l_4, l_5, l_6]); first | done | rfl | (simp only [l_7, l_8]; rfl)) ?_
    with_reducible refine (pelotonref04_Same.calls kj3 a0_0 a0_1 _ _ y183 a0_0 a0_1 _ _ l0_2 true _ ?side1 ?side2 ?side3 ?side4 A53.out).mono ?_
    (case side1 => repeat (first | exact (Kd.R_reads' HO185.out).2.2 | (with_reducible refine Kd.C_alloc ?_ _) | (with_reducible refine Kd.C_drewN ?_ _) | (with_reducible refine Kd.C_drew ?_)))
    (case side2 => exact (Kd.R_reads' HO185.out).2.1)
    (case side3 => repeat (first | exact (Kd.V_reads' HO_177002.out).2.2 | (with_reducible refine Kd.C_alloc ?_ _) | (with_reducible refine Kd.C_drewN ?_ _) | (with_reducible refine Kd.C_drew ?_)))
    (case side4 => exact (Kd.V_reads' HO_177002.out).2.1)
    rintro e w67 ⟨rfl, hb⟩
    refine ⟨_, rfl, ?_⟩
    have n0_ := Aside0.mk (Kd.V_below (by (with_reducible repeat (first | apply Kd.V_alloc | apply Kd.V_drewN | apply Kd.V_drew)); exact HO_1.out) hb)
    have n1_ := Aside0.mk (Kd.V_below (by (with_reducible repeat (first | apply Kd.V_alloc | apply Kd.V_drewN | apply Kd.V_drew)); exact HO_2.out) hb)
    have n2_ := Aside0.mk (Kd.V_below (by (with_reducible repeat (first | apply Kd.V_alloc | apply Kd.V_drewN | apply Kd.V_drew)); exact HO_177002.out) hb)
    have n3_ := Aside0.mk (Kd.R_below (by (with_reducible repeat (first | apply Kd.R_alloc | apply Kd.R_drewN | apply Kd.R_drew)); exact HO185.out) hb)
    have n4_ := Aside0.mk (Kd.R_below (by (with_reducible repeat (first | apply Kd.R_alloc | apply Kd.R_drewN | apply Kd.R_drew)); exact HO189.out) hb)
    have n5_ := Aside0.mk (Kd.N_below (by (with_reducible repeat (first | apply Kd.N_alloc | apply Kd.N_drewN | apply Kd.N_drew)); exact HO193.out) hb)
    have n6_ := Aside0.mk (Kd.N_below (by (with_reducible repeat (first | apply Kd.N_alloc | apply Kd.N_drewN | apply Kd.N_drew)); exact HO196.out) hb)
    have n7_ := Aside0.mk (Kd.R_below (by (with_reducible repeat (first | apply Kd.R_alloc | apply Kd.R_drewN | apply Kd.R_drew)); exact HO200.out) hb)
    have n8_ := Aside0.mk (Kd.R_below (by (with_reducible repeat (first | apply Kd.R_alloc | apply Kd.R_drewN | apply Kd.R_drew)); exact HO204.out) hb)
    have n9_ := Aside0.mk (blk_below (g := gb176) (o := .cells #[.int .i64 a0_0, .int .i64 a0_1, .slice A0_2 l0_2.length c0_2] 30 (0, 0)) (by (with_reducible repeat (first | refine k_n ?_ _ | refine k_d ?_ | refine k_a ?_ _)); exact BK176.out) hb)
    have n10_ := Aside0.mk (blk_below (g := gb186) (o := .cells #[.int .i64 a0_0, .int .i64 a0_1, .slice Ao37 y183.length co37] 30 (0, 0)) (by (with_reducible repeat (first | refine k_n ?_ _ | refine k_d ?_ | refine k_a ?_ _)); exact BK186.out) hb)
    have n11_ := Aside0.mk (below_step (by repeat (first | (with_reducible first | exact HB.out | apply b_a | apply b_n | apply b_d | refine b_s ?_ GE176.out | refine b_s ?_ GE186.out) | exact HB.out)) hb)
    clear HO_1
    clear HO_2
    clear HO_177002
    clear HO185
    clear HO189
    clear HO193
    clear HO196
    clear HO200
    clear HO204
    clear BK176
    clear BK186
    clear HB
    have HO_1 := n0_
    have HO_2 := n1_
    have HO_177002 := n2_
    have HO185 := n3_
    have HO189 := n4_
    have HO193 := n5_
    have HO196 := n6_
    have HO200 := n7_
    have HO204 := n8_
    have BK176 := n9_
    have BK186 := n10_
    have HB := n11_
    clear n0_ n1_ n2_ n3_ n4_ n5_ n6_ n7_ n8_ n9_ n10_ n11_
    (try clear hb)
    (try clear hb2)
    (try clear hk)
    (try clear hi)
    refine hK.out _ _ ⟨(blk_cell BK186.out 0).trans rfl, (blk_cell BK186.out 1).trans rfl, (blk_cell BK186.out 2).trans rfl, (blk_cell BK176.out 0).trans rfl, (blk_cell BK176.out 1).trans rfl, (blk_cell BK176.out 2).trans rfl⟩ (fun hHeld => ?_)
    clear hK K
    refine norm_ (a' := ?_) ?_ ?_
    rotate_left
    ·
     show Act.put _ (some 71) _ = _
     simp only [Act.put, l_1, l_2, l_3, i64_w, i32_w]
     rfl
    refine pure_ (i := 3) (N := some 72) (v := ?_) (a' := ?_) #[true, true, true, true, false, false, false, false, false, false, false, false, false, false, false, false] rfl rfl (any_of HT_.out (by kernel_rfl)) (fun _ _ _ h => h) (Or.inl ⟨by rfl, ?_⟩) ?_ ?_
    rotate_left
    ·
     intro w'
     go_simp
     with_reducible rfl
    rotate_left
    ·
     simp only [Act.put, l_1, l_2, l_3, i64_w, i32_w]
     rfl
    refine pure_ (i := 4) (N := some 73) (v := ?_) (a' := ?_) #[true, true, true, true, true, false, false, false, false, false, false, false, false, false, false, false] rfl rfl (any_of HT_.out (by kernel_rfl)) (fun _ _ _ h => h) (Or.inl ⟨by rfl, ?_⟩) ?_ ?_
    rotate_left
    ·
     intro w'
     go_simp
     with_reducible rfl
    rotate_left
    ·
     simp only [Act.put, l_1, l_2, l_3, i64_w, i32_w]
     rfl
    refine take_ (i := 5) (N := some 74) (v := ?_) (a' := ?_) #[true, true, true, true, true, true, false, false, false, false, false, false, false, false, false, false] rfl rfl (take_ofW HT_.out HW_.out (by kernel_rfl)) (fun _ _ _ h => h) (Or.inl ⟨by rfl, ?_⟩) hHeld ?_ ?_
    rotate_left
    ·
     rintro w' ⟨s0, s1, s2, s3, s4, s5⟩
     go_simp
     with_reducible rfl
    rotate_left
    ·
     simp only [Act.put, l_1, l_2, l_3, i64_w, i32_w]
     rfl
    refine take_ (i := 8) (N := some 77) (v := ?_) (a' := ?_) #[true, true, true, true, true, true, false, false, true, false, false, false, false, false, false, false] rfl rfl (take_ofW HT_.out HW_.out (by kernel_rfl)) (fun _ _ _ h => h) (Or.inl ⟨by rfl, ?_⟩) hHeld ?_ ?_
    rotate_left
    ·
     rintro w' ⟨s0, s1, s2, s3, s4, s5⟩
     go_simp
     with_reducible rfl
    rotate_left
    ·
     simp only [Act.put, l_1, l_2, l_3, i64_w, i32_w]
     rfl
    refine one_ (i := 6) (N := some 75) #[true, true, true, true, true, true, true, false, true, false, false, false, false, false, false, false] rfl rfl (one_of HT_.out (by kernel_rfl)) (by decide) (fun K hK => ?_)
    refine Kd.N_lit_step k30 _ 30 ?hg (N' := 75) ?hd (xs := ([(⟨a0_0, a0_1, l0_2⟩ : S30)] : List (S30))) (inner := [.int .i64 a0_0, .int .i64 a0_1, .slice A0_2 l0_2.length c0_2]) (ok := (fun k_ => ((P0_2_ k_ ∨ P1_ k_ ∨ P2_ k_) ∨ w.heap.size ≤ k_) ∧ some k_ ≠ (.slice Ao37 y183.length co37 : Value).ownBlock ∧ some k_ ≠ (v188 : Value).ownBlock ∧ some k_ ≠ (.slice Ao47 y191.length co47 : Value).ownBlock ∧ some k_ ≠ (v195 : Value).ownBlock ∧ some k_ ≠ (v199 : Value).ownBlock ∧ some k_ ≠ (v203 : Value).ownBlock ∧ k_ ≠ gb176 ∧ k_ ≠ gb186)) (okp := (fun k_ => ((P0_2_ k_ ∨ P1_ k_ ∨ P2_ k_) ∨ w.heap.size ≤ k_) ∧ some k_ ≠ (.slice Ao37 y183.length co37 : Value).ownBlock ∧ some k_ ≠ (v188 : Value).ownBlock ∧ some k_ ≠ (.slice Ao47 y191.length co47 : Value).ownBlock ∧ some k_ ≠ (v195 : Value).ownBlock ∧ some k_ ≠ (v199 : Value).ownBlock ∧ some k_ ≠ (v203 : Value).ownBlock ∧ k_ ≠ gb176 ∧ k_ ≠ gb186)) ?hr ?hp (fun _ hk => hk) ((show ∀ k_, (_ : Nat) ≤ k_ → (fun k_ => ((P0_2_ k_ ∨ P1_ k_ ∨ P2_ k_) ∨ w.heap.size ≤ k_) ∧ some k_ ≠ (.slice Ao37 y183.length co37 : Value).ownBlock ∧ some k_ ≠ (v188 : Value).ownBlock ∧ some k_ ≠ (.slice Ao47 y191.length co47 : Value).ownBlock ∧ some k_ ≠ (v195 : Value).ownBlock ∧ some k_ ≠ (v199 : Value).ownBlock ∧ some k_ ≠ (v203 : Value).ownBlock ∧ k_ ≠ gb176 ∧ k_ ≠ gb186) k_ from fun k_ hk => ⟨(.inr (Nat.le_trans (below_size (by repeat (first | (with_reducible first | exact HB.out | apply b_a | apply b_n | apply b_d | refine b_s ?_ GE176.out | refine b_s ?_ GE186.out) | exact HB.out))) hk)), Kd.fresh' (Kd.R_lt (by (with_reducible repeat (first | apply Kd.R_alloc | apply Kd.R_drewN | apply Kd.R_drew)); exact HO185.out)) k_ hk, Kd.fresh' (Kd.R_lt (by (with_reducible repeat (first | apply Kd.R_alloc | apply Kd.R_drewN | apply Kd.R_drew)); exact HO189.out)) k_ hk, Kd.fresh' (Kd.N_lt (by (with_reducible repeat (first | apply Kd.N_alloc | apply Kd.N_drewN | apply Kd.N_drew)); exact HO193.out)) k_ hk, Kd.fresh' (Kd.N_lt (by (with_reducible repeat (first | apply Kd.N_alloc | apply Kd.N_drewN | apply Kd.N_drew)); exact HO196.out)) k_ hk, Kd.fresh' (Kd.R_lt (by (with_reducible repeat (first | apply Kd.R_alloc | apply Kd.R_drewN | apply Kd.R_drew)); exact HO200.out)) k_ hk, Kd.fresh' (Kd.R_lt (by (with_reducible repeat (first | apply Kd.R_alloc | apply Kd.R_drewN | apply Kd.R_drew)); exact HO204.out)) k_ hk, Kd.freshB (g := gb176) (o := .cells #[.int .i64 a0_0, .int .i64 a0_1, .slice A0_2 l0_2.length c0_2] 30 (0, 0)) (by (with_reducible repeat (first | refine k_n ?_ _ | refine k_d ?_ | refine k_a ?_ _)); exact BK176.out) k_ hk, Kd.freshB (g := gb186) (o := .cells #[.int .i64 a0_0, .int .i64 a0_1, .slice Ao37 y183.length co37] 30 (0, 0)) (by (with_reducible repeat (first | refine k_n ?_ _ | refine k_d ?_ | refine k_a ?_ _)); exact BK186.out) k_ hk⟩) _ (Nat.le_refl _)) (Below.refl _ _) (Nat.le_refl _) (by simp) ?_; (case hd => rfl); (case hg => rfl); (case hr => first | (go_simp; done) | (go_simp; rfl)); (case hp => exact (Reps.c3 (show Kd.FK k30 _ _ (⟨a0_0, a0_1, l0_2⟩ : S30) [.int .i64 a0_0, .int .i64 a0_1, .slice A0_2 l0_2.length c0_2] from (k30_mkF _ _ (⟨a0_0, a0_1, l0_2⟩ : S30) (Kd.V_reads' (Kd.V_mono (ok' := (fun k_ => ((P0_2_ k_ ∨ P1_ k_ ∨ P2_ k_) ∨ w.heap.size ≤ k_) ∧ some k_ ≠ (.slice Ao37 y183.length co37 : Value).ownBlock ∧ some k_ ≠ (v188 : Value).ownBlock ∧ some k_ ≠ (.slice Ao47 y191.length co47 : Value).ownBlock ∧ some k_ ≠ (v195 : Value).ownBlock ∧ some k_ ≠ (v199 : Value).ownBlock ∧ some k_ ≠ (v203 : Value).ownBlock ∧ k_ ≠ gb176 ∧ k_ ≠ gb186)) (HO_177002.out) (fun k_ hk => ⟨hk.1.1.1.1.1.1, ⟨hk.1.1.1.1.1.2.1, ⟨hk.1.1.1.1.2, ⟨hk.1.1.1.2, ⟨hk.1.1.2, ⟨hk.1.2, ⟨hk.2, ⟨hk.1.1.1.1.1.2.2.1, hk.1.1.1.1.1.2.2.2⟩⟩⟩⟩⟩⟩⟩⟩))).2.1 (Kd.V_F (Kd.V_mono (ok' := (fun k_ => ((P0_2_ k_ ∨ P1_ k_ ∨ P2_ k_) ∨ w.heap.size ≤ k_) ∧ some k_ ≠ (.slice Ao37 y183.length co37 : Value).ownBlock ∧ some k_ ≠ (v188 : Value).ownBlock ∧ some k_ ≠ (.slice Ao47 y191.length co47 : Value).ownBlock ∧ some k_ ≠ (v195 : Value).ownBlock ∧ some k_ ≠ (v199 : Value).ownBlock ∧ some k_ ≠ (v203 : Value).ownBlock ∧ k_ ≠ gb176 ∧ k_ ≠ gb186)) (HO_177002.out) (fun k_ hk => ⟨hk.1.1.1.1.1.1, ⟨hk.1.1.1.1.1.2.1, ⟨hk.1.1.1.1.2, ⟨hk.1.1.1.2, ⟨hk.1.1.2, ⟨hk.1.2, ⟨hk.2, ⟨hk.1.1.1.1.1.2.2.1, hk.1.1.1.1.1.2.2.2⟩⟩⟩⟩⟩⟩⟩⟩))))) (Reps.none _ _)))
    intro v208 w68 ho69 hb hg_ hnew_
    clear hg_ hnew_
    (first | rw [← Ny207.out] at ho69 | (simp only [Int.reduceToNat] at ho69; rw [← Ny207.out] at ho69))
    have n0_ := Aside0.mk (Kd.V_elder' (by (with_reducible repeat (first | apply Kd.V_alloc | apply Kd.V_drewN | apply Kd.V_drew)); exact HO_1.out) (by first | exact Kd.N_base ho69 | exact Kd.N_base (Kd.S_N ho69)) hb)
    have n1_ := Aside0.mk (Kd.V_elder' (by (with_reducible repeat (first | apply Kd.V_alloc | apply Kd.V_drewN | apply Kd.V_drew)); exact HO_2.out) (by first | exact Kd.N_base ho69 | exact Kd.N_base (Kd.S_N ho69)) hb)
    have n2_ := Aside0.mk (Kd.V_elder' (by (with_reducible repeat (first | apply Kd.V_alloc | apply Kd.V_drewN | apply Kd.V_drew)); exact HO_177002.out) (by first | exact Kd.N_base ho69 | exact Kd.N_base (Kd.S_N ho69)) hb)
    have n3_ := Aside0.mk (Kd.R_below (by (with_reducible repeat (first | apply Kd.R_alloc | apply Kd.R_drewN | apply Kd.R_drew)); exact HO185.out) hb)
    have n4_ := Aside0.mk (Kd.R_below (by (with_reducible repeat (first | apply Kd.R_alloc | apply Kd.R_drewN | apply Kd.R_drew)); exact HO189.out) hb)
    have n5_ := Aside0.mk (Kd.N_elder' (by (with_reducible repeat (first | apply Kd.N_alloc | apply Kd.N_drewN | apply Kd.N_drew)); exact HO193.out) (by first | exact Kd.N_base ho69 | exact Kd.N_base (Kd.S_N ho69)) hb)
    have n6_ := Aside0.mk (Kd.N_elder' (by (with_reducible repeat (first | apply Kd.N_alloc | apply Kd.N_drewN | apply Kd.N_drew)); exact HO196.out) (by first | exact Kd.N_base ho69 | exact Kd.N_base (Kd.S_N ho69)) hb)
    have n7_ := Aside0.mk (Kd.R_below (by (with_reducible repeat (first | apply Kd.R_alloc | apply Kd.R_drewN | apply Kd.R_drew)); exact HO200.out) hb)
    have n8_ := Aside0.mk (Kd.R_below (by (with_reducible repeat (first | apply Kd.R_alloc | apply Kd.R_drewN | apply Kd.R_drew)); exact HO204.out) hb)
    have n9_ := Aside0.mk (Kd.N_lower ho69 (below_size (by repeat (first | (with_reducible first | exact HB.out | apply b_a | apply b_n | apply b_d | refine b_s ?_ GE176.out | refine b_s ?_ GE186.out) | exact HB.out))))
    have n10_ := Aside0.mk (blk_below (g := gb176) (o := .cells #[.int .i64 a0_0, .int .i64 a0_1, .slice A0_2 l0_2.length c0_2] 30 (0, 0)) (by (with_reducible repeat (first | refine k_n ?_ _ | refine k_d ?_ | refine k_a ?_ _)); exact BK176.out) hb)
    have n11_ := Aside0.mk (blk_below (g := gb186) (o := .cells #[.int .i64 a0_0, .int .i64 a0_1, .slice Ao37 y183.length co37] 30 (0, 0)) (by (with_reducible repeat (first | refine k_n ?_ _ | refine k_d ?_ | refine k_a ?_ _)); exact BK186.out) hb)
    have n12_ := Aside0.mk (below_step (by repeat (first | (with_reducible first | exact HB.out | apply b_a | apply b_n | apply b_d | refine b_s ?_ GE176.out | refine b_s ?_ GE186.out) | exact HB.out)) hb)
    clear HO_1
    clear HO_2
    clear HO_177002
    clear HO185
    clear HO189
    clear HO193
    clear HO196
    clear HO200
    clear HO204
    clear BK176
    clear BK186
    clear HB
    have HO_1 := n0_
    have HO_2 := n1_
    have HO_177002 := n2_
    have HO185 := n3_
    have HO189 := n4_
    have HO193 := n5_
    have HO196 := n6_
    have HO200 := n7_
    have HO204 := n8_
    have HO209 := n9_
    have BK176 := n10_
    have BK186 := n11_
    have HB := n12_
    clear n0_ n1_ n2_ n3_ n4_ n5_ n6_ n7_ n8_ n9_ n10_ n11_ n12_
    clear hb ho69
    obtain ⟨Ao70, co70, eo70⟩ := Kd.N_slice HO209.out
    (first | subst eo70 | (injection eo70 with f1_ f2_ f3_; have f4_ := f1_.symm; have f5_ := f3_.symm; clear f1_ f2_ f3_; subst f4_; subst f5_))
    refine hK.out _ _ ⟨(blk_cell BK186.out 0).trans rfl, (blk_cell BK186.out 1).trans rfl, (blk_cell BK186.out 2).trans rfl, (blk_cell BK176.out 0).trans rfl, (blk_cell BK176.out 1).trans rfl, (blk_cell BK176.out 2).trans rfl⟩ (fun hHeld => ?_)
    clear hK K
    refine norm_ (a' := ?_) ?_ ?_
    rotate_left
    ·
     show Act.put _ (some 75) _ = _
     simp only [Act.put, l_1, l_2, l_3, i64_w, i32_w]
     rfl
    refine one_ (i := 7) (N := some 76) #[true, true, true, true, true, true, true, true, true, false, false, false, false, false, false, false] rfl rfl (one_of HT_.out (by kernel_rfl)) (by decide) (fun K hK => ?_)
    refine goes_ Try.func19 (by kernel_rfl) rfl #[.slice Ao70 y207.length co70] (by rfl) rfl rfl (by (try simp only [l_4, l_5, l_6]); first | done | rfl | (simp only [l_7, l_8]; rfl)) ?_
    with_reducible refine (matmul_Right.calls kj3 _ _ y207 t210 _ ?side1 ?side2 A55.out).mono ?_
    (case side1 => repeat (first | exact (Kd.N_reads' HO209.out).2.2 | (with_reducible refine Kd.C_alloc ?_ _) | (with_reducible refine Kd.C_drewN ?_ _) | (with_reducible refine Kd.C_drew ?_)))
    (case side2 => exact (Kd.N_reads' HO209.out).2.1)
    rintro e w71 ⟨rfl, hb⟩
    refine ⟨_, rfl, ?_⟩
    have n0_ := Aside0.mk (Kd.V_below (by (with_reducible repeat (first | apply Kd.V_alloc | apply Kd.V_drewN | apply Kd.V_drew)); exact HO_1.out) hb)
    have n1_ := Aside0.mk (Kd.V_below (by (with_reducible repeat (first | apply Kd.V_alloc | apply Kd.V_drewN | apply Kd.V_drew)); exact HO_2.out) hb)
    have n2_ := Aside0.mk (Kd.V_below (by (with_reducible repeat (first | apply Kd.V_alloc | apply Kd.V_drewN | apply Kd.V_drew)); exact HO_177002.out) hb)
    have n3_ := Aside0.mk (Kd.R_below (by (with_reducible repeat (first | apply Kd.R_alloc | apply Kd.R_drewN | apply Kd.R_drew)); exact HO185.out) hb)
    have n4_ := Aside0.mk (Kd.R_below (by (with_reducible repeat (first | apply Kd.R_alloc | apply Kd.R_drewN | apply Kd.R_drew)); exact HO189.out) hb)
    have n5_ := Aside0.mk (Kd.N_below (by (with_reducible repeat (first | apply Kd.N_alloc | apply Kd.N_drewN | apply Kd.N_drew)); exact HO193.out) hb)
    have n6_ := Aside0.mk (Kd.N_below (by (with_reducible repeat (first | apply Kd.N_alloc | apply Kd.N_drewN | apply Kd.N_drew)); exact HO196.out) hb)
    have n7_ := Aside0.mk (Kd.R_below (by (with_reducible repeat (first | apply Kd.R_alloc | apply Kd.R_drewN | apply Kd.R_drew)); exact HO200.out) hb)
    have n8_ := Aside0.mk (Kd.R_below (by (with_reducible repeat (first | apply Kd.R_alloc | apply Kd.R_drewN | apply Kd.R_drew)); exact HO204.out) hb)
    have n9_ := Aside0.mk (Kd.N_below (by (with_reducible repeat (first | apply Kd.N_alloc | apply Kd.N_drewN | apply Kd.N_drew)); exact HO209.out) hb)
    have n10_ := Aside0.mk (blk_below (g := gb176) (o := .cells #[.int .i64 a0_0, .int .i64 a0_1, .slice A0_2 l0_2.length c0_2] 30 (0, 0)) (by (with_reducible repeat (first | refine k_n ?_ _ | refine k_d ?_ | refine k_a ?_ _)); exact BK176.out) hb)
    have n11_ := Aside0.mk (blk_below (g := gb186) (o := .cells #[.int .i64 a0_0, .int .i64 a0_1, .slice Ao37 y183.length co37] 30 (0, 0)) (by (with_reducible repeat (first | refine k_n ?_ _ | refine k_d ?_ | refine k_a ?_ _)); exact BK186.out) hb)
    have n12_ := Aside0.mk (below_step (by repeat (first | (with_reducible first | exact HB.out | apply b_a | apply b_n | apply b_d | refine b_s ?_ GE176.out | refine b_s ?_ GE186.out) | exact HB.out)) hb)
    clear HO_1
    clear HO_2
    clear HO_177002
    clear HO185
    clear HO189
    clear HO193
    clear HO196
    clear HO200
    clear HO204
    clear HO209
    clear BK176
    clear BK186
    clear HB
    have HO_1 := n0_
    have HO_2 := n1_
    have HO_177002 := n2_
    have HO185 := n3_
    have HO189 := n4_
    have HO193 := n5_
    have HO196 := n6_
    have HO200 := n7_
    have HO204 := n8_
    have HO209 := n9_
    have BK176 := n10_
    have BK186 := n11_
    have HB := n12_
    clear n0_ n1_ n2_ n3_ n4_ n5_ n6_ n7_ n8_ n9_ n10_ n11_ n12_
    (try clear hb)
    (try clear hb2)
    (try clear hk)
    (try clear hi)
    refine hK.out _ _ ⟨(blk_cell BK186.out 0).trans rfl, (blk_cell BK186.out 1).trans rfl, (blk_cell BK186.out 2).trans rfl, (blk_cell BK176.out 0).trans rfl, (blk_cell BK176.out 1).trans rfl, (blk_cell BK176.out 2).trans rfl⟩ (fun hHeld => ?_)
    clear hK K
    refine norm_ (a' := ?_) ?_ ?_
    rotate_left
    ·
     show Act.put _ (some 76) _ = _
     simp only [Act.put, l_1, l_2, l_3, i64_w, i32_w]
     rfl
    refine one_ (i := 9) (N := some 78) #[true, true, true, true, true, true, true, true, true, true, false, false, false, false, false, false] rfl rfl (one_of HT_.out (by kernel_rfl)) (by decide) (fun K hK => ?_)
    refine goes_ Try.func13 (by kernel_rfl) rfl #[.agg #[.int .i64 a0_0, .int .i64 a0_1, .slice A0_2 l0_2.length c0_2]] (by rfl) rfl rfl (by (try simp only [l_4, l_5, l_6]); first | done | rfl | (simp only [l_7, l_8]; rfl)) ?_
    with_reducible refine (pelotonref04_Right.calls a0_0 a0_1 _ _ l0_2 t211 _ ?side1 ?side2 A56.out).mono ?_
    (case side1 => repeat (first | exact (Kd.V_reads' HO_177002.out).2.2 | (with_reducible refine Kd.C_alloc ?_ _) | (with_reducible refine Kd.C_drewN ?_ _) | (with_reducible refine Kd.C_drew ?_)))
    (case side2 => exact (Kd.V_reads' HO_177002.out).2.1)
    rintro e w72 ⟨rfl, hb⟩
    refine ⟨_, rfl, ?_⟩
    have n0_ := Aside0.mk (Kd.V_below (by (with_reducible repeat (first | apply Kd.V_alloc | apply Kd.V_drewN | apply Kd.V_drew)); exact HO_1.out) hb)
    have n1_ := Aside0.mk (Kd.V_below (by (with_reducible repeat (first | apply Kd.V_alloc | apply Kd.V_drewN | apply Kd.V_drew)); exact HO_2.out) hb)
    have n2_ := Aside0.mk (Kd.V_below (by (with_reducible repeat (first | apply Kd.V_alloc | apply Kd.V_drewN | apply Kd.V_drew)); exact HO_177002.out) hb)
    have n3_ := Aside0.mk (Kd.R_below (by (with_reducible repeat (first | apply Kd.R_alloc | apply Kd.R_drewN | apply Kd.R_drew)); exact HO185.out) hb)
    have n4_ := Aside0.mk (Kd.R_below (by (with_reducible repeat (first | apply Kd.R_alloc | apply Kd.R_drewN | apply Kd.R_drew)); exact HO189.out) hb)
    have n5_ := Aside0.mk (Kd.N_below (by (with_reducible repeat (first | apply Kd.N_alloc | apply Kd.N_drewN | apply Kd.N_drew)); exact HO193.out) hb)
    have n6_ := Aside0.mk (Kd.N_below (by (with_reducible repeat (first | apply Kd.N_alloc | apply Kd.N_drewN | apply Kd.N_drew)); exact HO196.out) hb)
    have n7_ := Aside0.mk (Kd.R_below (by (with_reducible repeat (first | apply Kd.R_alloc | apply Kd.R_drewN | apply Kd.R_drew)); exact HO200.out) hb)
    have n8_ := Aside0.mk (Kd.R_below (by (with_reducible repeat (first | apply Kd.R_alloc | apply Kd.R_drewN | apply Kd.R_drew)); exact HO204.out) hb)
    have n9_ := Aside0.mk (Kd.N_below (by (with_reducible repeat (first | apply Kd.N_alloc | apply Kd.N_drewN | apply Kd.N_drew)); exact HO209.out) hb)
    have n10_ := Aside0.mk (blk_below (g := gb176) (o := .cells #[.int .i64 a0_0, .int .i64 a0_1, .slice A0_2 l0_2.length c0_2] 30 (0, 0)) (by (with_reducible repeat (first | refine k_n ?_ _ | refine k_d ?_ | refine k_a ?_ _)); exact BK176.out) hb)
    have n11_ := Aside0.mk (blk_below (g := gb186) (o := .cells #[.int .i64 a0_0, .int .i64 a0_1, .slice Ao37 y183.length co37] 30 (0, 0)) (by (with_reducible repeat (first | refine k_n ?_ _ | refine k_d ?_ | refine k_a ?_ _)); exact BK186.out) hb)
    have n12_ := Aside0.mk (below_step (by repeat (first | (with_reducible first | exact HB.out | apply b_a | apply b_n | apply b_d | refine b_s ?_ GE176.out | refine b_s ?_ GE186.out) | exact HB.out)) hb)
    clear HO_1
    clear HO_2
    clear HO_177002
    clear HO185
    clear HO189
    clear HO193
    clear HO196
    clear HO200
    clear HO204
    clear HO209
    clear BK176
    clear BK186
    clear HB
    have HO_1 := n0_
    have HO_2 := n1_
    have HO_177002 := n2_
    have HO185 := n3_
    have HO189 := n4_
    have HO193 := n5_
    have HO196 := n6_
    have HO200 := n7_
    have HO204 := n8_
    have HO209 := n9_
    have BK176 := n10_
    have BK186 := n11_
    have HB := n12_
    clear n0_ n1_ n2_ n3_ n4_ n5_ n6_ n7_ n8_ n9_ n10_ n11_ n12_
    (try clear hb)
    (try clear hb2)
    (try clear hk)
    (try clear hi)
    refine hK.out _ _ ⟨(blk_cell BK186.out 0).trans rfl, (blk_cell BK186.out 1).trans rfl, (blk_cell BK186.out 2).trans rfl, (blk_cell BK176.out 0).trans rfl, (blk_cell BK176.out 1).trans rfl, (blk_cell BK176.out 2).trans rfl⟩ (fun hHeld => ?_)
    clear hK K
    refine norm_ (a' := ?_) ?_ ?_
    rotate_left
    ·
     show Act.put _ (some 78) _ = _
     simp only [Act.put, l_1, l_2, l_3, i64_w, i32_w]
     rfl
    refine pure_ (i := 10) (N := some 79) (v := ?_) (a' := ?_) #[true, true, true, true, true, true, true, true, true, true, true, false, false, false, false, false] rfl rfl (any_of HT_.out (by kernel_rfl)) (fun _ _ _ h => h) (Or.inl ⟨by rfl, ?_⟩) ?_ ?_
    rotate_left
    ·
     intro w'
     go_simp
     with_reducible rfl
    rotate_left
    ·
     simp only [Act.put, l_1, l_2, l_3, i64_w, i32_w]
     rfl
    refine pure_ (i := 11) (N := some 80) (v := ?_) (a' := ?_) #[true, true, true, true, true, true, true, true, true, true, true, true, false, false, false, false] rfl rfl (any_of HT_.out (by kernel_rfl)) (fun _ _ _ h => h) (Or.inl ⟨by rfl, ?_⟩) ?_ ?_
    rotate_left
    ·
     intro w'
     go_simp
     with_reducible rfl
    rotate_left
    ·
     simp only [Act.put, l_1, l_2, l_3, i64_w, i32_w]
     rfl
    refine pure_ (i := 12) (N := some 81) (v := ?_) (a' := ?_) #[true, true, true, true, true, true, true, true, true, true, true, true, true, false, false, false] rfl rfl (any_of HT_.out (by kernel_rfl)) (fun _ _ _ h => h) (Or.inl ⟨by rfl, ?_⟩) ?_ ?_
    rotate_left
    ·
     intro w'
     go_simp
     with_reducible rfl
    rotate_left
    ·
     simp only [Act.put, l_1, l_2, l_3, i64_w, i32_w]
     rfl
    refine one_ (i := 13) (N := some 82) #[true, true, true, true, true, true, true, true, true, true, true, true, true, true, false, false] rfl rfl (one_of HT_.out (by kernel_rfl)) (by decide) (fun K hK => ?_)
    refine goes_ Try.func19 (by kernel_rfl) rfl #[.slice none 0 0] (by rfl) rfl rfl (by (try simp only [l_4, l_5, l_6]); first | done | rfl | (simp only [l_7, l_8]; rfl)) ?_
    refine (matmul_Right.calls kj3 _ _ ([] : List (S30)) t212 _ ?side1 ?side2 A65.out).mono ?_
    (case side1 => exact Kd.C_nil _ _)
    (case side2 => exact Nat.le_refl _)
    rintro e w73 ⟨rfl, hb⟩
    refine ⟨_, rfl, ?_⟩
    have n0_ := Aside0.mk (Kd.V_below (by (with_reducible repeat (first | apply Kd.V_alloc | apply Kd.V_drewN | apply Kd.V_drew)); exact HO_1.out) hb)
    have n1_ := Aside0.mk (Kd.V_below (by (with_reducible repeat (first | apply Kd.V_alloc | apply Kd.V_drewN | apply Kd.V_drew)); exact HO_2.out) hb)
    have n2_ := Aside0.mk (Kd.V_below (by (with_reducible repeat (first | apply Kd.V_alloc | apply Kd.V_drewN | apply Kd.V_drew)); exact HO_177002.out) hb)
    have n3_ := Aside0.mk (Kd.R_below (by (with_reducible repeat (first | apply Kd.R_alloc | apply Kd.R_drewN | apply Kd.R_drew)); exact HO185.out) hb)
    have n4_ := Aside0.mk (Kd.R_below (by (with_reducible repeat (first | apply Kd.R_alloc | apply Kd.R_drewN | apply Kd.R_drew)); exact HO189.out) hb)
    have n5_ := Aside0.mk (Kd.N_below (by (with_reducible repeat (first | apply Kd.N_alloc | apply Kd.N_drewN | apply Kd.N_drew)); exact HO193.out) hb)
    have n6_ := Aside0.mk (Kd.N_below (by (with_reducible repeat (first | apply Kd.N_alloc | apply Kd.N_drewN | apply Kd.N_drew)); exact HO196.out) hb)
    have n7_ := Aside0.mk (Kd.R_below (by (with_reducible repeat (first | apply Kd.R_alloc | apply Kd.R_drewN | apply Kd.R_drew)); exact HO200.out) hb)
    have n8_ := Aside0.mk (Kd.R_below (by (with_reducible repeat (first | apply Kd.R_alloc | apply Kd.R_drewN | apply Kd.R_drew)); exact HO204.out) hb)
    have n9_ := Aside0.mk (Kd.N_below (by (with_reducible repeat (first | apply Kd.N_alloc | apply Kd.N_drewN | apply Kd.N_drew)); exact HO209.out) hb)
    have n10_ := Aside0.mk (blk_below (g := gb176) (o := .cells #[.int .i64 a0_0, .int .i64 a0_1, .slice A0_2 l0_2.length c0_2] 30 (0, 0)) (by (with_reducible repeat (first | refine k_n ?_ _ | refine k_d ?_ | refine k_a ?_ _)); exact BK176.out) hb)
    have n11_ := Aside0.mk (blk_below (g := gb186) (o := .cells #[.int .i64 a0_0, .int .i64 a0_1, .slice Ao37 y183.length co37] 30 (0, 0)) (by (with_reducible repeat (first | refine k_n ?_ _ | refine k_d ?_ | refine k_a ?_ _)); exact BK186.out) hb)
    have n12_ := Aside0.mk (below_step (by repeat (first | (with_reducible first | exact HB.out | apply b_a | apply b_n | apply b_d | refine b_s ?_ GE176.out | refine b_s ?_ GE186.out) | exact HB.out)) hb)
    clear HO_1
    clear HO_2
    clear HO_177002
    clear HO185
    clear HO189
    clear HO193
    clear HO196
    clear HO200
    clear HO204
    clear HO209
    clear BK176
    clear BK186
    clear HB
    have HO_1 := n0_
    have HO_2 := n1_
    have HO_177002 := n2_
    have HO185 := n3_
    have HO189 := n4_
    have HO193 := n5_
    have HO196 := n6_
    have HO200 := n7_
    have HO204 := n8_
    have HO209 := n9_
    have BK176 := n10_
    have BK186 := n11_
    have HB := n12_
    clear n0_ n1_ n2_ n3_ n4_ n5_ n6_ n7_ n8_ n9_ n10_ n11_ n12_
    (try clear hb)
    (try clear hb2)
    (try clear hk)
    (try clear hi)
    refine hK.out _ _ ⟨(blk_cell BK186.out 0).trans rfl, (blk_cell BK186.out 1).trans rfl, (blk_cell BK186.out 2).trans rfl, (blk_cell BK176.out 0).trans rfl, (blk_cell BK176.out 1).trans rfl, (blk_cell BK176.out 2).trans rfl⟩ (fun hHeld => ?_)
    clear hK K
    refine norm_ (a' := ?_) ?_ ?_
    rotate_left
    ·
     show Act.put _ (some 82) _ = _
     simp only [Act.put, l_1, l_2, l_3, i64_w, i32_w]
     rfl
    refine pure_ (i := 14) (N := some 83) (v := ?_) (a' := ?_) #[true, true, true, true, true, true, true, true, true, true, true, true, true, true, true, false] rfl rfl (any_of HT_.out (by kernel_rfl)) (fun _ _ _ h => h) (Or.inl ⟨by rfl, ?_⟩) ?_ ?_
    rotate_left
    ·
     intro w'
     go_simp
     with_reducible rfl
    rotate_left
    ·
     simp only [Act.put, l_1, l_2, l_3, i64_w, i32_w]
     rfl
    refine pure_ (i := 15) (N := some 84) (v := ?_) (a' := ?_) #[true, true, true, true, true, true, true, true, true, true, true, true, true, true, true, true] rfl rfl (any_of HT_.out (by kernel_rfl)) (fun _ _ _ h => h) (Or.inl ⟨by rfl, ?_⟩) ?_ ?_
    rotate_left
    ·
     intro w'
     go_simp
     with_reducible rfl
    rotate_left
    ·
     simp only [Act.put, l_1, l_2, l_3, i64_w, i32_w]
     rfl
    refine done_ (done_of HT_.out (by kernel_rfl)) ?_
    try go_wp2
    go_meet
    case rel => exact ⟨_, (!t212), (by first | rfl | (simp; done) | (simp [*]; done)), H', ⟨by have := HJ3.out; first | omega | exact Nat.le_refl _⟩, ⟨by (with_reducible repeat (first | apply Kd.R_alloc | apply Kd.R_drewN | apply Kd.R_drew)); exact Kd.R_mono HO189.out (fun _ hk => ⟨hk.1.1.1, ⟨hk.1.2, hk.2⟩⟩)⟩, ⟨by (with_reducible repeat (first | apply Kd.N_alloc | apply Kd.N_drewN | apply Kd.N_drew)); exact Kd.N_mono HO196.out (fun _ hk => ⟨hk.1.1.1.1, ⟨hk.1.1.1.2.2.1, ⟨hk.1.1.2, ⟨hk.1.2, ⟨hk.1.1.1.2.1, ⟨hk.1.1.1.2.2.2.2.1, hk.1.1.1.2.2.2.2.2⟩⟩⟩⟩⟩⟩)⟩, ⟨by (with_reducible repeat (first | apply Kd.R_alloc | apply Kd.R_drewN | apply Kd.R_drew)); exact Kd.R_mono HO200.out (fun _ hk => ⟨hk.1.1.1, ⟨hk.1.2, hk.2⟩⟩)⟩, ⟨by (with_reducible repeat (first | apply Kd.R_alloc | apply Kd.R_drewN | apply Kd.R_drew)); exact Kd.R_mono HO204.out (fun _ hk => ⟨hk.1.1.1, ⟨hk.1.2, hk.2⟩⟩)⟩, ⟨by (with_reducible repeat (first | apply Kd.V_alloc | apply Kd.V_drewN | apply Kd.V_drew)); exact Kd.V_mono HO_177002.out (fun _ hk => ⟨hk.1.1.1.1.1.1.1, ⟨hk.1.1.1.1.1.2, ⟨hk.1.1.1.2, ⟨hk.1.1.2, ⟨hk.1.2, ⟨hk.1.1.1.1.1.1.2.1, ⟨hk.1.1.1.1.1.1.2.2.1, hk.1.1.1.1.1.1.2.2.2⟩⟩⟩⟩⟩⟩⟩)⟩, ⟨by (with_reducible repeat (first | apply Kd.R_alloc | apply Kd.R_drewN | apply Kd.R_drew)); exact HO185.out⟩, ⟨by (with_reducible repeat (first | refine k_n ?_ _ | refine k_d ?_ | refine k_a ?_ _)); exact BK176.out⟩, ⟨by (with_reducible repeat (first | refine k_n ?_ _ | refine k_d ?_ | refine k_a ?_ _)); exact BK186.out⟩, ⟨by repeat (first | (with_reducible first | exact HB.out | apply b_a | apply b_n | apply b_d | refine b_s ?_ GE176.out | refine b_s ?_ GE186.out) | exact HB.out)⟩⟩
   case rest => as_aux_lemma =>
    clear HC29
    try clear c1
    try clear p2
    try clear c3
    try clear c5
    try clear c13
    try clear c18
    try clear c19
    try clear c54
    obtain ⟨kq, x84_28, rfl, HA, HJ28, HO_8, HO_10, HO_12, HO_14, HO_177002, HO_187002, BK176, BK186, HB⟩ := hcut
    cases kq with
    | zero => exact absurd HA.out (by simp [pelotonlaw04_MatmulApplies.j1])
    | succ kj28 =>
     have H := HA.out
     clear HA
     simp only [pelotonlaw04_MatmulApplies.j1] at H
     by_cases c76 : x84_28 = true
     ·
      subst c76
      have H1 : (some false) = some r := by rw [if_pos rfl] at H; exact H
      clear H
      have H := H1
      clear H1
      obtain rfl := Option.some.inj H
      go_wp2
      go_ret
      exact ⟨by first | rfl | (simp [errW_none, errW_some] <;> rfl) | (simp [*, errW_none, errW_some] <;> rfl), by repeat (first | (with_reducible first | exact HB.out | apply b_a | apply b_n | apply b_d | refine b_s ?_ GE176.out | refine b_s ?_ GE186.out) | exact HB.out)⟩
     replace c76 := Bool.eq_false_iff.mpr c76
     subst c76
     have H1 : (if (t201 != (t190 == 0)) = true then (pelotonlaw04_MatmulApplies.j2 kj28 t194 t197 t198 t201 t202 t205 true) else (if t201 = true then ((pelotonref04_Ints.f kj28 t187 t198).bind fun t213 => (pelotonlaw04_MatmulApplies.j2 kj28 t194 t197 t198 t201 t202 t205 (!t213))) else (if t190 = 30 then (if (t187.length : Int) = 0 then (pelotonlaw04_MatmulApplies.j2 kj28 t194 t197 t198 t201 t202 t205 false) else (pelotonlaw04_MatmulApplies.j2 kj28 t194 t197 t198 t201 t202 t205 true)) else (pelotonlaw04_MatmulApplies.j2 kj28 t194 t197 t198 t201 t202 t205 true)))) = some r := by rw [if_neg (show ¬ (false = true) by decide)] at H; exact H
     clear H
     have H := H1
     clear H1
     have HC77 := Aside0.mk H
     clear H
     go_upto_region 10 with (fail)
     go_cut [110] (fun v110 wc => ∃ (kq : Nat) (x110_76 : Bool), v110 = .bool x110_76 ∧ Aside0 (pelotonlaw04_MatmulApplies.j2 kq t194 t197 t198 t201 t202 t205 x110_76 = some r) ∧ Aside0 (kq ≤ kj28) ∧ Aside0 (Kd.N (Kd.slice 21 (Kd.int .i32)) 32 wc w.heap.size (fun k_ => ((P0_2_ k_ ∨ P1_ k_ ∨ P2_ k_) ∨ w.heap.size ≤ k_) ∧ some k_ ≠ (v199 : Value).ownBlock ∧ some k_ ≠ (v203 : Value).ownBlock ∧ some k_ ≠ ((.slice Ao37 y183.length co37) : Value).ownBlock ∧ k_ ≠ gb176 ∧ k_ ≠ gb186) v195 t194) ∧ Aside0 (Kd.R (Kd.int .i32) 21 wc w.heap.size (fun k_ => (w.heap.size ≤ k_) ∧ some k_ ≠ (v203 : Value).ownBlock) v199 t198) ∧ Aside0 (Kd.R (Kd.int .i32) 21 wc w.heap.size (fun k_ => (w.heap.size ≤ k_) ∧ some k_ ≠ (v199 : Value).ownBlock) v203 t202) ∧ Aside0 (Kd.V (Kd.int .i8) 35 wc w.heap.size (fun k_ => ((P0_2_ k_ ∨ P1_ k_ ∨ P2_ k_) ∨ w.heap.size ≤ k_) ∧ some k_ ≠ (v195 : Value).ownBlock ∧ some k_ ≠ (v199 : Value).ownBlock ∧ some k_ ≠ (v203 : Value).ownBlock ∧ some k_ ≠ ((.slice Ao37 y183.length co37) : Value).ownBlock ∧ k_ ≠ gb176 ∧ k_ ≠ gb186) (.slice A0_2 l0_2.length c0_2) l0_2) ∧ Aside0 (Kd.R (Kd.int .i8) 35 wc w.heap.size (fun k_ => (w.heap.size ≤ k_)) (.slice Ao37 y183.length co37) y183) ∧ Aside0 (wc.heap[gb176]? = some (.cells #[.int .i64 a0_0, .int .i64 a0_1, (.slice A0_2 l0_2.length c0_2)] 30 (0, 0))) ∧ Aside0 (wc.heap[gb186]? = some (.cells #[.int .i64 a0_0, .int .i64 a0_1, (.slice Ao37 y183.length co37)] 30 (0, 0))) ∧ Aside0 (Below w.heap.size w wc))
     case first =>
      have H := HC77.out
      clear HC77
      by_cases c78 : (t201 != (t190 == 0)) = true
      ·
       rw [if_pos c78] at H
       have c78b0 : (t201 != (t190 == 0)) = true := c78
       (try (have c78b1 : decide (t201 = (t190 == 0)) = false := by simpa using c78))
       (try (have c78b2 : (t201 == (t190 == 0)) = false := by simpa using c78))
       (try (have c78b3 : ¬ (t201 = (t190 == 0)) := by simpa using c78))
       clear c78
       (first | rw [c78b0] | (simp only [i64_w, i32_w]; rw [c78b0]) | skip)
       have H' := Aside0.mk H
       clear H
       go_wp2
       go_meet
       case rel => exact ⟨_, (true), (by first | rfl | (simp; done) | (simp [*]; done)), H', ⟨by have := HJ3.out; have := HJ28.out; first | omega | exact Nat.le_refl _⟩, ⟨by (with_reducible repeat (first | apply Kd.N_alloc | apply Kd.N_drewN | apply Kd.N_drew)); exact Kd.N_mono HO_10.out (fun _ hk => ⟨hk.1, ⟨hk.2.2.1, ⟨hk.2.2.2.1, ⟨hk.2.2.2.2.1, ⟨hk.2.2.2.2.2.1, hk.2.2.2.2.2.2⟩⟩⟩⟩⟩)⟩, ⟨by (with_reducible repeat (first | apply Kd.R_alloc | apply Kd.R_drewN | apply Kd.R_drew)); exact Kd.R_mono HO_12.out (fun _ hk => ⟨hk.1, hk.2.2⟩)⟩, ⟨by (with_reducible repeat (first | apply Kd.R_alloc | apply Kd.R_drewN | apply Kd.R_drew)); exact Kd.R_mono HO_14.out (fun _ hk => ⟨hk.1, hk.2.2⟩)⟩, ⟨by (with_reducible repeat (first | apply Kd.V_alloc | apply Kd.V_drewN | apply Kd.V_drew)); exact Kd.V_mono HO_177002.out (fun _ hk => ⟨hk.1, ⟨hk.2.2.1, ⟨hk.2.2.2.1, ⟨hk.2.2.2.2.1, ⟨hk.2.2.2.2.2.1, ⟨hk.2.2.2.2.2.2.1, hk.2.2.2.2.2.2.2⟩⟩⟩⟩⟩⟩)⟩, ⟨by (with_reducible repeat (first | apply Kd.R_alloc | apply Kd.R_drewN | apply Kd.R_drew)); exact HO_187002.out⟩, ⟨by (with_reducible repeat (first | refine k_n ?_ _ | refine k_d ?_ | refine k_a ?_ _)); exact BK176.out⟩, ⟨by (with_reducible repeat (first | refine k_n ?_ _ | refine k_d ?_ | refine k_a ?_ _)); exact BK186.out⟩, ⟨by repeat (first | (with_reducible first | exact HB.out | apply b_a | apply b_n | apply b_d | refine b_s ?_ GE176.out | refine b_s ?_ GE186.out) | exact HB.out)⟩⟩
      rw [if_neg c78] at H
      have c78b0 : (t201 != (t190 == 0)) = false := by simpa using c78
      (try (have c78b1 : decide (t201 = (t190 == 0)) = true := by simpa using c78))
      (try (have c78b2 : (t201 == (t190 == 0)) = true := by simpa using c78))
      clear c78
      (first | rw [c78b0] | (simp only [i64_w, i32_w]; rw [c78b0]) | skip)
      by_cases c79 : t201 = true
      ·
       subst c79
       have H1 : ((pelotonref04_Ints.f kj28 t187 t198).bind fun t213 => (pelotonlaw04_MatmulApplies.j2 kj28 t194 t197 t198 true t202 t205 (!t213))) = some r := by rw [if_pos rfl] at H; exact H
       clear H
       have H := H1
       clear H1
       replace H := Option.bind_eq_some_iff.mp H
       obtain ⟨t213, A800, H⟩ := H
       replace H : (pelotonlaw04_MatmulApplies.j2 kj28 t194 t197 t198 true t202 t205 (!t213)) = some r := H
       have A80 := Aside0.mk A800
       clear A800
       have H' := Aside0.mk H
       clear H
       obtain ⟨Ao81, co81, eo81⟩ := Kd.R_slice HO_8.out
       subst eo81
       obtain ⟨Ao82, co82, eo82⟩ := Kd.R_slice HO_12.out
       subst eo82
       go_wp2_with (first | (go_at_call 15; (with_reducible refine (pelotonref04_Ints.calls kj28 _ _ t187 _ _ t198 t213 _ ?side1 ?side2 ?side3 ?side4 A80.out).mono ?_); (case side1 => repeat (first | exact (Kd.R_reads' HO_8.out).2.2 | (with_reducible refine Kd.C_alloc ?_ _) | (with_reducible refine Kd.C_drewN ?_ _) | (with_reducible refine Kd.C_drew ?_))); (case side2 => exact (Kd.R_reads' HO_8.out).2.1); (case side3 => repeat (first | exact (Kd.R_reads' HO_12.out).2.2 | (with_reducible refine Kd.C_alloc ?_ _) | (with_reducible refine Kd.C_drewN ?_ _) | (with_reducible refine Kd.C_drew ?_))); (case side4 => exact (Kd.R_reads' HO_12.out).2.1); rintro e w' ⟨rfl, ⟨nd, rfl⟩⟩))
       go_meet
       case rel => exact ⟨_, (!t213), (by first | rfl | (simp; done) | (simp [*]; done)), H', ⟨by have := HJ3.out; have := HJ28.out; first | omega | exact Nat.le_refl _⟩, ⟨by (with_reducible repeat (first | apply Kd.N_alloc | apply Kd.N_drewN | apply Kd.N_drew)); exact Kd.N_mono HO_10.out (fun _ hk => ⟨hk.1, ⟨hk.2.2.1, ⟨hk.2.2.2.1, ⟨hk.2.2.2.2.1, ⟨hk.2.2.2.2.2.1, hk.2.2.2.2.2.2⟩⟩⟩⟩⟩)⟩, ⟨by (with_reducible repeat (first | apply Kd.R_alloc | apply Kd.R_drewN | apply Kd.R_drew)); exact Kd.R_mono HO_12.out (fun _ hk => ⟨hk.1, hk.2.2⟩)⟩, ⟨by (with_reducible repeat (first | apply Kd.R_alloc | apply Kd.R_drewN | apply Kd.R_drew)); exact Kd.R_mono HO_14.out (fun _ hk => ⟨hk.1, hk.2.2⟩)⟩, ⟨by (with_reducible repeat (first | apply Kd.V_alloc | apply Kd.V_drewN | apply Kd.V_drew)); exact Kd.V_mono HO_177002.out (fun _ hk => ⟨hk.1, ⟨hk.2.2.1, ⟨hk.2.2.2.1, ⟨hk.2.2.2.2.1, ⟨hk.2.2.2.2.2.1, ⟨hk.2.2.2.2.2.2.1, hk.2.2.2.2.2.2.2⟩⟩⟩⟩⟩⟩)⟩, ⟨by (with_reducible repeat (first | apply Kd.R_alloc | apply Kd.R_drewN | apply Kd.R_drew)); exact HO_187002.out⟩, ⟨by (with_reducible repeat (first | refine k_n ?_ _ | refine k_d ?_ | refine k_a ?_ _)); exact BK176.out⟩, ⟨by (with_reducible repeat (first | refine k_n ?_ _ | refine k_d ?_ | refine k_a ?_ _)); exact BK186.out⟩, ⟨by repeat (first | (with_reducible first | exact HB.out | apply b_a | apply b_n | apply b_d | refine b_s ?_ GE176.out | refine b_s ?_ GE186.out) | exact HB.out)⟩⟩
      replace c79 := Bool.eq_false_iff.mpr c79
      subst c79
      have H1 : (if t190 = 30 then (if (t187.length : Int) = 0 then (pelotonlaw04_MatmulApplies.j2 kj28 t194 t197 t198 false t202 t205 false) else (pelotonlaw04_MatmulApplies.j2 kj28 t194 t197 t198 false t202 t205 true)) else (pelotonlaw04_MatmulApplies.j2 kj28 t194 t197 t198 false t202 t205 true)) = some r := by rw [if_neg (show ¬ (false = true) by decide)] at H; exact H
      clear H
      have H := H1
      clear H1
      by_cases c83 : t190 = 30
      rotate_left
      ·
       rw [if_neg c83] at H
       have c83b0 : (t190 == 30) = false := beq_eq_false_iff_ne.mpr c83
       have c83b1 : (t190 != 30) = true := bne_iff_ne.mpr c83
       have H' := Aside0.mk H
       clear H
       go_wp2
       go_meet
       case rel => exact ⟨_, (true), (by first | rfl | (simp; done) | (simp [*]; done)), H', ⟨by have := HJ3.out; have := HJ28.out; first | omega | exact Nat.le_refl _⟩, ⟨by (with_reducible repeat (first | apply Kd.N_alloc | apply Kd.N_drewN | apply Kd.N_drew)); exact Kd.N_mono HO_10.out (fun _ hk => ⟨hk.1, ⟨hk.2.2.1, ⟨hk.2.2.2.1, ⟨hk.2.2.2.2.1, ⟨hk.2.2.2.2.2.1, hk.2.2.2.2.2.2⟩⟩⟩⟩⟩)⟩, ⟨by (with_reducible repeat (first | apply Kd.R_alloc | apply Kd.R_drewN | apply Kd.R_drew)); exact Kd.R_mono HO_12.out (fun _ hk => ⟨hk.1, hk.2.2⟩)⟩, ⟨by (with_reducible repeat (first | apply Kd.R_alloc | apply Kd.R_drewN | apply Kd.R_drew)); exact Kd.R_mono HO_14.out (fun _ hk => ⟨hk.1, hk.2.2⟩)⟩, ⟨by (with_reducible repeat (first | apply Kd.V_alloc | apply Kd.V_drewN | apply Kd.V_drew)); exact Kd.V_mono HO_177002.out (fun _ hk => ⟨hk.1, ⟨hk.2.2.1, ⟨hk.2.2.2.1, ⟨hk.2.2.2.2.1, ⟨hk.2.2.2.2.2.1, ⟨hk.2.2.2.2.2.2.1, hk.2.2.2.2.2.2.2⟩⟩⟩⟩⟩⟩)⟩, ⟨by (with_reducible repeat (first | apply Kd.R_alloc | apply Kd.R_drewN | apply Kd.R_drew)); exact HO_187002.out⟩, ⟨by (with_reducible repeat (first | refine k_n ?_ _ | refine k_d ?_ | refine k_a ?_ _)); exact BK176.out⟩, ⟨by (with_reducible repeat (first | refine k_n ?_ _ | refine k_d ?_ | refine k_a ?_ _)); exact BK186.out⟩, ⟨by repeat (first | (with_reducible first | exact HB.out | apply b_a | apply b_n | apply b_d | refine b_s ?_ GE176.out | refine b_s ?_ GE186.out) | exact HB.out)⟩⟩
      rw [if_pos c83] at H
      have c83b0 : (t190 == 30) = true := beq_iff_eq.mpr c83
      have c83b1 : (t190 != 30) = false := bne_eq_false_iff_eq.mpr c83
      clear c83
      by_cases c84 : (t187.length : Int) = 0
      ·
       rw [if_pos c84] at H
       have c84b0 : ((t187.length : Int) == 0) = true := beq_iff_eq.mpr c84
       have c84b1 : ((t187.length : Int) != 0) = false := bne_eq_false_iff_eq.mpr c84
       clear c84
       have H' := Aside0.mk H
       clear H
       obtain ⟨Ao85, co85, eo85⟩ := Kd.R_slice HO_8.out
       subst eo85
       go_wp2
       go_meet
       case rel => exact ⟨_, (false), (by first | rfl | (simp; done) | (simp [*]; done)), H', ⟨by have := HJ3.out; have := HJ28.out; first | omega | exact Nat.le_refl _⟩, ⟨by (with_reducible repeat (first | apply Kd.N_alloc | apply Kd.N_drewN | apply Kd.N_drew)); exact Kd.N_mono HO_10.out (fun _ hk => ⟨hk.1, ⟨hk.2.2.1, ⟨hk.2.2.2.1, ⟨hk.2.2.2.2.1, ⟨hk.2.2.2.2.2.1, hk.2.2.2.2.2.2⟩⟩⟩⟩⟩)⟩, ⟨by (with_reducible repeat (first | apply Kd.R_alloc | apply Kd.R_drewN | apply Kd.R_drew)); exact Kd.R_mono HO_12.out (fun _ hk => ⟨hk.1, hk.2.2⟩)⟩, ⟨by (with_reducible repeat (first | apply Kd.R_alloc | apply Kd.R_drewN | apply Kd.R_drew)); exact Kd.R_mono HO_14.out (fun _ hk => ⟨hk.1, hk.2.2⟩)⟩, ⟨by (with_reducible repeat (first | apply Kd.V_alloc | apply Kd.V_drewN | apply Kd.V_drew)); exact Kd.V_mono HO_177002.out (fun _ hk => ⟨hk.1, ⟨hk.2.2.1, ⟨hk.2.2.2.1, ⟨hk.2.2.2.2.1, ⟨hk.2.2.2.2.2.1, ⟨hk.2.2.2.2.2.2.1, hk.2.2.2.2.2.2.2⟩⟩⟩⟩⟩⟩)⟩, ⟨by (with_reducible repeat (first | apply Kd.R_alloc | apply Kd.R_drewN | apply Kd.R_drew)); exact HO_187002.out⟩, ⟨by (with_reducible repeat (first | refine k_n ?_ _ | refine k_d ?_ | refine k_a ?_ _)); exact BK176.out⟩, ⟨by (with_reducible repeat (first | refine k_n ?_ _ | refine k_d ?_ | refine k_a ?_ _)); exact BK186.out⟩, ⟨by repeat (first | (with_reducible first | exact HB.out | apply b_a | apply b_n | apply b_d | refine b_s ?_ GE176.out | refine b_s ?_ GE186.out) | exact HB.out)⟩⟩
      rw [if_neg c84] at H
      have c84b0 : ((t187.length : Int) == 0) = false := beq_eq_false_iff_ne.mpr c84
      have c84b1 : ((t187.length : Int) != 0) = true := bne_iff_ne.mpr c84
      have c84b2 : ¬ (t187 = []) := fun h_ => c84 (by rw [h_]; rfl)
      have H' := Aside0.mk H
      clear H
      obtain ⟨Ao86, co86, eo86⟩ := Kd.R_slice HO_8.out
      subst eo86
      go_wp2
      go_meet
      case rel => exact ⟨_, (true), (by first | rfl | (simp; done) | (simp [*]; done)), H', ⟨by have := HJ3.out; have := HJ28.out; first | omega | exact Nat.le_refl _⟩, ⟨by (with_reducible repeat (first | apply Kd.N_alloc | apply Kd.N_drewN | apply Kd.N_drew)); exact Kd.N_mono HO_10.out (fun _ hk => ⟨hk.1, ⟨hk.2.2.1, ⟨hk.2.2.2.1, ⟨hk.2.2.2.2.1, ⟨hk.2.2.2.2.2.1, hk.2.2.2.2.2.2⟩⟩⟩⟩⟩)⟩, ⟨by (with_reducible repeat (first | apply Kd.R_alloc | apply Kd.R_drewN | apply Kd.R_drew)); exact Kd.R_mono HO_12.out (fun _ hk => ⟨hk.1, hk.2.2⟩)⟩, ⟨by (with_reducible repeat (first | apply Kd.R_alloc | apply Kd.R_drewN | apply Kd.R_drew)); exact Kd.R_mono HO_14.out (fun _ hk => ⟨hk.1, hk.2.2⟩)⟩, ⟨by (with_reducible repeat (first | apply Kd.V_alloc | apply Kd.V_drewN | apply Kd.V_drew)); exact Kd.V_mono HO_177002.out (fun _ hk => ⟨hk.1, ⟨hk.2.2.1, ⟨hk.2.2.2.1, ⟨hk.2.2.2.2.1, ⟨hk.2.2.2.2.2.1, ⟨hk.2.2.2.2.2.2.1, hk.2.2.2.2.2.2.2⟩⟩⟩⟩⟩⟩)⟩, ⟨by (with_reducible repeat (first | apply Kd.R_alloc | apply Kd.R_drewN | apply Kd.R_drew)); exact HO_187002.out⟩, ⟨by (with_reducible repeat (first | refine k_n ?_ _ | refine k_d ?_ | refine k_a ?_ _)); exact BK176.out⟩, ⟨by (with_reducible repeat (first | refine k_n ?_ _ | refine k_d ?_ | refine k_a ?_ _)); exact BK186.out⟩, ⟨by repeat (first | (with_reducible first | exact HB.out | apply b_a | apply b_n | apply b_d | refine b_s ?_ GE176.out | refine b_s ?_ GE186.out) | exact HB.out)⟩⟩
     case rest => as_aux_lemma =>
      clear HC77
      try clear c1
      try clear p2
      try clear c3
      try clear c5
      try clear c7
      try clear c8
      try clear c13
      try clear c18
      try clear c19
      try clear c54
      try clear c76
      try clear c78
      try clear c78b0
      try clear c78b1
      try clear c78b2
      try clear c79
      try clear c83
      try clear c83b0
      try clear c83b1
      try clear c84
      try clear c84b0
      try clear c84b1
      try clear c84b2
      try clear p2
      obtain ⟨kq, x110_76, rfl, HA, HJ76, HO_10, HO_12, HO_14, HO_177002, HO_187002, BK176, BK186, HB⟩ := hcut
      cases kq with
      | zero => exact absurd HA.out (by simp [pelotonlaw04_MatmulApplies.j2])
      | succ kj76 =>
       have H := HA.out
       clear HA
       simp only [pelotonlaw04_MatmulApplies.j2] at H
       by_cases c87 : x110_76 = true
       ·
        subst c87
        have H1 : (some false) = some r := by rw [if_pos rfl] at H; exact H
        clear H
        have H := H1
        clear H1
        obtain rfl := Option.some.inj H
        go_wp2
        go_ret
        exact ⟨by first | rfl | (simp [errW_none, errW_some] <;> rfl) | (simp [*, errW_none, errW_some] <;> rfl), by repeat (first | (with_reducible first | exact HB.out | apply b_a | apply b_n | apply b_d | refine b_s ?_ GE176.out | refine b_s ?_ GE186.out) | exact HB.out)⟩
       replace c87 := Bool.eq_false_iff.mpr c87
       subst c87
       have H1 : (if t201 = true then (pelotonlaw04_MatmulApplies.j3 kj76 t194 t197 t198 t202 (!t205)) else (pelotonlaw04_MatmulApplies.j3 kj76 t194 t197 t198 t202 true)) = some r := by rw [if_neg (show ¬ (false = true) by decide)] at H; exact H
       clear H
       have H := H1
       clear H1
       have HC88 := Aside0.mk H
       clear H
       go_upto_region 12 with (fail)
       go_cut [116] (fun v116 wc => ∃ (kq : Nat) (x116_87 : Bool), v116 = .bool x116_87 ∧ Aside0 (pelotonlaw04_MatmulApplies.j3 kq t194 t197 t198 t202 x116_87 = some r) ∧ Aside0 (kq ≤ kj76) ∧ Aside0 (Kd.N (Kd.slice 21 (Kd.int .i32)) 32 wc w.heap.size (fun k_ => ((P0_2_ k_ ∨ P1_ k_ ∨ P2_ k_) ∨ w.heap.size ≤ k_) ∧ some k_ ≠ (v199 : Value).ownBlock ∧ some k_ ≠ (v203 : Value).ownBlock ∧ some k_ ≠ ((.slice Ao37 y183.length co37) : Value).ownBlock ∧ k_ ≠ gb176 ∧ k_ ≠ gb186) v195 t194) ∧ Aside0 (Kd.R (Kd.int .i32) 21 wc w.heap.size (fun k_ => (w.heap.size ≤ k_) ∧ some k_ ≠ (v203 : Value).ownBlock) v199 t198) ∧ Aside0 (Kd.R (Kd.int .i32) 21 wc w.heap.size (fun k_ => (w.heap.size ≤ k_) ∧ some k_ ≠ (v199 : Value).ownBlock) v203 t202) ∧ Aside0 (Kd.V (Kd.int .i8) 35 wc w.heap.size (fun k_ => ((P0_2_ k_ ∨ P1_ k_ ∨ P2_ k_) ∨ w.heap.size ≤ k_) ∧ some k_ ≠ (v195 : Value).ownBlock ∧ some k_ ≠ (v199 : Value).ownBlock ∧ some k_ ≠ (v203 : Value).ownBlock ∧ some k_ ≠ ((.slice Ao37 y183.length co37) : Value).ownBlock ∧ k_ ≠ gb176 ∧ k_ ≠ gb186) (.slice A0_2 l0_2.length c0_2) l0_2) ∧ Aside0 (Kd.R (Kd.int .i8) 35 wc w.heap.size (fun k_ => (w.heap.size ≤ k_)) (.slice Ao37 y183.length co37) y183) ∧ Aside0 (wc.heap[gb176]? = some (.cells #[.int .i64 a0_0, .int .i64 a0_1, (.slice A0_2 l0_2.length c0_2)] 30 (0, 0))) ∧ Aside0 (wc.heap[gb186]? = some (.cells #[.int .i64 a0_0, .int .i64 a0_1, (.slice Ao37 y183.length co37)] 30 (0, 0))) ∧ Aside0 (Below w.heap.size w wc))
       case first =>
        have H := HC88.out
        clear HC88
        by_cases c89 : t201 = true
        ·
         subst c89
         have H1 : (pelotonlaw04_MatmulApplies.j3 kj76 t194 t197 t198 t202 (!t205)) = some r := by rw [if_pos rfl] at H; exact H
         clear H
         have H := H1
         clear H1
         have H' := Aside0.mk H
         clear H
         go_wp2
         go_meet
         case rel => exact ⟨_, (!t205), (by first | rfl | (simp; done) | (simp [*]; done)), H', ⟨by have := HJ3.out; have := HJ28.out; have := HJ76.out; first | omega | exact Nat.le_refl _⟩, ⟨by (with_reducible repeat (first | apply Kd.N_alloc | apply Kd.N_drewN | apply Kd.N_drew)); exact HO_10.out⟩, ⟨by (with_reducible repeat (first | apply Kd.R_alloc | apply Kd.R_drewN | apply Kd.R_drew)); exact HO_12.out⟩, ⟨by (with_reducible repeat (first | apply Kd.R_alloc | apply Kd.R_drewN | apply Kd.R_drew)); exact HO_14.out⟩, ⟨by (with_reducible repeat (first | apply Kd.V_alloc | apply Kd.V_drewN | apply Kd.V_drew)); exact HO_177002.out⟩, ⟨by (with_reducible repeat (first | apply Kd.R_alloc | apply Kd.R_drewN | apply Kd.R_drew)); exact HO_187002.out⟩, ⟨by (with_reducible repeat (first | refine k_n ?_ _ | refine k_d ?_ | refine k_a ?_ _)); exact BK176.out⟩, ⟨by (with_reducible repeat (first | refine k_n ?_ _ | refine k_d ?_ | refine k_a ?_ _)); exact BK186.out⟩, ⟨by repeat (first | (with_reducible first | exact HB.out | apply b_a | apply b_n | apply b_d | refine b_s ?_ GE176.out | refine b_s ?_ GE186.out) | exact HB.out)⟩⟩
        replace c89 := Bool.eq_false_iff.mpr c89
        subst c89
        have H1 : (pelotonlaw04_MatmulApplies.j3 kj76 t194 t197 t198 t202 true) = some r := by rw [if_neg (show ¬ (false = true) by decide)] at H; exact H
        clear H
        have H := H1
        clear H1
        have H' := Aside0.mk H
        clear H
        go_wp2
        go_meet
        case rel => exact ⟨_, (true), (by first | rfl | (simp; done) | (simp [*]; done)), H', ⟨by have := HJ3.out; have := HJ28.out; have := HJ76.out; first | omega | exact Nat.le_refl _⟩, ⟨by (with_reducible repeat (first | apply Kd.N_alloc | apply Kd.N_drewN | apply Kd.N_drew)); exact HO_10.out⟩, ⟨by (with_reducible repeat (first | apply Kd.R_alloc | apply Kd.R_drewN | apply Kd.R_drew)); exact HO_12.out⟩, ⟨by (with_reducible repeat (first | apply Kd.R_alloc | apply Kd.R_drewN | apply Kd.R_drew)); exact HO_14.out⟩, ⟨by (with_reducible repeat (first | apply Kd.V_alloc | apply Kd.V_drewN | apply Kd.V_drew)); exact HO_177002.out⟩, ⟨by (with_reducible repeat (first | apply Kd.R_alloc | apply Kd.R_drewN | apply Kd.R_drew)); exact HO_187002.out⟩, ⟨by (with_reducible repeat (first | refine k_n ?_ _ | refine k_d ?_ | refine k_a ?_ _)); exact BK176.out⟩, ⟨by (with_reducible repeat (first | refine k_n ?_ _ | refine k_d ?_ | refine k_a ?_ _)); exact BK186.out⟩, ⟨by repeat (first | (with_reducible first | exact HB.out | apply b_a | apply b_n | apply b_d | refine b_s ?_ GE176.out | refine b_s ?_ GE186.out) | exact HB.out)⟩⟩
       case rest => as_aux_lemma =>
        clear HC88
        try clear c1
        try clear p2
        try clear c3
        try clear c5
        try clear c7
        try clear c8
        try clear c13
        try clear c18
        try clear c19
        try clear c54
        try clear c76
        try clear c78
        try clear c78b0
        try clear c78b1
        try clear c78b2
        try clear c79
        try clear c83
        try clear c83b0
        try clear c83b1
        try clear c84
        try clear c84b0
        try clear c84b1
        try clear c84b2
        try clear c87
        try clear c89
        try clear p2
        obtain ⟨kq, x116_87, rfl, HA, HJ87, HO_10, HO_12, HO_14, HO_177002, HO_187002, BK176, BK186, HB⟩ := hcut
        cases kq with
        | zero => exact absurd HA.out (by simp [pelotonlaw04_MatmulApplies.j3])
        | succ kj87 =>
         have H := HA.out
         clear HA
         simp only [pelotonlaw04_MatmulApplies.j3] at H
         by_cases c90 : x116_87 = true
         ·
          subst c90
          have H1 : (if t197 = 30 then (some ((t194.length : Int) == 0)) else (some false)) = some r := by rw [if_pos rfl] at H; exact H
          clear H
          have H := H1
          clear H1
          by_cases c91 : t197 = 30
          rotate_left
          ·
           rw [if_neg c91] at H
           have c91b0 : (t197 == 30) = false := beq_eq_false_iff_ne.mpr c91
           have c91b1 : (t197 != 30) = true := bne_iff_ne.mpr c91
           obtain rfl := Option.some.inj H
           go_wp2
           go_ret
           exact ⟨by first | rfl | (simp [errW_none, errW_some] <;> rfl) | (simp [*, errW_none, errW_some] <;> rfl), by repeat (first | (with_reducible first | exact HB.out | apply b_a | apply b_n | apply b_d | refine b_s ?_ GE176.out | refine b_s ?_ GE186.out) | exact HB.out)⟩
          rw [if_pos c91] at H
          have c91b0 : (t197 == 30) = true := beq_iff_eq.mpr c91
          have c91b1 : (t197 != 30) = false := bne_eq_false_iff_eq.mpr c91
          clear c91
          obtain rfl := Option.some.inj H
          obtain ⟨Ao92, co92, eo92⟩ := Kd.N_slice HO_10.out
          subst eo92
          go_wp2
          go_ret
          exact ⟨by first | rfl | (simp [errW_none, errW_some] <;> rfl) | (simp [*, errW_none, errW_some] <;> rfl), by repeat (first | (with_reducible first | exact HB.out | apply b_a | apply b_n | apply b_d | refine b_s ?_ GE176.out | refine b_s ?_ GE186.out) | exact HB.out)⟩
         replace c90 := Bool.eq_false_iff.mpr c90
         subst c90
         have H1 : (if t197 = 0 then (if (t194.length : Int) = 2 then (if 0 < (t194.length : Int) then ((pelotonref04_Ints.f kj87 (rd_L4 t194 0) t198).bind fun t215 => (if t215 = true then (if 1 < (t194.length : Int) then ((pelotonref04_Ints.f kj87 (rd_L4 t194 1) t202).bind fun t217 => (some t217)) else (none)) else (some false))) else (none)) else (some false)) else (some false)) = some r := by rw [if_neg (show ¬ (false = true) by decide)] at H; exact H
         clear H
         have H := H1
         clear H1
         by_cases c93 : t197 = 0
         rotate_left
         ·
          rw [if_neg c93] at H
          have c93b0 : (t197 == 0) = false := beq_eq_false_iff_ne.mpr c93
          have c93b1 : (t197 != 0) = true := bne_iff_ne.mpr c93
          obtain rfl := Option.some.inj H
          go_wp2
          go_ret
          exact ⟨by first | rfl | (simp [errW_none, errW_some] <;> rfl) | (simp [*, errW_none, errW_some] <;> rfl), by repeat (first | (with_reducible first | exact HB.out | apply b_a | apply b_n | apply b_d | refine b_s ?_ GE176.out | refine b_s ?_ GE186.out) | exact HB.out)⟩
         rw [if_pos c93] at H
         have c93b0 : (t197 == 0) = true := beq_iff_eq.mpr c93
         have c93b1 : (t197 != 0) = false := bne_eq_false_iff_eq.mpr c93
         clear c93
         by_cases c94 : (t194.length : Int) = 2
         rotate_left
         ·
          rw [if_neg c94] at H
          have c94b0 : ((t194.length : Int) == 2) = false := beq_eq_false_iff_ne.mpr c94
          have c94b1 : ((t194.length : Int) != 2) = true := bne_iff_ne.mpr c94
          obtain rfl := Option.some.inj H
          obtain ⟨Ao105, co105, eo105⟩ := Kd.N_slice HO_10.out
          subst eo105
          go_wp2
          go_ret
          exact ⟨by first | rfl | (simp [errW_none, errW_some] <;> rfl) | (simp [*, errW_none, errW_some] <;> rfl), by repeat (first | (with_reducible first | exact HB.out | apply b_a | apply b_n | apply b_d | refine b_s ?_ GE176.out | refine b_s ?_ GE186.out) | exact HB.out)⟩
         rw [if_pos c94] at H
         have c94b0 : ((t194.length : Int) == 2) = true := beq_iff_eq.mpr c94
         have c94b1 : ((t194.length : Int) != 2) = false := bne_eq_false_iff_eq.mpr c94
         clear c94
         by_cases c95 : 0 < (t194.length : Int)
         rotate_left
         ·
          rw [if_neg c95] at H
          exact absurd H (by simp)
         rw [if_pos c95] at H
         have c95b0 : decide (0 < (t194.length : Int)) = true := decide_eq_true c95
         have c95b1 : decide (0 < t194.length) = true := decide_eq_true (by omega)
         clear c95
         replace H := Option.bind_eq_some_iff.mp H
         obtain ⟨t215, A960, H⟩ := H
         replace H : (if t215 = true then (if 1 < (t194.length : Int) then ((pelotonref04_Ints.f kj87 (rd_L4 t194 1) t202).bind fun t217 => (some t217)) else (none)) else (some false)) = some r := H
         have A96 := Aside0.mk A960
         clear A960
         by_cases c97 : t215 = true
         rotate_left
         ·
          replace c97 := Bool.eq_false_iff.mpr c97
          subst c97
          have H1 : (some false) = some r := by rw [if_neg (show ¬ (false = true) by decide)] at H; exact H
          clear H
          have H := H1
          clear H1
          obtain rfl := Option.some.inj H
          obtain ⟨Ao103, co103, eo103⟩ := Kd.N_slice HO_10.out
          subst eo103
          have p214 : 0 ≤ (0 : Int) := (by omega)
          have q214 : 0 < (t194.length : Int) := of_decide_eq_true (by first | (with_reducible assumption) | assumption)
          obtain ⟨ad214, A214_0, c214_0, e214, hx214_0, hl214_0, hi214_0⟩ := at_L4 (Kd.N_reads' HO_10.out).2.2 0 p214 q214
          cases e214
          obtain ⟨ce214, hce214, hMe214, hcc214⟩ := Kd.N_get HO_10.out [] 0 p214 (by first | exact q214 | exact of_decide_eq_true (by first | (with_reducible assumption) | assumption) | (have e_ := (Kd.N_reads' HO_10.out).1; omega))
          obtain ⟨ua214_0, uc214_0, rfl, ul214_0, ge214_0⟩ := Kd.FK_slice_open hMe214
          have hv214_0 := hcc214 0 _ rfl
          rw [Nat.add_zero, show ((Kd.slice 21 (Kd.int .i32))).sz = 1 from rfl, Nat.mul_one] at hv214_0
          replace hv214_0 := Option.some.inj (hv214_0.symm.trans hx214_0)
          injection hv214_0 with hva_ hvn_ hvc_
          rw [hva_] at ge214_0
          rw [hvc_] at ul214_0
          have HL214_0 := Aside0.mk (show Kd.V (Kd.int .i32) 21 _ w.heap.size _ _ (rd_L4 t194 0) from Kd.V_mk ul214_0 ge214_0)
          clear hva_ hvn_ hvc_ ge214_0 ul214_0
          clear hcc214 hce214
          have qi214 : (0 < t194.length) = True := eq_true (by omega)
          (try rw [show ((0 : Int)).toNat = 0 from rfl] at hx214_0)
          (try rw [Addr.add_zero'] at hx214_0)
          have HR214_0 := Aside0.mk hi214_0
          have HC214_0 := Aside0.mk hl214_0
          clear hi214_0 hl214_0
          replace p214 := eq_true p214
          replace q214 := eq_true q214
          obtain ⟨Ao104, co104, eo104⟩ := Kd.R_slice HO_12.out
          subst eo104
          go_wp2_with (first | (go_at_call 15; (with_reducible refine (pelotonref04_Ints.calls kj87 _ _ (rd_L4 t194 0) _ _ t198 false _ ?side1 ?side2 ?side3 ?side4 A96.out).mono ?_); (case side1 => repeat (first | exact (by repeat (first | (with_reducible exact HR214_0.out) | (with_reducible refine Kd.C_alloc ?_ _) | (with_reducible refine Kd.C_drewN ?_ _) | (with_reducible refine Kd.C_drew ?_) | exact HR214_0.out)) | (with_reducible refine Kd.C_alloc ?_ _) | (with_reducible refine Kd.C_drewN ?_ _) | (with_reducible refine Kd.C_drew ?_))); (case side2 => exact HC214_0.out); (case side3 => repeat (first | exact (Kd.R_reads' HO_12.out).2.2 | (with_reducible refine Kd.C_alloc ?_ _) | (with_reducible refine Kd.C_drewN ?_ _) | (with_reducible refine Kd.C_drew ?_))); (case side4 => exact (Kd.R_reads' HO_12.out).2.1); rintro e w' ⟨rfl, ⟨nd, rfl⟩⟩))
          go_ret
          exact ⟨by first | rfl | (simp [errW_none, errW_some] <;> rfl) | (simp [*, errW_none, errW_some] <;> rfl), by repeat (first | (with_reducible first | exact HB.out | apply b_a | apply b_n | apply b_d | refine b_s ?_ GE176.out | refine b_s ?_ GE186.out) | exact HB.out)⟩
         subst c97
         have H1 : (if 1 < (t194.length : Int) then ((pelotonref04_Ints.f kj87 (rd_L4 t194 1) t202).bind fun t217 => (some t217)) else (none)) = some r := by rw [if_pos rfl] at H; exact H
         clear H
         have H := H1
         clear H1
         by_cases c98 : 1 < (t194.length : Int)
         rotate_left
         ·
          rw [if_neg c98] at H
          exact absurd H (by simp)
         rw [if_pos c98] at H
         have c98b0 : decide (1 < (t194.length : Int)) = true := decide_eq_true c98
         have c98b1 : decide (1 < t194.length) = true := decide_eq_true (by omega)
         clear c98
         replace H := Option.bind_eq_some_iff.mp H
         obtain ⟨t217, A990, H⟩ := H
         replace H : (some t217) = some r := H
         have A99 := Aside0.mk A990
         clear A990
         obtain rfl := Option.some.inj H
         obtain ⟨Ao100, co100, eo100⟩ := Kd.N_slice HO_10.out
         subst eo100
         have p214 : 0 ≤ (0 : Int) := (by omega)
         have q214 : 0 < (t194.length : Int) := of_decide_eq_true (by first | (with_reducible assumption) | assumption)
         obtain ⟨ad214, A214_0, c214_0, e214, hx214_0, hl214_0, hi214_0⟩ := at_L4 (Kd.N_reads' HO_10.out).2.2 0 p214 q214
         cases e214
         obtain ⟨ce214, hce214, hMe214, hcc214⟩ := Kd.N_get HO_10.out [] 0 p214 (by first | exact q214 | exact of_decide_eq_true (by first | (with_reducible assumption) | assumption) | (have e_ := (Kd.N_reads' HO_10.out).1; omega))
         obtain ⟨ua214_0, uc214_0, rfl, ul214_0, ge214_0⟩ := Kd.FK_slice_open hMe214
         have hv214_0 := hcc214 0 _ rfl
         rw [Nat.add_zero, show ((Kd.slice 21 (Kd.int .i32))).sz = 1 from rfl, Nat.mul_one] at hv214_0
         replace hv214_0 := Option.some.inj (hv214_0.symm.trans hx214_0)
         injection hv214_0 with hva_ hvn_ hvc_
         rw [hva_] at ge214_0
         rw [hvc_] at ul214_0
         have HL214_0 := Aside0.mk (show Kd.V (Kd.int .i32) 21 _ w.heap.size _ _ (rd_L4 t194 0) from Kd.V_mk ul214_0 ge214_0)
         clear hva_ hvn_ hvc_ ge214_0 ul214_0
         clear hcc214 hce214
         have qi214 : (0 < t194.length) = True := eq_true (by omega)
         (try rw [show ((0 : Int)).toNat = 0 from rfl] at hx214_0)
         (try rw [Addr.add_zero'] at hx214_0)
         have HR214_0 := Aside0.mk hi214_0
         have HC214_0 := Aside0.mk hl214_0
         clear hi214_0 hl214_0
         replace p214 := eq_true p214
         replace q214 := eq_true q214
         obtain ⟨Ao101, co101, eo101⟩ := Kd.R_slice HO_12.out
         subst eo101
         go_wp2_with (first | (go_at_call 15; (with_reducible refine (pelotonref04_Ints.calls kj87 _ _ (rd_L4 t194 0) _ _ t198 true _ ?side1 ?side2 ?side3 ?side4 A96.out).mono ?_); (case side1 => repeat (first | exact (by repeat (first | (with_reducible exact HR214_0.out) | (with_reducible refine Kd.C_alloc ?_ _) | (with_reducible refine Kd.C_drewN ?_ _) | (with_reducible refine Kd.C_drew ?_) | exact HR214_0.out)) | (with_reducible refine Kd.C_alloc ?_ _) | (with_reducible refine Kd.C_drewN ?_ _) | (with_reducible refine Kd.C_drew ?_))); (case side2 => exact HC214_0.out); (case side3 => repeat (first | exact (Kd.R_reads' HO_12.out).2.2 | (with_reducible refine Kd.C_alloc ?_ _) | (with_reducible refine Kd.C_drewN ?_ _) | (with_reducible refine Kd.C_drew ?_))); (case side4 => exact (Kd.R_reads' HO_12.out).2.1); rintro e w' ⟨rfl, ⟨nd, rfl⟩⟩; have p216 : 0 ≤ (1 : Int) := (by omega); have q216 : 1 < (t194.length : Int) := of_decide_eq_true (by first | (with_reducible assumption) | assumption); obtain ⟨ad216, A216_0, c216_0, e216, hx216_0, hl216_0, hi216_0⟩ := at_L4 (Kd.N_reads' HO_10.out).2.2 1 p216 q216; obtain rfl : ad214 = ad216 := (by injection e216); obtain ⟨ce216, hce216, hMe216, hcc216⟩ := Kd.N_get HO_10.out [] 1 p216 (by first | exact q216 | exact of_decide_eq_true (by first | (with_reducible assumption) | assumption) | (have e_ := (Kd.N_reads' HO_10.out).1; omega)); obtain ⟨ua216_0, uc216_0, rfl, ul216_0, ge216_0⟩ := Kd.FK_slice_open hMe216; have hv216_0 := hcc216 0 _ rfl; rw [Nat.add_zero, show ((Kd.slice 21 (Kd.int .i32))).sz = 1 from rfl, Nat.mul_one] at hv216_0; replace hv216_0 := Option.some.inj (hv216_0.symm.trans hx216_0); injection hv216_0 with hva_ hvn_ hvc_; rw [hva_] at ge216_0; rw [hvc_] at ul216_0; have HL216_0 := Aside0.mk (show Kd.V (Kd.int .i32) 21 _ w.heap.size _ _ (rd_L4 t194 1) from Kd.V_mk ul216_0 ge216_0); clear hva_ hvn_ hvc_ ge216_0 ul216_0; clear hcc216 hce216; (try simp only [show (1 : Int).toNat = 1 from rfl, Nat.reduceMul, Nat.reduceEqDiff, Go.Addr.add, ↓reduceIte] at hx216_0); have qi216 : (1 < t194.length) = True := eq_true (by omega); (try rw [show ((1 : Int)).toNat = 1 from rfl] at hx216_0); have HR216_0 := Aside0.mk hi216_0; have HC216_0 := Aside0.mk hl216_0; clear hi216_0 hl216_0; replace p216 := eq_true p216; replace q216 := eq_true q216; obtain ⟨Ao102, co102, eo102⟩ := Kd.R_slice HO_14.out; subst eo102) | (go_at_call 15; (with_reducible refine (pelotonref04_Ints.calls kj87 _ _ (rd_L4 t194 1) _ _ t202 t217 _ ?side1 ?side2 ?side3 ?side4 A99.out).mono ?_); (case side1 => repeat (first | exact (by repeat (first | (with_reducible exact HR216_0.out) | (with_reducible refine Kd.C_alloc ?_ _) | (with_reducible refine Kd.C_drewN ?_ _) | (with_reducible refine Kd.C_drew ?_) | exact HR216_0.out)) | (with_reducible refine Kd.C_alloc ?_ _) | (with_reducible refine Kd.C_drewN ?_ _) | (with_reducible refine Kd.C_drew ?_))); (case side2 => exact HC216_0.out); (case side3 => repeat (first | exact (Kd.R_reads' HO_14.out).2.2 | (with_reducible refine Kd.C_alloc ?_ _) | (with_reducible refine Kd.C_drewN ?_ _) | (with_reducible refine Kd.C_drew ?_))); (case side4 => exact (Kd.R_reads' HO_14.out).2.1); rintro e w' ⟨rfl, ⟨nd, rfl⟩⟩))
         go_ret
         exact ⟨by first | rfl | (simp [errW_none, errW_some] <;> rfl) | (simp [*, errW_none, errW_some] <;> rfl), by repeat (first | (with_reducible first | exact HB.out | apply b_a | apply b_n | apply b_d | refine b_s ?_ GE176.out | refine b_s ?_ GE186.out) | exact HB.out)⟩
/-- THE ONE PURE STATEMENT of pelotonlaw04_MatmulApplies. -/
def pelotonlaw04_MatmulApplies.Pure : Prop := ∀ (a0_0 : Int) (a0_1 : Int) (l0_2 : List Int) (l1 : List Int) (l2 : List Int), ((Lit.int .i64 a0_0).wf = true ∧ (Lit.int .i64 a0_1).wf = true ∧ l0_2.length ≤ maxLen ∧ ∀ y0 ∈ l0_2, (Lit.int .i8 y0).wf = true) → (l1.length ≤ maxLen ∧ ∀ y0 ∈ l1, (Lit.int .i8 y0).wf = true) → (l2.length ≤ maxLen ∧ ∀ y0 ∈ l2, (Lit.int .i8 y0).wf = true) → ∃ k, pelotonlaw04_MatmulApplies.f k a0_0 a0_1 l0_2 l1 l2 = some true

theorem pelotonlaw04_MatmulApplies.calls (k : Nat) (a0_0 : Int) (a0_1 : Int) (A0_2 : Option Addr) (c0_2 : Nat) (l0_2 : List Int) (A1 : Option Addr) (c1 : Nat) (l1 : List Int) (A2 : Option Addr) (c2 : Nat) (l2 : List Int) (r : Bool) (w : World) (hr0_2 : Kd.C (Kd.int .i8) w A0_2 l0_2.length l0_2) (hc0_2 : l0_2.length ≤ c0_2) (hr1 : Kd.C (Kd.int .i8) w A1 l1.length l1) (hc1 : l1.length ≤ c1) (hr2 : Kd.C (Kd.int .i8) w A2 l2.length l2) (hc2 : l2.length ≤ c2) (h : pelotonlaw04_MatmulApplies.f k a0_0 a0_1 l0_2 l1 l2 = some r) :
  Calls Try.prog 5 #[.agg #[.int .i64 a0_0, .int .i64 a0_1, .slice A0_2 l0_2.length c0_2], .slice A1 l1.length c1, .slice A2 l2.length c2] w fun e w' => e = .returned (.bool r) ∧ Below w.heap.size w w' := pelotonlaw04_MatmulApplies.callsV k a0_0 a0_1 (fun _ => True) A0_2 c0_2 l0_2 (fun _ => True) A1 c1 l1 (fun _ => True) A2 c2 l2 r w (Kd.V_mk hc0_2 (C_F hr0_2)) (Kd.V_mk hc1 (C_F hr1)) (Kd.V_mk hc2 (C_F hr2)) h
end Go.Proofs.Ytananmepljeldaa.QMatmulApplies
