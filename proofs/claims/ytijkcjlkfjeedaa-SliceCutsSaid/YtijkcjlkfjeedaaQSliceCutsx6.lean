-- Written by a program of this session (a turned copy of the print) out of the translation. Lean checks it.
import Derived.Test.YtijkcjlkfjeedaaQSliceCutsx0
import Derived.Test.YtijkcjlkfjeedaaQSliceCutsx1
import Derived.Test.YtijkcjlkfjeedaaQSliceCutsx2
import Derived.Test.YtijkcjlkfjeedaaQSliceCutsx3
import Derived.Test.YtijkcjlkfjeedaaQSliceCutsx4
import Derived.Test.YtijkcjlkfjeedaaQSliceCutsx5
namespace Go.Proofs.Ytijkcjlkfjeedaa.QSliceCuts
open Go.RowKit Go.Proofs.YtijkcjlkfjeedaaW.PrintWords Go.Proofs.YtijkcjlkfjeedaaW.PrintLast Go.Proofs.YtijkcjlkfjeedaaW.PrintMore
attribute [local go_sem] max2_int min2_int max_two min_two max_three min_three max_four min_four   -- for this text's walks alone
open Go.Proofs.YtijkcjlkfjeedaaW.PrintWords renaming below_alloc → b_a, pw_below_drewN → b_n, below_drew1 → b_d, below_set → b_s, blk_drewN → k_n, blk_drew → k_d, blk_alloc → k_a
open List renaming setIfInBounds_toArray → l_1, set_cons_zero → l_2, set_cons_succ → l_3, map_toArray → l_4, map_cons → l_5, map_nil → l_6, length_drop → l_7, length_take → l_8
set_option linter.unusedVariables false
set_option linter.unusedSimpArgs false

attribute [local go_sem high] eqA29
/-! ### pelotonlaw10_SliceCuts: function 3 -/
mutual
def pelotonlaw10_SliceCuts.j0 : Nat → Int → Bool → Int → Int → Int → Int → Int → Int → Int → Int → Int → Option (Bool)
 | 0, _, _, _, _, _, _, _, _, _, _, _ => none
 | k + 1, x2, x7, x8, x160000, x160001, x160002, x160003, x160004, x160005, x161000, x161001 => (slice_Right.f x160000 x160001 x160002 x160003 x160004 x160005 x161000 x161001).bind fun t163 => (if (t163 != x7) = true then (pelotonlaw10_SliceCuts.j1 k x2 x7 true x160000 x160001 x160002 x160003 x160004 x160005 x161000 x161001) else ((slice_Workers.f x160000 x160001 x160002 x160003 x160004 x160005 x161000 x161001).bind fun t164 => (pelotonlaw10_SliceCuts.j1 k x2 x7 (t164 != x8) x160000 x160001 x160002 x160003 x160004 x160005 x161000 x161001)))
def pelotonlaw10_SliceCuts.j1 : Nat → Int → Bool → Bool → Int → Int → Int → Int → Int → Int → Int → Int → Option (Bool)
 | 0, _, _, _, _, _, _, _, _, _, _, _ => none
 | k + 1, x2, x7, x37, x160000, x160001, x160002, x160003, x160004, x160005, x161000, x161001 => if x37 = true then (some false) else ((slice_Layers.f x160000 x160001 x160002 x160003 x160004 x160005 x161000 x161001 x2).bind fun bt165 => ((slice_Heads.f x160000 x160001 x160002 x160003 x160004 x160005 x161000 x161001 x2).bind fun bt169 => ((slice_Inner.f x160000 x160001 x160002 x160003 x160004 x160005 x161000 x161001 x2).bind fun bt173 => (if x7 = true then (if x2 < 0 then (pelotonlaw10_SliceCuts.j3 k x2 bt165.2.2 bt169.2.2 bt173.2.2 true x160000 x160001 x160002 x160003 x160004 x160005 x161000 x161001 bt165.1 bt165.2.1 bt169.1 bt169.2.1 bt173.1 bt173.2.1) else (pelotonlaw10_SliceCuts.j3 k x2 bt165.2.2 bt169.2.2 bt173.2.2 (decide (x2 ≥ x161000)) x160000 x160001 x160002 x160003 x160004 x160005 x161000 x161001 bt165.1 bt165.2.1 bt169.1 bt169.2.1 bt173.1 bt173.2.1)) else (if bt165.2.2 = 100 then (if bt169.2.2 = 100 then (if bt173.2.2 = 100 then (if (bt165.1 == 0 && (bt165.2.1 == 0)) = true then (if (bt169.1 == 0 && (bt169.2.1 == 0)) = true then (pelotonlaw10_SliceCuts.j2 k (bt173.1 == 0 && (bt173.2.1 == 0))) else (pelotonlaw10_SliceCuts.j2 k false)) else (pelotonlaw10_SliceCuts.j2 k false)) else (pelotonlaw10_SliceCuts.j2 k false)) else (pelotonlaw10_SliceCuts.j2 k false)) else (pelotonlaw10_SliceCuts.j2 k false))))))
def pelotonlaw10_SliceCuts.j3 : Nat → Int → Int → Int → Int → Bool → Int → Int → Int → Int → Int → Int → Int → Int → Int → Int → Int → Int → Int → Int → Option (Bool)
 | 0, _, _, _, _, _, _, _, _, _, _, _, _, _, _, _, _, _, _, _ => none
 | k + 1, x2, x10, x12, x14, x93, x160000, x160001, x160002, x160003, x160004, x160005, x161000, x161001, x169000, x169001, x173000, x173001, x177000, x177001 => if x93 = true then (if x10 = 2 then (if (!(x169000 == 0) || (!(x169001 == 0))) = true then (some false) else (pelotonlaw10_SliceCuts.j4 k x2 x12 x14 x160000 x160001 x160002 x160003 x160004 x160005 x161000 x161001 x173000 x173001 x177000 x177001)) else (some false)) else (if x10 = 0 then ((pelotonref10_Span.f x2 x160000 x161000).bind fun bt177 => (if (!(x169000 == bt177.1) || (!(x169001 == bt177.2))) = true then (some false) else (pelotonlaw10_SliceCuts.j4 k x2 x12 x14 x160000 x160001 x160002 x160003 x160004 x160005 x161000 x161001 x173000 x173001 x177000 x177001))) else (some false))
def pelotonlaw10_SliceCuts.j4 : Nat → Int → Int → Int → Int → Int → Int → Int → Int → Int → Int → Int → Int → Int → Int → Int → Option (Bool)
 | 0, _, _, _, _, _, _, _, _, _, _, _, _, _, _, _ => none
 | k + 1, x2, x12, x14, x160000, x160001, x160002, x160003, x160004, x160005, x161000, x161001, x173000, x173001, x177000, x177001 => if x2 < 0 then (pelotonlaw10_SliceCuts.j5 k x2 x12 x14 true x160000 x160001 x160002 x160003 x160004 x160005 x161000 x161001 x173000 x173001 x177000 x177001) else (pelotonlaw10_SliceCuts.j5 k x2 x12 x14 (decide (x2 ≥ x161001)) x160000 x160001 x160002 x160003 x160004 x160005 x161000 x161001 x173000 x173001 x177000 x177001)
def pelotonlaw10_SliceCuts.j5 : Nat → Int → Int → Int → Bool → Int → Int → Int → Int → Int → Int → Int → Int → Int → Int → Int → Int → Option (Bool)
 | 0, _, _, _, _, _, _, _, _, _, _, _, _, _, _, _, _ => none
 | k + 1, x2, x12, x14, x120, x160000, x160001, x160002, x160003, x160004, x160005, x161000, x161001, x173000, x173001, x177000, x177001 => if x120 = true then (if x12 = 2 then (if x14 = 2 then (if (x173000 == 0 && (x173001 == 0)) = true then (pelotonlaw10_SliceCuts.j6 k (x177000 == 0 && (x177001 == 0))) else (pelotonlaw10_SliceCuts.j6 k false)) else (pelotonlaw10_SliceCuts.j6 k false)) else (pelotonlaw10_SliceCuts.j6 k false)) else (if x12 = 0 then (if x14 = 0 then ((pelotonref10_Span.f x2 x160002 x161001).bind fun bt179 => (if (x173000 == bt179.1 && (x173001 == bt179.2)) = true then ((pelotonref10_Span.f x2 x160003 x161001).bind fun bt181 => (pelotonlaw10_SliceCuts.j7 k (x177000 == bt181.1 && (x177001 == bt181.2)))) else (pelotonlaw10_SliceCuts.j7 k false))) else (pelotonlaw10_SliceCuts.j7 k false)) else (pelotonlaw10_SliceCuts.j7 k false))
def pelotonlaw10_SliceCuts.j6 : Nat → Bool → Option (Bool)
 | 0, _ => none
 | k + 1, x6 => some x6
def pelotonlaw10_SliceCuts.j7 : Nat → Bool → Option (Bool)
 | 0, _ => none
 | k + 1, x6 => some x6
def pelotonlaw10_SliceCuts.j2 : Nat → Bool → Option (Bool)
 | 0, _ => none
 | k + 1, x6 => some x6
end
def pelotonlaw10_SliceCuts.f (k : Nat) (a0_0 : Int) (a0_1 : Int) (a0_2 : Int) (a0_3 : Int) (a0_4 : Int) (a0_5 : Int) (a1_0 : Int) (a1_1 : Int) (a2 : Int) : Option (Bool) := (pelotonlaw10_awake.f k).bind fun t161 => (if t161 = true then ((pelotonref10_Right.f a0_0 a0_1 a0_2 a0_3 a0_4 a0_5 a1_0 a1_1).bind fun t162 => (if t162 = true then (pelotonlaw10_SliceCuts.j0 k a2 t162 (wrap64 (a1_0 * a1_1)) a0_0 a0_1 a0_2 a0_3 a0_4 a0_5 a1_0 a1_1) else (pelotonlaw10_SliceCuts.j0 k a2 t162 0 a0_0 a0_1 a0_2 a0_3 a0_4 a0_5 a1_0 a1_1))) else (some false))
theorem pelotonlaw10_SliceCuts.mono_l : ∀ k, (∀ y0 y1 y2 y3 y4 y5 y6 y7 y8 y9 y10, LeO (pelotonlaw10_SliceCuts.j0 k y0 y1 y2 y3 y4 y5 y6 y7 y8 y9 y10) (pelotonlaw10_SliceCuts.j0 (k + 1) y0 y1 y2 y3 y4 y5 y6 y7 y8 y9 y10)) ∧ (∀ y0 y1 y2 y3 y4 y5 y6 y7 y8 y9 y10, LeO (pelotonlaw10_SliceCuts.j1 k y0 y1 y2 y3 y4 y5 y6 y7 y8 y9 y10) (pelotonlaw10_SliceCuts.j1 (k + 1) y0 y1 y2 y3 y4 y5 y6 y7 y8 y9 y10)) ∧ (∀ y0 y1 y2 y3 y4 y5 y6 y7 y8 y9 y10 y11 y12 y13 y14 y15 y16 y17 y18, LeO (pelotonlaw10_SliceCuts.j3 k y0 y1 y2 y3 y4 y5 y6 y7 y8 y9 y10 y11 y12 y13 y14 y15 y16 y17 y18) (pelotonlaw10_SliceCuts.j3 (k + 1) y0 y1 y2 y3 y4 y5 y6 y7 y8 y9 y10 y11 y12 y13 y14 y15 y16 y17 y18)) ∧ (∀ y0 y1 y2 y3 y4 y5 y6 y7 y8 y9 y10 y11 y12 y13 y14, LeO (pelotonlaw10_SliceCuts.j4 k y0 y1 y2 y3 y4 y5 y6 y7 y8 y9 y10 y11 y12 y13 y14) (pelotonlaw10_SliceCuts.j4 (k + 1) y0 y1 y2 y3 y4 y5 y6 y7 y8 y9 y10 y11 y12 y13 y14)) ∧ (∀ y0 y1 y2 y3 y4 y5 y6 y7 y8 y9 y10 y11 y12 y13 y14 y15, LeO (pelotonlaw10_SliceCuts.j5 k y0 y1 y2 y3 y4 y5 y6 y7 y8 y9 y10 y11 y12 y13 y14 y15) (pelotonlaw10_SliceCuts.j5 (k + 1) y0 y1 y2 y3 y4 y5 y6 y7 y8 y9 y10 y11 y12 y13 y14 y15)) ∧ (∀ y0, LeO (pelotonlaw10_SliceCuts.j6 k y0) (pelotonlaw10_SliceCuts.j6 (k + 1) y0)) ∧ (∀ y0, LeO (pelotonlaw10_SliceCuts.j7 k y0) (pelotonlaw10_SliceCuts.j7 (k + 1) y0)) ∧ (∀ y0, LeO (pelotonlaw10_SliceCuts.j2 k y0) (pelotonlaw10_SliceCuts.j2 (k + 1) y0))
 | 0 => ⟨fun _ _ _ _ _ _ _ _ _ _ _ r h => by simp [pelotonlaw10_SliceCuts.j0] at h, fun _ _ _ _ _ _ _ _ _ _ _ r h => by simp [pelotonlaw10_SliceCuts.j1] at h, fun _ _ _ _ _ _ _ _ _ _ _ _ _ _ _ _ _ _ _ r h => by simp [pelotonlaw10_SliceCuts.j3] at h, fun _ _ _ _ _ _ _ _ _ _ _ _ _ _ _ r h => by simp [pelotonlaw10_SliceCuts.j4] at h, fun _ _ _ _ _ _ _ _ _ _ _ _ _ _ _ _ r h => by simp [pelotonlaw10_SliceCuts.j5] at h, fun _ r h => by simp [pelotonlaw10_SliceCuts.j6] at h, fun _ r h => by simp [pelotonlaw10_SliceCuts.j7] at h, fun _ r h => by simp [pelotonlaw10_SliceCuts.j2] at h⟩
 | k + 1 => by
  obtain ⟨ih0, ih1, ih2, ih3, ih4, ih5, ih6, ih7⟩ := pelotonlaw10_SliceCuts.mono_l k
  refine ⟨?_, ?_, ?_, ?_, ?_, ?_, ?_, ?_⟩
  ·
   intro y0 y1 y2 y3 y4 y5 y6 y7 y8 y9 y10
   unfold pelotonlaw10_SliceCuts.j0
   repeat' first
   | (with_reducible exact ih0 _ _ _ _ _ _ _ _ _ _ _)
   | (with_reducible exact ih1 _ _ _ _ _ _ _ _ _ _ _)
   | (with_reducible exact ih2 _ _ _ _ _ _ _ _ _ _ _ _ _ _ _ _ _ _ _)
   | (with_reducible exact ih3 _ _ _ _ _ _ _ _ _ _ _ _ _ _ _)
   | (with_reducible exact ih4 _ _ _ _ _ _ _ _ _ _ _ _ _ _ _ _)
   | (with_reducible exact ih5 _)
   | (with_reducible exact ih6 _)
   | (with_reducible exact ih7 _)
   | (with_reducible exact pelotonlaw10_awake.mono _)
   | (with_reducible exact LeO.refl _)
   | (with_reducible exact LeO.none _)
   | (with_reducible refine LeO.ite ?_ ?_)
   | (with_reducible refine LeO.bind ?_ (fun _ => ?_))
   | exact ih0 _ _ _ _ _ _ _ _ _ _ _
   | exact ih1 _ _ _ _ _ _ _ _ _ _ _
   | exact ih2 _ _ _ _ _ _ _ _ _ _ _ _ _ _ _ _ _ _ _
   | exact ih3 _ _ _ _ _ _ _ _ _ _ _ _ _ _ _
   | exact ih4 _ _ _ _ _ _ _ _ _ _ _ _ _ _ _ _
   | exact ih5 _
   | exact ih6 _
   | exact ih7 _
   | exact pelotonlaw10_awake.mono _
   | exact LeO.none _
   | refine LeO.ite ?_ ?_
   | refine LeO.bind ?_ (fun _ => ?_)
  ·
   intro y0 y1 y2 y3 y4 y5 y6 y7 y8 y9 y10
   unfold pelotonlaw10_SliceCuts.j1
   repeat' first
   | (with_reducible exact ih0 _ _ _ _ _ _ _ _ _ _ _)
   | (with_reducible exact ih1 _ _ _ _ _ _ _ _ _ _ _)
   | (with_reducible exact ih2 _ _ _ _ _ _ _ _ _ _ _ _ _ _ _ _ _ _ _)
   | (with_reducible exact ih3 _ _ _ _ _ _ _ _ _ _ _ _ _ _ _)
   | (with_reducible exact ih4 _ _ _ _ _ _ _ _ _ _ _ _ _ _ _ _)
   | (with_reducible exact ih5 _)
   | (with_reducible exact ih6 _)
   | (with_reducible exact ih7 _)
   | (with_reducible exact pelotonlaw10_awake.mono _)
   | (with_reducible exact LeO.refl _)
   | (with_reducible exact LeO.none _)
   | (with_reducible refine LeO.ite ?_ ?_)
   | (with_reducible refine LeO.bind ?_ (fun _ => ?_))
   | exact ih0 _ _ _ _ _ _ _ _ _ _ _
   | exact ih1 _ _ _ _ _ _ _ _ _ _ _
   | exact ih2 _ _ _ _ _ _ _ _ _ _ _ _ _ _ _ _ _ _ _
   | exact ih3 _ _ _ _ _ _ _ _ _ _ _ _ _ _ _
   | exact ih4 _ _ _ _ _ _ _ _ _ _ _ _ _ _ _ _
   | exact ih5 _
   | exact ih6 _
   | exact ih7 _
   | exact pelotonlaw10_awake.mono _
   | exact LeO.none _
   | refine LeO.ite ?_ ?_
   | refine LeO.bind ?_ (fun _ => ?_)
  ·
   intro y0 y1 y2 y3 y4 y5 y6 y7 y8 y9 y10 y11 y12 y13 y14 y15 y16 y17 y18
   unfold pelotonlaw10_SliceCuts.j3
   repeat' first
   | (with_reducible exact ih0 _ _ _ _ _ _ _ _ _ _ _)
   | (with_reducible exact ih1 _ _ _ _ _ _ _ _ _ _ _)
   | (with_reducible exact ih2 _ _ _ _ _ _ _ _ _ _ _ _ _ _ _ _ _ _ _)
   | (with_reducible exact ih3 _ _ _ _ _ _ _ _ _ _ _ _ _ _ _)
   | (with_reducible exact ih4 _ _ _ _ _ _ _ _ _ _ _ _ _ _ _ _)
   | (with_reducible exact ih5 _)
   | (with_reducible exact ih6 _)
   | (with_reducible exact ih7 _)
   | (with_reducible exact pelotonlaw10_awake.mono _)
   | (with_reducible exact LeO.refl _)
   | (with_reducible exact LeO.none _)
   | (with_reducible refine LeO.ite ?_ ?_)
   | (with_reducible refine LeO.bind ?_ (fun _ => ?_))
   | exact ih0 _ _ _ _ _ _ _ _ _ _ _
   | exact ih1 _ _ _ _ _ _ _ _ _ _ _
   | exact ih2 _ _ _ _ _ _ _ _ _ _ _ _ _ _ _ _ _ _ _
   | exact ih3 _ _ _ _ _ _ _ _ _ _ _ _ _ _ _
   | exact ih4 _ _ _ _ _ _ _ _ _ _ _ _ _ _ _ _
   | exact ih5 _
   | exact ih6 _
   | exact ih7 _
   | exact pelotonlaw10_awake.mono _
   | exact LeO.none _
   | refine LeO.ite ?_ ?_
   | refine LeO.bind ?_ (fun _ => ?_)
  ·
   intro y0 y1 y2 y3 y4 y5 y6 y7 y8 y9 y10 y11 y12 y13 y14
   unfold pelotonlaw10_SliceCuts.j4
   repeat' first
   | (with_reducible exact ih0 _ _ _ _ _ _ _ _ _ _ _)
   | (with_reducible exact ih1 _ _ _ _ _ _ _ _ _ _ _)
   | (with_reducible exact ih2 _ _ _ _ _ _ _ _ _ _ _ _ _ _ _ _ _ _ _)
   | (with_reducible exact ih3 _ _ _ _ _ _ _ _ _ _ _ _ _ _ _)
   | (with_reducible exact ih4 _ _ _ _ _ _ _ _ _ _ _ _ _ _ _ _)
   | (with_reducible exact ih5 _)
   | (with_reducible exact ih6 _)
   | (with_reducible exact ih7 _)
   | (with_reducible exact pelotonlaw10_awake.mono _)
   | (with_reducible exact LeO.refl _)
   | (with_reducible exact LeO.none _)
   | (with_reducible refine LeO.ite ?_ ?_)
   | (with_reducible refine LeO.bind ?_ (fun _ => ?_))
   | exact ih0 _ _ _ _ _ _ _ _ _ _ _
   | exact ih1 _ _ _ _ _ _ _ _ _ _ _
   | exact ih2 _ _ _ _ _ _ _ _ _ _ _ _ _ _ _ _ _ _ _
   | exact ih3 _ _ _ _ _ _ _ _ _ _ _ _ _ _ _
   | exact ih4 _ _ _ _ _ _ _ _ _ _ _ _ _ _ _ _
   | exact ih5 _
   | exact ih6 _
   | exact ih7 _
   | exact pelotonlaw10_awake.mono _
   | exact LeO.none _
   | refine LeO.ite ?_ ?_
   | refine LeO.bind ?_ (fun _ => ?_)
  ·
   intro y0 y1 y2 y3 y4 y5 y6 y7 y8 y9 y10 y11 y12 y13 y14 y15
   unfold pelotonlaw10_SliceCuts.j5
   repeat' first
   | (with_reducible exact ih0 _ _ _ _ _ _ _ _ _ _ _)
   | (with_reducible exact ih1 _ _ _ _ _ _ _ _ _ _ _)
   | (with_reducible exact ih2 _ _ _ _ _ _ _ _ _ _ _ _ _ _ _ _ _ _ _)
   | (with_reducible exact ih3 _ _ _ _ _ _ _ _ _ _ _ _ _ _ _)
   | (with_reducible exact ih4 _ _ _ _ _ _ _ _ _ _ _ _ _ _ _ _)
   | (with_reducible exact ih5 _)
   | (with_reducible exact ih6 _)
   | (with_reducible exact ih7 _)
   | (with_reducible exact pelotonlaw10_awake.mono _)
   | (with_reducible exact LeO.refl _)
   | (with_reducible exact LeO.none _)
   | (with_reducible refine LeO.ite ?_ ?_)
   | (with_reducible refine LeO.bind ?_ (fun _ => ?_))
   | exact ih0 _ _ _ _ _ _ _ _ _ _ _
   | exact ih1 _ _ _ _ _ _ _ _ _ _ _
   | exact ih2 _ _ _ _ _ _ _ _ _ _ _ _ _ _ _ _ _ _ _
   | exact ih3 _ _ _ _ _ _ _ _ _ _ _ _ _ _ _
   | exact ih4 _ _ _ _ _ _ _ _ _ _ _ _ _ _ _ _
   | exact ih5 _
   | exact ih6 _
   | exact ih7 _
   | exact pelotonlaw10_awake.mono _
   | exact LeO.none _
   | refine LeO.ite ?_ ?_
   | refine LeO.bind ?_ (fun _ => ?_)
  ·
   intro y0
   unfold pelotonlaw10_SliceCuts.j6
   repeat' first
   | (with_reducible exact ih0 _ _ _ _ _ _ _ _ _ _ _)
   | (with_reducible exact ih1 _ _ _ _ _ _ _ _ _ _ _)
   | (with_reducible exact ih2 _ _ _ _ _ _ _ _ _ _ _ _ _ _ _ _ _ _ _)
   | (with_reducible exact ih3 _ _ _ _ _ _ _ _ _ _ _ _ _ _ _)
   | (with_reducible exact ih4 _ _ _ _ _ _ _ _ _ _ _ _ _ _ _ _)
   | (with_reducible exact ih5 _)
   | (with_reducible exact ih6 _)
   | (with_reducible exact ih7 _)
   | (with_reducible exact pelotonlaw10_awake.mono _)
   | (with_reducible exact LeO.refl _)
   | (with_reducible exact LeO.none _)
   | (with_reducible refine LeO.ite ?_ ?_)
   | (with_reducible refine LeO.bind ?_ (fun _ => ?_))
   | exact ih0 _ _ _ _ _ _ _ _ _ _ _
   | exact ih1 _ _ _ _ _ _ _ _ _ _ _
   | exact ih2 _ _ _ _ _ _ _ _ _ _ _ _ _ _ _ _ _ _ _
   | exact ih3 _ _ _ _ _ _ _ _ _ _ _ _ _ _ _
   | exact ih4 _ _ _ _ _ _ _ _ _ _ _ _ _ _ _ _
   | exact ih5 _
   | exact ih6 _
   | exact ih7 _
   | exact pelotonlaw10_awake.mono _
   | exact LeO.none _
   | refine LeO.ite ?_ ?_
   | refine LeO.bind ?_ (fun _ => ?_)
  ·
   intro y0
   unfold pelotonlaw10_SliceCuts.j7
   repeat' first
   | (with_reducible exact ih0 _ _ _ _ _ _ _ _ _ _ _)
   | (with_reducible exact ih1 _ _ _ _ _ _ _ _ _ _ _)
   | (with_reducible exact ih2 _ _ _ _ _ _ _ _ _ _ _ _ _ _ _ _ _ _ _)
   | (with_reducible exact ih3 _ _ _ _ _ _ _ _ _ _ _ _ _ _ _)
   | (with_reducible exact ih4 _ _ _ _ _ _ _ _ _ _ _ _ _ _ _ _)
   | (with_reducible exact ih5 _)
   | (with_reducible exact ih6 _)
   | (with_reducible exact ih7 _)
   | (with_reducible exact pelotonlaw10_awake.mono _)
   | (with_reducible exact LeO.refl _)
   | (with_reducible exact LeO.none _)
   | (with_reducible refine LeO.ite ?_ ?_)
   | (with_reducible refine LeO.bind ?_ (fun _ => ?_))
   | exact ih0 _ _ _ _ _ _ _ _ _ _ _
   | exact ih1 _ _ _ _ _ _ _ _ _ _ _
   | exact ih2 _ _ _ _ _ _ _ _ _ _ _ _ _ _ _ _ _ _ _
   | exact ih3 _ _ _ _ _ _ _ _ _ _ _ _ _ _ _
   | exact ih4 _ _ _ _ _ _ _ _ _ _ _ _ _ _ _ _
   | exact ih5 _
   | exact ih6 _
   | exact ih7 _
   | exact pelotonlaw10_awake.mono _
   | exact LeO.none _
   | refine LeO.ite ?_ ?_
   | refine LeO.bind ?_ (fun _ => ?_)
  ·
   intro y0
   unfold pelotonlaw10_SliceCuts.j2
   repeat' first
   | (with_reducible exact ih0 _ _ _ _ _ _ _ _ _ _ _)
   | (with_reducible exact ih1 _ _ _ _ _ _ _ _ _ _ _)
   | (with_reducible exact ih2 _ _ _ _ _ _ _ _ _ _ _ _ _ _ _ _ _ _ _)
   | (with_reducible exact ih3 _ _ _ _ _ _ _ _ _ _ _ _ _ _ _)
   | (with_reducible exact ih4 _ _ _ _ _ _ _ _ _ _ _ _ _ _ _ _)
   | (with_reducible exact ih5 _)
   | (with_reducible exact ih6 _)
   | (with_reducible exact ih7 _)
   | (with_reducible exact pelotonlaw10_awake.mono _)
   | (with_reducible exact LeO.refl _)
   | (with_reducible exact LeO.none _)
   | (with_reducible refine LeO.ite ?_ ?_)
   | (with_reducible refine LeO.bind ?_ (fun _ => ?_))
   | exact ih0 _ _ _ _ _ _ _ _ _ _ _
   | exact ih1 _ _ _ _ _ _ _ _ _ _ _
   | exact ih2 _ _ _ _ _ _ _ _ _ _ _ _ _ _ _ _ _ _ _
   | exact ih3 _ _ _ _ _ _ _ _ _ _ _ _ _ _ _
   | exact ih4 _ _ _ _ _ _ _ _ _ _ _ _ _ _ _ _
   | exact ih5 _
   | exact ih6 _
   | exact ih7 _
   | exact pelotonlaw10_awake.mono _
   | exact LeO.none _
   | refine LeO.ite ?_ ?_
   | refine LeO.bind ?_ (fun _ => ?_)
theorem pelotonlaw10_SliceCuts.mono : ∀ a0 a1 a2 a3 a4 a5 a6 a7 a8 k, LeO (pelotonlaw10_SliceCuts.f k a0 a1 a2 a3 a4 a5 a6 a7 a8) (pelotonlaw10_SliceCuts.f (k + 1) a0 a1 a2 a3 a4 a5 a6 a7 a8) := by
 intro a0 a1 a2 a3 a4 a5 a6 a7 a8 k
 obtain ⟨ih0, ih1, ih2, ih3, ih4, ih5, ih6, ih7⟩ := pelotonlaw10_SliceCuts.mono_l k
 unfold pelotonlaw10_SliceCuts.f
 repeat' first
   | (with_reducible exact ih0 _ _ _ _ _ _ _ _ _ _ _)
   | (with_reducible exact ih1 _ _ _ _ _ _ _ _ _ _ _)
   | (with_reducible exact ih2 _ _ _ _ _ _ _ _ _ _ _ _ _ _ _ _ _ _ _)
   | (with_reducible exact ih3 _ _ _ _ _ _ _ _ _ _ _ _ _ _ _)
   | (with_reducible exact ih4 _ _ _ _ _ _ _ _ _ _ _ _ _ _ _ _)
   | (with_reducible exact ih5 _)
   | (with_reducible exact ih6 _)
   | (with_reducible exact ih7 _)
   | (with_reducible exact pelotonlaw10_awake.mono _)
   | (with_reducible exact LeO.refl _)
   | (with_reducible exact LeO.none _)
   | (with_reducible refine LeO.ite ?_ ?_)
   | (with_reducible refine LeO.bind ?_ (fun _ => ?_))
   | exact ih0 _ _ _ _ _ _ _ _ _ _ _
   | exact ih1 _ _ _ _ _ _ _ _ _ _ _
   | exact ih2 _ _ _ _ _ _ _ _ _ _ _ _ _ _ _ _ _ _ _
   | exact ih3 _ _ _ _ _ _ _ _ _ _ _ _ _ _ _
   | exact ih4 _ _ _ _ _ _ _ _ _ _ _ _ _ _ _ _
   | exact ih5 _
   | exact ih6 _
   | exact ih7 _
   | exact pelotonlaw10_awake.mono _
   | exact LeO.none _
   | refine LeO.ite ?_ ?_
   | refine LeO.bind ?_ (fun _ => ?_)
def pelotonlaw10_SliceCuts.T17 : Bool × List (List Nat × List Nat) := (true, [([], []), ([0], [0]), ([1], [1]), ([2], [2]), ([2], [2]), ([2], [2]), ([5, 2], [2, 5]), ([2], [2]), ([7, 2], [2, 7]), ([4, 6, 8, 2, 2], [2, 4, 6, 8]), ([3, 9, 2], [2, 3, 9]), ([2, 10], [2, 10])])
def pelotonlaw10_SliceCuts.B17 : List Nat := [0, 1, 3, 7, 7, 7, 39, 7, 135, 503, 1023, 2047]
theorem pelotonlaw10_SliceCuts.tab17 : rtab .any (opsOf Try.f3 17) = pelotonlaw10_SliceCuts.T17 := by kernel_rfl
theorem pelotonlaw10_SliceCuts.bits17 : waitsOk pelotonlaw10_SliceCuts.T17.2 pelotonlaw10_SliceCuts.B17 = true := by kernel_rfl
def pelotonlaw10_SliceCuts.T21 : Bool × List (List Nat × List Nat) := (true, [([], []), ([0], [0]), ([1], [1]), ([2], [2]), ([3, 2], [2, 3]), ([2, 4], [2, 4]), ([5, 2], [5]), ([6], [6]), ([6], [6]), ([6], [6]), ([9, 6], [6, 9]), ([6], [6]), ([11, 6], [6, 11]), ([8, 10, 12, 6, 6], [6, 8, 10, 12]), ([7, 13, 6], [6, 7, 13]), ([6, 14], [6, 14]), ([15, 13], [15]), ([16], [16]), ([16], [16]), ([16], [16]), ([19, 16], [16, 19]), ([16], [16]), ([21, 16], [16, 21]), ([18, 20, 22, 16, 16], [16, 18, 20, 22]), ([17, 23, 16], [16, 17, 23]), ([16, 24], [16, 24]), ([25, 23, 0, 1, 2, 3, 4, 5, 6, 7, 8, 9, 10, 11, 12, 13, 14, 15, 16, 17, 18, 19, 20, 21, 22, 23, 24, 25], [25])])
def pelotonlaw10_SliceCuts.B21 : List Nat := [0, 1, 3, 7, 15, 31, 63, 127, 127, 127, 639, 127, 2175, 8063, 16383, 32767, 65535, 131071, 131071, 131071, 655359, 131071, 2228223, 8257535, 16777215, 33554431, 67108863]
theorem pelotonlaw10_SliceCuts.tab21 : rtab .any (opsOf Try.f3 21) = pelotonlaw10_SliceCuts.T21 := by kernel_rfl
theorem pelotonlaw10_SliceCuts.bits21 : waitsOk pelotonlaw10_SliceCuts.T21.2 pelotonlaw10_SliceCuts.B21 = true := by kernel_rfl
set_option maxHeartbeats 8000000 in
set_option maxRecDepth 100000 in
theorem pelotonlaw10_SliceCuts.calls (k : Nat) (a0_0 : Int) (a0_1 : Int) (a0_2 : Int) (a0_3 : Int) (a0_4 : Int) (a0_5 : Int) (a1_0 : Int) (a1_1 : Int) (a2 : Int) (r : Bool) (w : World) (h : pelotonlaw10_SliceCuts.f k a0_0 a0_1 a0_2 a0_3 a0_4 a0_5 a1_0 a1_1 a2 = some r) :
  Calls Try.prog 3 #[.agg #[.int .i64 a0_0, .int .i64 a0_1, .int .i64 a0_2, .int .i64 a0_3, .int .i64 a0_4, .int .i64 a0_5], .agg #[.int .i64 a1_0, .int .i64 a1_1], .int .i64 a2] w fun e w' => e = .returned (.bool r) ∧ Below w.heap.size w w' := by
 have hu23 := Try.underlying23
 have hu25 := Try.underlying25
 have hu29 := Try.underlying29
 have HB := Aside0.mk (Below.refl w.heap.size w)
 have H : ((pelotonlaw10_awake.f k).bind fun t161 => (if t161 = true then ((pelotonref10_Right.f a0_0 a0_1 a0_2 a0_3 a0_4 a0_5 a1_0 a1_1).bind fun t162 => (if t162 = true then (pelotonlaw10_SliceCuts.j0 k a2 t162 (wrap64 (a1_0 * a1_1)) a0_0 a0_1 a0_2 a0_3 a0_4 a0_5 a1_0 a1_1) else (pelotonlaw10_SliceCuts.j0 k a2 t162 0 a0_0 a0_1 a0_2 a0_3 a0_4 a0_5 a1_0 a1_1))) else (some false))) = some r := h
 clear h
 replace H := Option.bind_eq_some_iff.mp H
 obtain ⟨t161, A40, H⟩ := H
 replace H : (if t161 = true then ((pelotonref10_Right.f a0_0 a0_1 a0_2 a0_3 a0_4 a0_5 a1_0 a1_1).bind fun t162 => (if t162 = true then (pelotonlaw10_SliceCuts.j0 k a2 t162 (wrap64 (a1_0 * a1_1)) a0_0 a0_1 a0_2 a0_3 a0_4 a0_5 a1_0 a1_1) else (pelotonlaw10_SliceCuts.j0 k a2 t162 0 a0_0 a0_1 a0_2 a0_3 a0_4 a0_5 a1_0 a1_1))) else (some false)) = some r := H
 have A4 := Aside0.mk A40
 clear A40
 by_cases c5 : t161 = true
 rotate_left
 ·
  replace c5 := Bool.eq_false_iff.mpr c5
  subst c5
  have H1 : (some false) = some r := by rw [if_neg (show ¬ (false = true) by decide)] at H; exact H
  clear H
  have H := H1
  clear H1
  obtain rfl := Option.some.inj H
  go_enter Try.func3, Try.ntmps3
  go_wp2_with (first | ((with_reducible refine gate_dst (N := 3) rfl ?_); refine box_event ?hg (N := 3) ?hd (cs := #[.int .i64 a0_0, .int .i64 a0_1, .int .i64 a0_2, .int .i64 a0_3, .int .i64 a0_4, .int .i64 a0_5]) (t := 23) ?hr ?_; (case hd => rfl); (case hg => rfl); (case hr => first | (go_simp; done) | (go_simp; rfl)); intro gb159 hg w188 hbox hb; have n0_ := Aside0.mk (below_step (by repeat (first | (with_reducible first | exact HB.out | apply b_a | apply b_n | apply b_d) | exact HB.out)) hb); have n1_ := Aside0.mk (hbox); have n2_ := Aside0.mk ((by rw [hg]; exact (below_size (by repeat (first | (with_reducible first | exact HB.out | apply b_a | apply b_n | apply b_d) | exact HB.out))) : w.heap.size ≤ gb159)); have n3_ := Aside0.mk ((by rw [hg]; exact (below_size (by repeat (first | (with_reducible first | exact HB.out | apply b_a | apply b_n | apply b_d) | exact HB.out))) : w.heap.size ≤ gb159)); clear HB; have HB := n0_; have BK159 := n1_; have GW159 := n2_; have GE159 := n3_; clear n0_ n1_ n2_ n3_; clear hb hbox hg) | ((with_reducible refine gate_dst (N := 4) rfl ?_); refine box_event ?hg (N := 4) ?hd (cs := #[.int .i64 a1_0, .int .i64 a1_1]) (t := 25) ?hr ?_; (case hd => rfl); (case hg => rfl); (case hr => first | (go_simp; done) | (go_simp; rfl)); intro gb160 hg w189 hbox hb; have n0_ := Aside0.mk (blk_below (g := gb159) (o := .cells #[.int .i64 a0_0, .int .i64 a0_1, .int .i64 a0_2, .int .i64 a0_3, .int .i64 a0_4, .int .i64 a0_5] 23 (0, 0)) (by (with_reducible repeat (first | refine k_n ?_ _ | refine k_d ?_ | refine k_a ?_ _)); exact BK159.out) hb); have n1_ := Aside0.mk (below_step (by repeat (first | (with_reducible first | exact HB.out | apply b_a | apply b_n | apply b_d | refine b_s ?_ GE159.out) | exact HB.out)) hb); have n2_ := Aside0.mk (hbox); have n3_ := Aside0.mk ((by rw [hg]; exact (below_size (by repeat (first | (with_reducible first | exact HB.out | apply b_a | apply b_n | apply b_d | refine b_s ?_ GE159.out) | exact HB.out))) : w.heap.size ≤ gb160)); have n4_ := Aside0.mk ((by rw [hg]; exact (below_size (by repeat (first | (with_reducible first | exact HB.out | apply b_a | apply b_n | apply b_d | refine b_s ?_ GE159.out) | exact HB.out))) : w.heap.size ≤ gb160)); have n5_ := Aside0.mk ((by rw [hg]; exact Nat.ne_of_lt (blk_lt (g := gb159) (o := .cells #[.int .i64 a0_0, .int .i64 a0_1, .int .i64 a0_2, .int .i64 a0_3, .int .i64 a0_4, .int .i64 a0_5] 23 (0, 0)) (by (with_reducible repeat (first | refine k_n ?_ _ | refine k_d ?_ | refine k_a ?_ _)); exact BK159.out)) : gb159 ≠ gb160)); have n6_ := Aside0.mk ((by rw [hg]; exact Nat.ne_of_gt (blk_lt (g := gb159) (o := .cells #[.int .i64 a0_0, .int .i64 a0_1, .int .i64 a0_2, .int .i64 a0_3, .int .i64 a0_4, .int .i64 a0_5] 23 (0, 0)) (by (with_reducible repeat (first | refine k_n ?_ _ | refine k_d ?_ | refine k_a ?_ _)); exact BK159.out)) : gb160 ≠ gb159)); clear BK159; clear HB; have BK159 := n0_; have HB := n1_; have BK160 := n2_; have GW160 := n3_; have GE160 := n4_; have NB159_160 := n5_; have NB160_159 := n6_; clear n0_ n1_ n2_ n3_ n4_ n5_ n6_; clear hb hbox hg) | ((with_reducible refine gate_callee (f := 7) rfl ?_); refine goesL_ (some 15) rfl rfl Try.func7 (by kernel_rfl) rfl #[] rfl (by (try simp only [l_4, l_5, l_6]); first | done | rfl | (simp only [l_7, l_8]; rfl)) ?_; (with_reducible refine (pelotonlaw10_awake.calls k  false _ A4.out).mono ?_); rintro e w190 ⟨rfl, hb⟩; refine ⟨_, rfl, ?_⟩; have n0_ := Aside0.mk (blk_below (g := gb159) (o := .cells #[.int .i64 a0_0, .int .i64 a0_1, .int .i64 a0_2, .int .i64 a0_3, .int .i64 a0_4, .int .i64 a0_5] 23 (0, 0)) (by (with_reducible repeat (first | refine k_n ?_ _ | refine k_d ?_ | refine k_a ?_ _)); exact BK159.out) hb); have n1_ := Aside0.mk (blk_below (g := gb160) (o := .cells #[.int .i64 a1_0, .int .i64 a1_1] 25 (0, 0)) (by (with_reducible repeat (first | refine k_n ?_ _ | refine k_d ?_ | refine k_a ?_ _)); exact BK160.out) hb); have n2_ := Aside0.mk (below_step (by repeat (first | (with_reducible first | exact HB.out | apply b_a | apply b_n | apply b_d | refine b_s ?_ GE159.out | refine b_s ?_ GE160.out) | exact HB.out)) hb); clear BK159; clear BK160; clear HB; have BK159 := n0_; have BK160 := n1_; have HB := n2_; clear n0_ n1_ n2_; (try clear hb); (try clear hb2); (try clear hk); (try clear hi)))
  go_ret
  exact ⟨by first | rfl | (simp [errW_none, errW_some] <;> rfl) | (simp [*, errW_none, errW_some] <;> rfl), by repeat (first | (with_reducible first | exact HB.out | apply b_a | apply b_n | apply b_d | refine b_s ?_ GE159.out | refine b_s ?_ GE160.out) | exact HB.out)⟩

 subst c5
 have H1 : ((pelotonref10_Right.f a0_0 a0_1 a0_2 a0_3 a0_4 a0_5 a1_0 a1_1).bind fun t162 => (if t162 = true then (pelotonlaw10_SliceCuts.j0 k a2 t162 (wrap64 (a1_0 * a1_1)) a0_0 a0_1 a0_2 a0_3 a0_4 a0_5 a1_0 a1_1) else (pelotonlaw10_SliceCuts.j0 k a2 t162 0 a0_0 a0_1 a0_2 a0_3 a0_4 a0_5 a1_0 a1_1))) = some r := by rw [if_pos rfl] at H; exact H
 clear H
 have H := H1
 clear H1
 replace H := Option.bind_eq_some_iff.mp H
 obtain ⟨t162, A60, H⟩ := H
 replace H : (if t162 = true then (pelotonlaw10_SliceCuts.j0 k a2 t162 (wrap64 (a1_0 * a1_1)) a0_0 a0_1 a0_2 a0_3 a0_4 a0_5 a1_0 a1_1) else (pelotonlaw10_SliceCuts.j0 k a2 t162 0 a0_0 a0_1 a0_2 a0_3 a0_4 a0_5 a1_0 a1_1)) = some r := H
 have A6 := Aside0.mk A60
 clear A60
 have HC7 := Aside0.mk H
 clear H
 go_enter Try.func3, Try.ntmps3
 go_upto_if 20 with (first | ((with_reducible refine gate_dst (N := 3) rfl ?_); refine box_event ?hg (N := 3) ?hd (cs := #[.int .i64 a0_0, .int .i64 a0_1, .int .i64 a0_2, .int .i64 a0_3, .int .i64 a0_4, .int .i64 a0_5]) (t := 23) ?hr ?_; (case hd => rfl); (case hg => rfl); (case hr => first | (go_simp; done) | (go_simp; rfl)); intro gb159 hg w8 hbox hb; have n0_ := Aside0.mk (below_step (by repeat (first | (with_reducible first | exact HB.out | apply b_a | apply b_n | apply b_d) | exact HB.out)) hb); have n1_ := Aside0.mk (hbox); have n2_ := Aside0.mk ((by rw [hg]; exact (below_size (by repeat (first | (with_reducible first | exact HB.out | apply b_a | apply b_n | apply b_d) | exact HB.out))) : w.heap.size ≤ gb159)); have n3_ := Aside0.mk ((by rw [hg]; exact (below_size (by repeat (first | (with_reducible first | exact HB.out | apply b_a | apply b_n | apply b_d) | exact HB.out))) : w.heap.size ≤ gb159)); clear HB; have HB := n0_; have BK159 := n1_; have GW159 := n2_; have GE159 := n3_; clear n0_ n1_ n2_ n3_; clear hb hbox hg) | ((with_reducible refine gate_dst (N := 4) rfl ?_); refine box_event ?hg (N := 4) ?hd (cs := #[.int .i64 a1_0, .int .i64 a1_1]) (t := 25) ?hr ?_; (case hd => rfl); (case hg => rfl); (case hr => first | (go_simp; done) | (go_simp; rfl)); intro gb160 hg w9 hbox hb; have n0_ := Aside0.mk (blk_below (g := gb159) (o := .cells #[.int .i64 a0_0, .int .i64 a0_1, .int .i64 a0_2, .int .i64 a0_3, .int .i64 a0_4, .int .i64 a0_5] 23 (0, 0)) (by (with_reducible repeat (first | refine k_n ?_ _ | refine k_d ?_ | refine k_a ?_ _)); exact BK159.out) hb); have n1_ := Aside0.mk (below_step (by repeat (first | (with_reducible first | exact HB.out | apply b_a | apply b_n | apply b_d | refine b_s ?_ GE159.out) | exact HB.out)) hb); have n2_ := Aside0.mk (hbox); have n3_ := Aside0.mk ((by rw [hg]; exact (below_size (by repeat (first | (with_reducible first | exact HB.out | apply b_a | apply b_n | apply b_d | refine b_s ?_ GE159.out) | exact HB.out))) : w.heap.size ≤ gb160)); have n4_ := Aside0.mk ((by rw [hg]; exact (below_size (by repeat (first | (with_reducible first | exact HB.out | apply b_a | apply b_n | apply b_d | refine b_s ?_ GE159.out) | exact HB.out))) : w.heap.size ≤ gb160)); have n5_ := Aside0.mk ((by rw [hg]; exact Nat.ne_of_lt (blk_lt (g := gb159) (o := .cells #[.int .i64 a0_0, .int .i64 a0_1, .int .i64 a0_2, .int .i64 a0_3, .int .i64 a0_4, .int .i64 a0_5] 23 (0, 0)) (by (with_reducible repeat (first | refine k_n ?_ _ | refine k_d ?_ | refine k_a ?_ _)); exact BK159.out)) : gb159 ≠ gb160)); have n6_ := Aside0.mk ((by rw [hg]; exact Nat.ne_of_gt (blk_lt (g := gb159) (o := .cells #[.int .i64 a0_0, .int .i64 a0_1, .int .i64 a0_2, .int .i64 a0_3, .int .i64 a0_4, .int .i64 a0_5] 23 (0, 0)) (by (with_reducible repeat (first | refine k_n ?_ _ | refine k_d ?_ | refine k_a ?_ _)); exact BK159.out)) : gb160 ≠ gb159)); clear BK159; clear HB; have BK159 := n0_; have HB := n1_; have BK160 := n2_; have GW160 := n3_; have GE160 := n4_; have NB159_160 := n5_; have NB160_159 := n6_; clear n0_ n1_ n2_ n3_ n4_ n5_ n6_; clear hb hbox hg) | ((with_reducible refine gate_callee (f := 7) rfl ?_); refine goesL_ (some 15) rfl rfl Try.func7 (by kernel_rfl) rfl #[] rfl (by (try simp only [l_4, l_5, l_6]); first | done | rfl | (simp only [l_7, l_8]; rfl)) ?_; (with_reducible refine (pelotonlaw10_awake.calls k  true _ A4.out).mono ?_); rintro e w10 ⟨rfl, hb⟩; refine ⟨_, rfl, ?_⟩; have n0_ := Aside0.mk (blk_below (g := gb159) (o := .cells #[.int .i64 a0_0, .int .i64 a0_1, .int .i64 a0_2, .int .i64 a0_3, .int .i64 a0_4, .int .i64 a0_5] 23 (0, 0)) (by (with_reducible repeat (first | refine k_n ?_ _ | refine k_d ?_ | refine k_a ?_ _)); exact BK159.out) hb); have n1_ := Aside0.mk (blk_below (g := gb160) (o := .cells #[.int .i64 a1_0, .int .i64 a1_1] 25 (0, 0)) (by (with_reducible repeat (first | refine k_n ?_ _ | refine k_d ?_ | refine k_a ?_ _)); exact BK160.out) hb); have n2_ := Aside0.mk (below_step (by repeat (first | (with_reducible first | exact HB.out | apply b_a | apply b_n | apply b_d | refine b_s ?_ GE159.out | refine b_s ?_ GE160.out) | exact HB.out)) hb); clear BK159; clear BK160; clear HB; have BK159 := n0_; have BK160 := n1_; have HB := n2_; clear n0_ n1_ n2_; (try clear hb); (try clear hb2); (try clear hk); (try clear hi); have hnb11 := NB159_160.out; have hnc11 := NB160_159.out; have hcz12_0 : w10.cell? ⟨gb159, 0, none⟩ = some (.int .i64 a0_0) := (blk_cell BK159.out 0).trans rfl; have hcz12_1 : w10.cell? ⟨gb159, 1, none⟩ = some (.int .i64 a0_1) := (blk_cell BK159.out 1).trans rfl; have hcz12_2 : w10.cell? ⟨gb159, 2, none⟩ = some (.int .i64 a0_2) := (blk_cell BK159.out 2).trans rfl; have hcz12_3 : w10.cell? ⟨gb159, 3, none⟩ = some (.int .i64 a0_3) := (blk_cell BK159.out 3).trans rfl; have hcz12_4 : w10.cell? ⟨gb159, 4, none⟩ = some (.int .i64 a0_4) := (blk_cell BK159.out 4).trans rfl; have hcz12_5 : w10.cell? ⟨gb159, 5, none⟩ = some (.int .i64 a0_5) := (blk_cell BK159.out 5).trans rfl; have hfz12_0 := blk_frozen BK159.out 0; have hfz12_1 := blk_frozen BK159.out 1; have hfz12_2 := blk_frozen BK159.out 2; have hfz12_3 := blk_frozen BK159.out 3; have hfz12_4 := blk_frozen BK159.out 4; have hfz12_5 := blk_frozen BK159.out 5; have hcz13_0 : w10.cell? ⟨gb160, 0, none⟩ = some (.int .i64 a1_0) := (blk_cell BK160.out 0).trans rfl; have hcz13_1 : w10.cell? ⟨gb160, 1, none⟩ = some (.int .i64 a1_1) := (blk_cell BK160.out 1).trans rfl; have hfz13_0 := blk_frozen BK160.out 0; have hfz13_1 := blk_frozen BK160.out 1) | ((with_reducible refine gate_callee (f := 8) rfl ?_); refine goesL_ (some 19) rfl rfl Try.func8 (by kernel_rfl) rfl #[.agg #[.int .i64 a0_0, .int .i64 a0_1, .int .i64 a0_2, .int .i64 a0_3, .int .i64 a0_4, .int .i64 a0_5], .agg #[.int .i64 a1_0, .int .i64 a1_1]] rfl (by (try simp only [l_4, l_5, l_6]); first | done | rfl | (simp only [l_7, l_8]; rfl)) ?_; (with_reducible refine (pelotonref10_Right.calls a0_0 a0_1 a0_2 a0_3 a0_4 a0_5 a1_0 a1_1 t162 _ A6.out).mono ?_); rintro e w14 ⟨rfl, hb⟩; refine ⟨_, rfl, ?_⟩; have n0_ := Aside0.mk (blk_below (g := gb159) (o := .cells #[.int .i64 a0_0, .int .i64 a0_1, .int .i64 a0_2, .int .i64 a0_3, .int .i64 a0_4, .int .i64 a0_5] 23 (0, 0)) (by (with_reducible repeat (first | refine k_n ?_ _ | refine k_d ?_ | refine k_a ?_ _)); exact BK159.out) hb); have n1_ := Aside0.mk (blk_below (g := gb160) (o := .cells #[.int .i64 a1_0, .int .i64 a1_1] 25 (0, 0)) (by (with_reducible repeat (first | refine k_n ?_ _ | refine k_d ?_ | refine k_a ?_ _)); exact BK160.out) hb); have n2_ := Aside0.mk (below_step (by repeat (first | (with_reducible first | exact HB.out | apply b_a | apply b_n | apply b_d | refine b_s ?_ GE159.out | refine b_s ?_ GE160.out) | exact HB.out)) hb); clear BK159; clear BK160; clear HB; have BK159 := n0_; have BK160 := n1_; have HB := n2_; clear n0_ n1_ n2_; (try clear hb); (try clear hb2); (try clear hk); (try clear hi)))
 (try simp only [Act.put, l_1, l_2, l_3])
 go_cut [8] (fun v8 wc => ∃ (kq : Nat) (x8_6 : Int), v8 = .int .i64 x8_6 ∧ Aside0 (pelotonlaw10_SliceCuts.j0 kq a2 t162 x8_6 a0_0 a0_1 a0_2 a0_3 a0_4 a0_5 a1_0 a1_1 = some r) ∧ Aside0 (kq ≤ k) ∧ Aside0 (wc.heap[gb159]? = some (.cells #[.int .i64 a0_0, .int .i64 a0_1, .int .i64 a0_2, .int .i64 a0_3, .int .i64 a0_4, .int .i64 a0_5] 23 (0, 0))) ∧ Aside0 (wc.heap[gb160]? = some (.cells #[.int .i64 a1_0, .int .i64 a1_1] 25 (0, 0))) ∧ Aside0 (Below w.heap.size w wc))
 case first =>
  have H := HC7.out
  clear HC7
  by_cases c15 : t162 = true
  rotate_left
  ·
   replace c15 := Bool.eq_false_iff.mpr c15
   subst c15
   have H1 : (pelotonlaw10_SliceCuts.j0 k a2 false 0 a0_0 a0_1 a0_2 a0_3 a0_4 a0_5 a1_0 a1_1) = some r := by rw [if_neg (show ¬ (false = true) by decide)] at H; exact H
   clear H
   have H := H1
   clear H1
   have H' := Aside0.mk H
   clear H
   go_wp2
   go_meet
   case rel => exact ⟨_, (0), (by first | rfl | (simp; done) | (simp [*]; done)), H', ⟨by first | omega | exact Nat.le_refl _⟩, ⟨by (with_reducible repeat (first | refine k_n ?_ _ | refine k_d ?_ | refine k_a ?_ _)); exact BK159.out⟩, ⟨by (with_reducible repeat (first | refine k_n ?_ _ | refine k_d ?_ | refine k_a ?_ _)); exact BK160.out⟩, ⟨by repeat (first | (with_reducible first | exact HB.out | apply b_a | apply b_n | apply b_d | refine b_s ?_ GE159.out | refine b_s ?_ GE160.out) | exact HB.out)⟩⟩
  subst c15
  have H1 : (pelotonlaw10_SliceCuts.j0 k a2 true (wrap64 (a1_0 * a1_1)) a0_0 a0_1 a0_2 a0_3 a0_4 a0_5 a1_0 a1_1) = some r := by rw [if_pos rfl] at H; exact H
  clear H
  have H := H1
  clear H1
  have H' := Aside0.mk H
  clear H
  have hnb16 := NB160_159.out
  have hnc16 := NB159_160.out
  have hcz17_0 : w14.cell? ⟨gb160, 0, none⟩ = some (.int .i64 a1_0) := (blk_cell BK160.out 0).trans rfl
  have hcz17_1 : w14.cell? ⟨gb160, 1, none⟩ = some (.int .i64 a1_1) := (blk_cell BK160.out 1).trans rfl
  have hfz17_0 := blk_frozen BK160.out 0
  have hfz17_1 := blk_frozen BK160.out 1
  go_wp2
  go_meet
  case rel => exact ⟨_, (wrap64 (a1_0 * a1_1)), (by first | rfl | (simp; done) | (simp [*]; done)), H', ⟨by first | omega | exact Nat.le_refl _⟩, ⟨by (with_reducible repeat (first | refine k_n ?_ _ | refine k_d ?_ | refine k_a ?_ _)); exact BK159.out⟩, ⟨by (with_reducible repeat (first | refine k_n ?_ _ | refine k_d ?_ | refine k_a ?_ _)); exact BK160.out⟩, ⟨by repeat (first | (with_reducible first | exact HB.out | apply b_a | apply b_n | apply b_d | refine b_s ?_ GE159.out | refine b_s ?_ GE160.out) | exact HB.out)⟩⟩
 case rest => as_aux_lemma =>
  clear HC7
  try clear c1
  try clear p2
  try clear c3
  try clear c5
  try clear p6
  try clear c7
  try clear c8
  try clear c11
  try clear c15
  try clear c16
  try clear hcz12_0
  try clear hcz12_1
  try clear hcz12_2
  try clear hcz12_3
  try clear hcz12_4
  try clear hcz12_5
  try clear hcz13_0
  try clear hcz13_1
  try clear hcz17_0
  try clear hcz17_1
  try clear hfz12_0
  try clear hfz12_1
  try clear hfz12_2
  try clear hfz12_3
  try clear hfz12_4
  try clear hfz12_5
  try clear hfz13_0
  try clear hfz13_1
  try clear hfz17_0
  try clear hfz17_1
  obtain ⟨kq, x8_6, rfl, HA, HJ6, BK159, BK160, HB⟩ := hcut
  cases kq with
  | zero => exact absurd HA.out (by simp [pelotonlaw10_SliceCuts.j0])
  | succ kj6 =>
   have H := HA.out
   clear HA
   simp only [pelotonlaw10_SliceCuts.j0] at H
   have HC18 := Aside0.mk H
   clear H
   go_upto_region 7 with (fail)
   go_cut [37] (fun v37 wc => ∃ (kq : Nat) (x37_17 : Bool), v37 = .bool x37_17 ∧ Aside0 (pelotonlaw10_SliceCuts.j1 kq a2 t162 x37_17 a0_0 a0_1 a0_2 a0_3 a0_4 a0_5 a1_0 a1_1 = some r) ∧ Aside0 (kq ≤ kj6) ∧ Aside0 (wc.heap[gb159]? = some (.cells #[.int .i64 a0_0, .int .i64 a0_1, .int .i64 a0_2, .int .i64 a0_3, .int .i64 a0_4, .int .i64 a0_5] 23 (0, 0))) ∧ Aside0 (wc.heap[gb160]? = some (.cells #[.int .i64 a1_0, .int .i64 a1_1] 25 (0, 0))) ∧ Aside0 (Below w.heap.size w wc))
   case first =>
    have H := HC18.out
    clear HC18
    replace H := Option.bind_eq_some_iff.mp H
    obtain ⟨t163, A190, H⟩ := H
    replace H : (if (t163 != t162) = true then (pelotonlaw10_SliceCuts.j1 kj6 a2 t162 true a0_0 a0_1 a0_2 a0_3 a0_4 a0_5 a1_0 a1_1) else ((slice_Workers.f a0_0 a0_1 a0_2 a0_3 a0_4 a0_5 a1_0 a1_1).bind fun t164 => (pelotonlaw10_SliceCuts.j1 kj6 a2 t162 (t164 != x8_6) a0_0 a0_1 a0_2 a0_3 a0_4 a0_5 a1_0 a1_1))) = some r := H
    have A19 := Aside0.mk A190
    clear A190
    by_cases c20 : (t163 != t162) = true
    ·
     rw [if_pos c20] at H
     have c20b0 : (t163 != t162) = true := c20
     (try (have c20b1 : decide (t163 = t162) = false := by simpa using c20))
     (try (have c20b2 : (t163 == t162) = false := by simpa using c20))
     (try (have c20b3 : ¬ (t163 = t162) := by simpa using c20))
     clear c20
     (first | rw [c20b0] | (simp only [i64_w, i32_w]; rw [c20b0]) | skip)
     have H' := Aside0.mk H
     clear H
     have hnb21 := NB159_160.out
     have hnc21 := NB160_159.out
     have hcz22_0 : wc.cell? ⟨gb159, 0, none⟩ = some (.int .i64 a0_0) := (blk_cell BK159.out 0).trans rfl
     have hcz22_1 : wc.cell? ⟨gb159, 1, none⟩ = some (.int .i64 a0_1) := (blk_cell BK159.out 1).trans rfl
     have hcz22_2 : wc.cell? ⟨gb159, 2, none⟩ = some (.int .i64 a0_2) := (blk_cell BK159.out 2).trans rfl
     have hcz22_3 : wc.cell? ⟨gb159, 3, none⟩ = some (.int .i64 a0_3) := (blk_cell BK159.out 3).trans rfl
     have hcz22_4 : wc.cell? ⟨gb159, 4, none⟩ = some (.int .i64 a0_4) := (blk_cell BK159.out 4).trans rfl
     have hcz22_5 : wc.cell? ⟨gb159, 5, none⟩ = some (.int .i64 a0_5) := (blk_cell BK159.out 5).trans rfl
     have hfz22_0 := blk_frozen BK159.out 0
     have hfz22_1 := blk_frozen BK159.out 1
     have hfz22_2 := blk_frozen BK159.out 2
     have hfz22_3 := blk_frozen BK159.out 3
     have hfz22_4 := blk_frozen BK159.out 4
     have hfz22_5 := blk_frozen BK159.out 5
     have hcz23_0 : wc.cell? ⟨gb160, 0, none⟩ = some (.int .i64 a1_0) := (blk_cell BK160.out 0).trans rfl
     have hcz23_1 : wc.cell? ⟨gb160, 1, none⟩ = some (.int .i64 a1_1) := (blk_cell BK160.out 1).trans rfl
     have hfz23_0 := blk_frozen BK160.out 0
     have hfz23_1 := blk_frozen BK160.out 1
     go_wp2_with (first | ((with_reducible refine gate_callee (f := 9) rfl ?_); refine goesL_ (some 28) rfl rfl Try.func9 (by kernel_rfl) rfl #[.agg #[.int .i64 a0_0, .int .i64 a0_1, .int .i64 a0_2, .int .i64 a0_3, .int .i64 a0_4, .int .i64 a0_5], .agg #[.int .i64 a1_0, .int .i64 a1_1]] rfl (by (try simp only [l_4, l_5, l_6]); first | done | rfl | (simp only [l_7, l_8]; rfl)) ?_; (with_reducible refine (slice_Right.calls a0_0 a0_1 a0_2 a0_3 a0_4 a0_5 a1_0 a1_1 t163 _ A19.out).mono ?_); rintro e w24 ⟨rfl, hb⟩; refine ⟨_, rfl, ?_⟩; have n0_ := Aside0.mk (blk_below (g := gb159) (o := .cells #[.int .i64 a0_0, .int .i64 a0_1, .int .i64 a0_2, .int .i64 a0_3, .int .i64 a0_4, .int .i64 a0_5] 23 (0, 0)) (by (with_reducible repeat (first | refine k_n ?_ _ | refine k_d ?_ | refine k_a ?_ _)); exact BK159.out) hb); have n1_ := Aside0.mk (blk_below (g := gb160) (o := .cells #[.int .i64 a1_0, .int .i64 a1_1] 25 (0, 0)) (by (with_reducible repeat (first | refine k_n ?_ _ | refine k_d ?_ | refine k_a ?_ _)); exact BK160.out) hb); have n2_ := Aside0.mk (below_step (by repeat (first | (with_reducible first | exact HB.out | apply b_a | apply b_n | apply b_d | refine b_s ?_ GE159.out | refine b_s ?_ GE160.out) | exact HB.out)) hb); clear BK159; clear BK160; clear HB; have BK159 := n0_; have BK160 := n1_; have HB := n2_; clear n0_ n1_ n2_; (try clear hb); (try clear hb2); (try clear hk); (try clear hi)))
     go_meet
     case rel => exact ⟨_, (true), (by first | rfl | (simp; done) | (simp [*]; done)), H', ⟨by have := HJ6.out; first | omega | exact Nat.le_refl _⟩, ⟨by (with_reducible repeat (first | refine k_n ?_ _ | refine k_d ?_ | refine k_a ?_ _)); exact BK159.out⟩, ⟨by (with_reducible repeat (first | refine k_n ?_ _ | refine k_d ?_ | refine k_a ?_ _)); exact BK160.out⟩, ⟨by repeat (first | (with_reducible first | exact HB.out | apply b_a | apply b_n | apply b_d | refine b_s ?_ GE159.out | refine b_s ?_ GE160.out) | exact HB.out)⟩⟩
    rw [if_neg c20] at H
    have c20b0 : (t163 != t162) = false := by simpa using c20
    (try (have c20b1 : decide (t163 = t162) = true := by simpa using c20))
    (try (have c20b2 : (t163 == t162) = true := by simpa using c20))
    clear c20
    (first | rw [c20b0] | (simp only [i64_w, i32_w]; rw [c20b0]) | skip)
    replace H := Option.bind_eq_some_iff.mp H
    obtain ⟨t164, A250, H⟩ := H
    replace H : (pelotonlaw10_SliceCuts.j1 kj6 a2 t162 (t164 != x8_6) a0_0 a0_1 a0_2 a0_3 a0_4 a0_5 a1_0 a1_1) = some r := H
    have A25 := Aside0.mk A250
    clear A250
    have H' := Aside0.mk H
    clear H
    have hnb26 := NB159_160.out
    have hnc26 := NB160_159.out
    have hcz27_0 : wc.cell? ⟨gb159, 0, none⟩ = some (.int .i64 a0_0) := (blk_cell BK159.out 0).trans rfl
    have hcz27_1 : wc.cell? ⟨gb159, 1, none⟩ = some (.int .i64 a0_1) := (blk_cell BK159.out 1).trans rfl
    have hcz27_2 : wc.cell? ⟨gb159, 2, none⟩ = some (.int .i64 a0_2) := (blk_cell BK159.out 2).trans rfl
    have hcz27_3 : wc.cell? ⟨gb159, 3, none⟩ = some (.int .i64 a0_3) := (blk_cell BK159.out 3).trans rfl
    have hcz27_4 : wc.cell? ⟨gb159, 4, none⟩ = some (.int .i64 a0_4) := (blk_cell BK159.out 4).trans rfl
    have hcz27_5 : wc.cell? ⟨gb159, 5, none⟩ = some (.int .i64 a0_5) := (blk_cell BK159.out 5).trans rfl
    have hfz27_0 := blk_frozen BK159.out 0
    have hfz27_1 := blk_frozen BK159.out 1
    have hfz27_2 := blk_frozen BK159.out 2
    have hfz27_3 := blk_frozen BK159.out 3
    have hfz27_4 := blk_frozen BK159.out 4
    have hfz27_5 := blk_frozen BK159.out 5
    have hcz28_0 : wc.cell? ⟨gb160, 0, none⟩ = some (.int .i64 a1_0) := (blk_cell BK160.out 0).trans rfl
    have hcz28_1 : wc.cell? ⟨gb160, 1, none⟩ = some (.int .i64 a1_1) := (blk_cell BK160.out 1).trans rfl
    have hfz28_0 := blk_frozen BK160.out 0
    have hfz28_1 := blk_frozen BK160.out 1
    go_wp2_with (first | ((with_reducible refine gate_callee (f := 9) rfl ?_); refine goesL_ (some 28) rfl rfl Try.func9 (by kernel_rfl) rfl #[.agg #[.int .i64 a0_0, .int .i64 a0_1, .int .i64 a0_2, .int .i64 a0_3, .int .i64 a0_4, .int .i64 a0_5], .agg #[.int .i64 a1_0, .int .i64 a1_1]] rfl (by (try simp only [l_4, l_5, l_6]); first | done | rfl | (simp only [l_7, l_8]; rfl)) ?_; (with_reducible refine (slice_Right.calls a0_0 a0_1 a0_2 a0_3 a0_4 a0_5 a1_0 a1_1 t163 _ A19.out).mono ?_); rintro e w29 ⟨rfl, hb⟩; refine ⟨_, rfl, ?_⟩; have n0_ := Aside0.mk (blk_below (g := gb159) (o := .cells #[.int .i64 a0_0, .int .i64 a0_1, .int .i64 a0_2, .int .i64 a0_3, .int .i64 a0_4, .int .i64 a0_5] 23 (0, 0)) (by (with_reducible repeat (first | refine k_n ?_ _ | refine k_d ?_ | refine k_a ?_ _)); exact BK159.out) hb); have n1_ := Aside0.mk (blk_below (g := gb160) (o := .cells #[.int .i64 a1_0, .int .i64 a1_1] 25 (0, 0)) (by (with_reducible repeat (first | refine k_n ?_ _ | refine k_d ?_ | refine k_a ?_ _)); exact BK160.out) hb); have n2_ := Aside0.mk (below_step (by repeat (first | (with_reducible first | exact HB.out | apply b_a | apply b_n | apply b_d | refine b_s ?_ GE159.out | refine b_s ?_ GE160.out) | exact HB.out)) hb); clear BK159; clear BK160; clear HB; have BK159 := n0_; have BK160 := n1_; have HB := n2_; clear n0_ n1_ n2_; (try clear hb); (try clear hb2); (try clear hk); (try clear hi); have hcz30_0 : w29.cell? ⟨gb159, 0, none⟩ = some (.int .i64 a0_0) := (blk_cell BK159.out 0).trans rfl; have hcz30_1 : w29.cell? ⟨gb159, 1, none⟩ = some (.int .i64 a0_1) := (blk_cell BK159.out 1).trans rfl; have hcz30_2 : w29.cell? ⟨gb159, 2, none⟩ = some (.int .i64 a0_2) := (blk_cell BK159.out 2).trans rfl; have hcz30_3 : w29.cell? ⟨gb159, 3, none⟩ = some (.int .i64 a0_3) := (blk_cell BK159.out 3).trans rfl; have hcz30_4 : w29.cell? ⟨gb159, 4, none⟩ = some (.int .i64 a0_4) := (blk_cell BK159.out 4).trans rfl; have hcz30_5 : w29.cell? ⟨gb159, 5, none⟩ = some (.int .i64 a0_5) := (blk_cell BK159.out 5).trans rfl; have hfz30_0 := blk_frozen BK159.out 0; have hfz30_1 := blk_frozen BK159.out 1; have hfz30_2 := blk_frozen BK159.out 2; have hfz30_3 := blk_frozen BK159.out 3; have hfz30_4 := blk_frozen BK159.out 4; have hfz30_5 := blk_frozen BK159.out 5; have hcz31_0 : w29.cell? ⟨gb160, 0, none⟩ = some (.int .i64 a1_0) := (blk_cell BK160.out 0).trans rfl; have hcz31_1 : w29.cell? ⟨gb160, 1, none⟩ = some (.int .i64 a1_1) := (blk_cell BK160.out 1).trans rfl; have hfz31_0 := blk_frozen BK160.out 0; have hfz31_1 := blk_frozen BK160.out 1) | (go_at_call 10; (with_reducible refine (slice_Workers.calls a0_0 a0_1 a0_2 a0_3 a0_4 a0_5 a1_0 a1_1 t164 _ A25.out).mono ?_); rintro e w32 ⟨rfl, hb⟩; have n0_ := Aside0.mk (blk_below (g := gb159) (o := .cells #[.int .i64 a0_0, .int .i64 a0_1, .int .i64 a0_2, .int .i64 a0_3, .int .i64 a0_4, .int .i64 a0_5] 23 (0, 0)) (by (with_reducible repeat (first | refine k_n ?_ _ | refine k_d ?_ | refine k_a ?_ _)); exact BK159.out) hb); have n1_ := Aside0.mk (blk_below (g := gb160) (o := .cells #[.int .i64 a1_0, .int .i64 a1_1] 25 (0, 0)) (by (with_reducible repeat (first | refine k_n ?_ _ | refine k_d ?_ | refine k_a ?_ _)); exact BK160.out) hb); have n2_ := Aside0.mk (below_step (by repeat (first | (with_reducible first | exact HB.out | apply b_a | apply b_n | apply b_d | refine b_s ?_ GE159.out | refine b_s ?_ GE160.out) | exact HB.out)) hb); clear BK159; clear BK160; clear HB; have BK159 := n0_; have BK160 := n1_; have HB := n2_; clear n0_ n1_ n2_; (try clear hb); (try clear hb2); (try clear hk); (try clear hi)))
    go_meet
    case rel => exact ⟨_, ((t164 != x8_6)), (by first | rfl | (simp; done) | (simp [*]; done)), H', ⟨by have := HJ6.out; first | omega | exact Nat.le_refl _⟩, ⟨by (with_reducible repeat (first | refine k_n ?_ _ | refine k_d ?_ | refine k_a ?_ _)); exact BK159.out⟩, ⟨by (with_reducible repeat (first | refine k_n ?_ _ | refine k_d ?_ | refine k_a ?_ _)); exact BK160.out⟩, ⟨by repeat (first | (with_reducible first | exact HB.out | apply b_a | apply b_n | apply b_d | refine b_s ?_ GE159.out | refine b_s ?_ GE160.out) | exact HB.out)⟩⟩
   case rest => as_aux_lemma =>
    clear HC18
    try clear c1
    try clear c2
    try clear p2
    try clear c3
    try clear c5
    try clear p6
    try clear c7
    try clear c8
    try clear c9
    try clear c11
    try clear c15
    try clear c16
    try clear c20
    try clear c20b0
    try clear c20b1
    try clear c20b2
    try clear c21
    try clear c26
    try clear hcz12_0
    try clear hcz12_1
    try clear hcz12_2
    try clear hcz12_3
    try clear hcz12_4
    try clear hcz12_5
    try clear hcz13_0
    try clear hcz13_1
    try clear hcz17_0
    try clear hcz17_1
    try clear hcz22_0
    try clear hcz22_1
    try clear hcz22_2
    try clear hcz22_3
    try clear hcz22_4
    try clear hcz22_5
    try clear hcz23_0
    try clear hcz23_1
    try clear hcz27_0
    try clear hcz27_1
    try clear hcz27_2
    try clear hcz27_3
    try clear hcz27_4
    try clear hcz27_5
    try clear hcz28_0
    try clear hcz28_1
    try clear hcz30_0
    try clear hcz30_1
    try clear hcz30_2
    try clear hcz30_3
    try clear hcz30_4
    try clear hcz30_5
    try clear hcz31_0
    try clear hcz31_1
    try clear hfz12_0
    try clear hfz12_1
    try clear hfz12_2
    try clear hfz12_3
    try clear hfz12_4
    try clear hfz12_5
    try clear hfz13_0
    try clear hfz13_1
    try clear hfz17_0
    try clear hfz17_1
    try clear hfz22_0
    try clear hfz22_1
    try clear hfz22_2
    try clear hfz22_3
    try clear hfz22_4
    try clear hfz22_5
    try clear hfz23_0
    try clear hfz23_1
    try clear hfz27_0
    try clear hfz27_1
    try clear hfz27_2
    try clear hfz27_3
    try clear hfz27_4
    try clear hfz27_5
    try clear hfz28_0
    try clear hfz28_1
    try clear hfz30_0
    try clear hfz30_1
    try clear hfz30_2
    try clear hfz30_3
    try clear hfz30_4
    try clear hfz30_5
    try clear hfz31_0
    try clear hfz31_1
    try clear p2
    try clear p6
    obtain ⟨kq, x37_17, rfl, HA, HJ17, BK159, BK160, HB⟩ := hcut
    cases kq with
    | zero => exact absurd HA.out (by simp [pelotonlaw10_SliceCuts.j1])
    | succ kj17 =>
     have H := HA.out
     clear HA
     simp only [pelotonlaw10_SliceCuts.j1] at H
     by_cases c33 : x37_17 = true
     ·
      subst c33
      have H1 : (some false) = some r := by rw [if_pos rfl] at H; exact H
      clear H
      have H := H1
      clear H1
      obtain rfl := Option.some.inj H
      go_wp2
      go_ret
      exact ⟨by first | rfl | (simp [errW_none, errW_some] <;> rfl) | (simp [*, errW_none, errW_some] <;> rfl), by repeat (first | (with_reducible first | exact HB.out | apply b_a | apply b_n | apply b_d | refine b_s ?_ GE159.out | refine b_s ?_ GE160.out) | exact HB.out)⟩
     replace c33 := Bool.eq_false_iff.mpr c33
     subst c33
     have H1 : ((slice_Layers.f a0_0 a0_1 a0_2 a0_3 a0_4 a0_5 a1_0 a1_1 a2).bind fun bt165 => ((slice_Heads.f a0_0 a0_1 a0_2 a0_3 a0_4 a0_5 a1_0 a1_1 a2).bind fun bt169 => ((slice_Inner.f a0_0 a0_1 a0_2 a0_3 a0_4 a0_5 a1_0 a1_1 a2).bind fun bt173 => (if t162 = true then (if a2 < 0 then (pelotonlaw10_SliceCuts.j3 kj17 a2 bt165.2.2 bt169.2.2 bt173.2.2 true a0_0 a0_1 a0_2 a0_3 a0_4 a0_5 a1_0 a1_1 bt165.1 bt165.2.1 bt169.1 bt169.2.1 bt173.1 bt173.2.1) else (pelotonlaw10_SliceCuts.j3 kj17 a2 bt165.2.2 bt169.2.2 bt173.2.2 (decide (a2 ≥ a1_0)) a0_0 a0_1 a0_2 a0_3 a0_4 a0_5 a1_0 a1_1 bt165.1 bt165.2.1 bt169.1 bt169.2.1 bt173.1 bt173.2.1)) else (if bt165.2.2 = 100 then (if bt169.2.2 = 100 then (if bt173.2.2 = 100 then (if (bt165.1 == 0 && (bt165.2.1 == 0)) = true then (if (bt169.1 == 0 && (bt169.2.1 == 0)) = true then (pelotonlaw10_SliceCuts.j2 kj17 (bt173.1 == 0 && (bt173.2.1 == 0))) else (pelotonlaw10_SliceCuts.j2 kj17 false)) else (pelotonlaw10_SliceCuts.j2 kj17 false)) else (pelotonlaw10_SliceCuts.j2 kj17 false)) else (pelotonlaw10_SliceCuts.j2 kj17 false)) else (pelotonlaw10_SliceCuts.j2 kj17 false)))))) = some r := by rw [if_neg (show ¬ (false = true) by decide)] at H; exact H
     clear H
     have H := H1
     clear H1
     replace H := Option.bind_eq_some_iff.mp H
     obtain ⟨⟨t165, t166, t167⟩, A340, H⟩ := H
     replace H : ((slice_Heads.f a0_0 a0_1 a0_2 a0_3 a0_4 a0_5 a1_0 a1_1 a2).bind fun bt169 => ((slice_Inner.f a0_0 a0_1 a0_2 a0_3 a0_4 a0_5 a1_0 a1_1 a2).bind fun bt173 => (if t162 = true then (if a2 < 0 then (pelotonlaw10_SliceCuts.j3 kj17 a2 t167 bt169.2.2 bt173.2.2 true a0_0 a0_1 a0_2 a0_3 a0_4 a0_5 a1_0 a1_1 t165 t166 bt169.1 bt169.2.1 bt173.1 bt173.2.1) else (pelotonlaw10_SliceCuts.j3 kj17 a2 t167 bt169.2.2 bt173.2.2 (decide (a2 ≥ a1_0)) a0_0 a0_1 a0_2 a0_3 a0_4 a0_5 a1_0 a1_1 t165 t166 bt169.1 bt169.2.1 bt173.1 bt173.2.1)) else (if t167 = 100 then (if bt169.2.2 = 100 then (if bt173.2.2 = 100 then (if (t165 == 0 && (t166 == 0)) = true then (if (bt169.1 == 0 && (bt169.2.1 == 0)) = true then (pelotonlaw10_SliceCuts.j2 kj17 (bt173.1 == 0 && (bt173.2.1 == 0))) else (pelotonlaw10_SliceCuts.j2 kj17 false)) else (pelotonlaw10_SliceCuts.j2 kj17 false)) else (pelotonlaw10_SliceCuts.j2 kj17 false)) else (pelotonlaw10_SliceCuts.j2 kj17 false)) else (pelotonlaw10_SliceCuts.j2 kj17 false))))) = some r := H
     have A34 := Aside0.mk A340
     clear A340
     replace H := Option.bind_eq_some_iff.mp H
     obtain ⟨⟨t169, t170, t171⟩, A350, H⟩ := H
     replace H : ((slice_Inner.f a0_0 a0_1 a0_2 a0_3 a0_4 a0_5 a1_0 a1_1 a2).bind fun bt173 => (if t162 = true then (if a2 < 0 then (pelotonlaw10_SliceCuts.j3 kj17 a2 t167 t171 bt173.2.2 true a0_0 a0_1 a0_2 a0_3 a0_4 a0_5 a1_0 a1_1 t165 t166 t169 t170 bt173.1 bt173.2.1) else (pelotonlaw10_SliceCuts.j3 kj17 a2 t167 t171 bt173.2.2 (decide (a2 ≥ a1_0)) a0_0 a0_1 a0_2 a0_3 a0_4 a0_5 a1_0 a1_1 t165 t166 t169 t170 bt173.1 bt173.2.1)) else (if t167 = 100 then (if t171 = 100 then (if bt173.2.2 = 100 then (if (t165 == 0 && (t166 == 0)) = true then (if (t169 == 0 && (t170 == 0)) = true then (pelotonlaw10_SliceCuts.j2 kj17 (bt173.1 == 0 && (bt173.2.1 == 0))) else (pelotonlaw10_SliceCuts.j2 kj17 false)) else (pelotonlaw10_SliceCuts.j2 kj17 false)) else (pelotonlaw10_SliceCuts.j2 kj17 false)) else (pelotonlaw10_SliceCuts.j2 kj17 false)) else (pelotonlaw10_SliceCuts.j2 kj17 false)))) = some r := H
     have A35 := Aside0.mk A350
     clear A350
     replace H := Option.bind_eq_some_iff.mp H
     obtain ⟨⟨t173, t174, t175⟩, A360, H⟩ := H
     replace H : (if t162 = true then (if a2 < 0 then (pelotonlaw10_SliceCuts.j3 kj17 a2 t167 t171 t175 true a0_0 a0_1 a0_2 a0_3 a0_4 a0_5 a1_0 a1_1 t165 t166 t169 t170 t173 t174) else (pelotonlaw10_SliceCuts.j3 kj17 a2 t167 t171 t175 (decide (a2 ≥ a1_0)) a0_0 a0_1 a0_2 a0_3 a0_4 a0_5 a1_0 a1_1 t165 t166 t169 t170 t173 t174)) else (if t167 = 100 then (if t171 = 100 then (if t175 = 100 then (if (t165 == 0 && (t166 == 0)) = true then (if (t169 == 0 && (t170 == 0)) = true then (pelotonlaw10_SliceCuts.j2 kj17 (t173 == 0 && (t174 == 0))) else (pelotonlaw10_SliceCuts.j2 kj17 false)) else (pelotonlaw10_SliceCuts.j2 kj17 false)) else (pelotonlaw10_SliceCuts.j2 kj17 false)) else (pelotonlaw10_SliceCuts.j2 kj17 false)) else (pelotonlaw10_SliceCuts.j2 kj17 false))) = some r := H
     have A36 := Aside0.mk A360
     clear A360
     by_cases c37 : t162 = true
     rotate_left
     ·
      replace c37 := Bool.eq_false_iff.mpr c37
      subst c37
      have H1 : (if t167 = 100 then (if t171 = 100 then (if t175 = 100 then (if (t165 == 0 && (t166 == 0)) = true then (if (t169 == 0 && (t170 == 0)) = true then (pelotonlaw10_SliceCuts.j2 kj17 (t173 == 0 && (t174 == 0))) else (pelotonlaw10_SliceCuts.j2 kj17 false)) else (pelotonlaw10_SliceCuts.j2 kj17 false)) else (pelotonlaw10_SliceCuts.j2 kj17 false)) else (pelotonlaw10_SliceCuts.j2 kj17 false)) else (pelotonlaw10_SliceCuts.j2 kj17 false)) = some r := by rw [if_neg (show ¬ (false = true) by decide)] at H; exact H
      clear H
      have H := H1
      clear H1
      have HC131 := Aside0.mk H
      clear H
      have hnb132 := NB159_160.out
      have hnc132 := NB160_159.out
      have hcz133_0 : wc.cell? ⟨gb159, 0, none⟩ = some (.int .i64 a0_0) := (blk_cell BK159.out 0).trans rfl
      have hcz133_1 : wc.cell? ⟨gb159, 1, none⟩ = some (.int .i64 a0_1) := (blk_cell BK159.out 1).trans rfl
      have hcz133_2 : wc.cell? ⟨gb159, 2, none⟩ = some (.int .i64 a0_2) := (blk_cell BK159.out 2).trans rfl
      have hcz133_3 : wc.cell? ⟨gb159, 3, none⟩ = some (.int .i64 a0_3) := (blk_cell BK159.out 3).trans rfl
      have hcz133_4 : wc.cell? ⟨gb159, 4, none⟩ = some (.int .i64 a0_4) := (blk_cell BK159.out 4).trans rfl
      have hcz133_5 : wc.cell? ⟨gb159, 5, none⟩ = some (.int .i64 a0_5) := (blk_cell BK159.out 5).trans rfl
      have hfz133_0 := blk_frozen BK159.out 0
      have hfz133_1 := blk_frozen BK159.out 1
      have hfz133_2 := blk_frozen BK159.out 2
      have hfz133_3 := blk_frozen BK159.out 3
      have hfz133_4 := blk_frozen BK159.out 4
      have hfz133_5 := blk_frozen BK159.out 5
      have hcz134_0 : wc.cell? ⟨gb160, 0, none⟩ = some (.int .i64 a1_0) := (blk_cell BK160.out 0).trans rfl
      have hcz134_1 : wc.cell? ⟨gb160, 1, none⟩ = some (.int .i64 a1_1) := (blk_cell BK160.out 1).trans rfl
      have hfz134_0 := blk_frozen BK160.out 0
      have hfz134_1 := blk_frozen BK160.out 1
      go_upto_region 13 with (first | ((with_reducible refine gate_callee (f := 11) rfl ?_); refine goesL_ (some 42) rfl rfl Try.func11 (by kernel_rfl) rfl #[.agg #[.int .i64 a0_0, .int .i64 a0_1, .int .i64 a0_2, .int .i64 a0_3, .int .i64 a0_4, .int .i64 a0_5], .agg #[.int .i64 a1_0, .int .i64 a1_1], .int .i64 a2] rfl (by (try simp only [l_4, l_5, l_6]); first | done | rfl | (simp only [l_7, l_8]; rfl)) ?_; (with_reducible refine (slice_Layers.calls a0_0 a0_1 a0_2 a0_3 a0_4 a0_5 a1_0 a1_1 a2 t165 t166 t167 _ A34.out).mono ?_); rintro e w135 ⟨rfl, hb⟩; refine ⟨_, rfl, ?_⟩; have n0_ := Aside0.mk (blk_below (g := gb159) (o := .cells #[.int .i64 a0_0, .int .i64 a0_1, .int .i64 a0_2, .int .i64 a0_3, .int .i64 a0_4, .int .i64 a0_5] 23 (0, 0)) (by (with_reducible repeat (first | refine k_n ?_ _ | refine k_d ?_ | refine k_a ?_ _)); exact BK159.out) hb); have n1_ := Aside0.mk (blk_below (g := gb160) (o := .cells #[.int .i64 a1_0, .int .i64 a1_1] 25 (0, 0)) (by (with_reducible repeat (first | refine k_n ?_ _ | refine k_d ?_ | refine k_a ?_ _)); exact BK160.out) hb); have n2_ := Aside0.mk (below_step (by repeat (first | (with_reducible first | exact HB.out | apply b_a | apply b_n | apply b_d | refine b_s ?_ GE159.out | refine b_s ?_ GE160.out) | exact HB.out)) hb); clear BK159; clear BK160; clear HB; have BK159 := n0_; have BK160 := n1_; have HB := n2_; clear n0_ n1_ n2_; (try clear hb); (try clear hb2); (try clear hk); (try clear hi)) | ((with_reducible refine gate_dst (N := 9) rfl ?_); refine box_event ?hg (N := 9) ?hd (cs := #[.int .i64 0, .int .i64 0]) (t := 29) ?hr ?_; (case hd => rfl); (case hg => rfl); (case hr => first | (go_simp; done) | (go_simp; rfl)); intro gb168 hg w136 hbox hb; have n0_ := Aside0.mk (blk_below (g := gb159) (o := .cells #[.int .i64 a0_0, .int .i64 a0_1, .int .i64 a0_2, .int .i64 a0_3, .int .i64 a0_4, .int .i64 a0_5] 23 (0, 0)) (by (with_reducible repeat (first | refine k_n ?_ _ | refine k_d ?_ | refine k_a ?_ _)); exact BK159.out) hb); have n1_ := Aside0.mk (blk_below (g := gb160) (o := .cells #[.int .i64 a1_0, .int .i64 a1_1] 25 (0, 0)) (by (with_reducible repeat (first | refine k_n ?_ _ | refine k_d ?_ | refine k_a ?_ _)); exact BK160.out) hb); have n2_ := Aside0.mk (below_step (by repeat (first | (with_reducible first | exact HB.out | apply b_a | apply b_n | apply b_d | refine b_s ?_ GE159.out | refine b_s ?_ GE160.out) | exact HB.out)) hb); have n3_ := Aside0.mk (hbox); have n4_ := Aside0.mk ((by rw [hg]; exact (below_size (by repeat (first | (with_reducible first | exact HB.out | apply b_a | apply b_n | apply b_d | refine b_s ?_ GE159.out | refine b_s ?_ GE160.out) | exact HB.out))) : w.heap.size ≤ gb168)); have n5_ := Aside0.mk ((by rw [hg]; exact (below_size (by repeat (first | (with_reducible first | exact HB.out | apply b_a | apply b_n | apply b_d | refine b_s ?_ GE159.out | refine b_s ?_ GE160.out) | exact HB.out))) : w.heap.size ≤ gb168)); have n6_ := Aside0.mk ((by rw [hg]; exact Nat.ne_of_lt (blk_lt (g := gb159) (o := .cells #[.int .i64 a0_0, .int .i64 a0_1, .int .i64 a0_2, .int .i64 a0_3, .int .i64 a0_4, .int .i64 a0_5] 23 (0, 0)) (by (with_reducible repeat (first | refine k_n ?_ _ | refine k_d ?_ | refine k_a ?_ _)); exact BK159.out)) : gb159 ≠ gb168)); have n7_ := Aside0.mk ((by rw [hg]; exact Nat.ne_of_gt (blk_lt (g := gb159) (o := .cells #[.int .i64 a0_0, .int .i64 a0_1, .int .i64 a0_2, .int .i64 a0_3, .int .i64 a0_4, .int .i64 a0_5] 23 (0, 0)) (by (with_reducible repeat (first | refine k_n ?_ _ | refine k_d ?_ | refine k_a ?_ _)); exact BK159.out)) : gb168 ≠ gb159)); have n8_ := Aside0.mk ((by rw [hg]; exact Nat.ne_of_lt (blk_lt (g := gb160) (o := .cells #[.int .i64 a1_0, .int .i64 a1_1] 25 (0, 0)) (by (with_reducible repeat (first | refine k_n ?_ _ | refine k_d ?_ | refine k_a ?_ _)); exact BK160.out)) : gb160 ≠ gb168)); have n9_ := Aside0.mk ((by rw [hg]; exact Nat.ne_of_gt (blk_lt (g := gb160) (o := .cells #[.int .i64 a1_0, .int .i64 a1_1] 25 (0, 0)) (by (with_reducible repeat (first | refine k_n ?_ _ | refine k_d ?_ | refine k_a ?_ _)); exact BK160.out)) : gb168 ≠ gb160)); clear BK159; clear BK160; clear HB; have BK159 := n0_; have BK160 := n1_; have HB := n2_; have BK168 := n3_; have GW168 := n4_; have GE168 := n5_; have NB159_168 := n6_; have NB168_159 := n7_; have NB160_168 := n8_; have NB168_160 := n9_; clear n0_ n1_ n2_ n3_ n4_ n5_ n6_ n7_ n8_ n9_; clear hb hbox hg; have hnb137 := NB168_159.out; have hnc137 := NB159_168.out; have hnb138 := NB168_160.out; have hnc138 := NB160_168.out; have hcz139_0 : w136.cell? ⟨gb168, 0, none⟩ = some (.int .i64 0) := (blk_cell BK168.out 0).trans rfl; have hcz139_1 : w136.cell? ⟨gb168, 1, none⟩ = some (.int .i64 0) := (blk_cell BK168.out 1).trans rfl; have hfz139_0 := blk_frozen BK168.out 0; have hfz139_1 := blk_frozen BK168.out 1; have hcz140_0 : w136.cell? ⟨gb159, 0, none⟩ = some (.int .i64 a0_0) := (blk_cell BK159.out 0).trans rfl; have hcz140_1 : w136.cell? ⟨gb159, 1, none⟩ = some (.int .i64 a0_1) := (blk_cell BK159.out 1).trans rfl; have hcz140_2 : w136.cell? ⟨gb159, 2, none⟩ = some (.int .i64 a0_2) := (blk_cell BK159.out 2).trans rfl; have hcz140_3 : w136.cell? ⟨gb159, 3, none⟩ = some (.int .i64 a0_3) := (blk_cell BK159.out 3).trans rfl; have hcz140_4 : w136.cell? ⟨gb159, 4, none⟩ = some (.int .i64 a0_4) := (blk_cell BK159.out 4).trans rfl; have hcz140_5 : w136.cell? ⟨gb159, 5, none⟩ = some (.int .i64 a0_5) := (blk_cell BK159.out 5).trans rfl; have hfz140_0 := blk_frozen BK159.out 0; have hfz140_1 := blk_frozen BK159.out 1; have hfz140_2 := blk_frozen BK159.out 2; have hfz140_3 := blk_frozen BK159.out 3; have hfz140_4 := blk_frozen BK159.out 4; have hfz140_5 := blk_frozen BK159.out 5; have hcz141_0 : w136.cell? ⟨gb160, 0, none⟩ = some (.int .i64 a1_0) := (blk_cell BK160.out 0).trans rfl; have hcz141_1 : w136.cell? ⟨gb160, 1, none⟩ = some (.int .i64 a1_1) := (blk_cell BK160.out 1).trans rfl; have hfz141_0 := blk_frozen BK160.out 0; have hfz141_1 := blk_frozen BK160.out 1) | ((with_reducible refine gate_callee (f := 12) rfl ?_); refine goesL_ (some 49) rfl rfl Try.func12 (by kernel_rfl) rfl #[.agg #[.int .i64 a0_0, .int .i64 a0_1, .int .i64 a0_2, .int .i64 a0_3, .int .i64 a0_4, .int .i64 a0_5], .agg #[.int .i64 a1_0, .int .i64 a1_1], .int .i64 a2] rfl (by (try simp only [l_4, l_5, l_6]); first | done | rfl | (simp only [l_7, l_8]; rfl)) ?_; (with_reducible refine (slice_Heads.calls a0_0 a0_1 a0_2 a0_3 a0_4 a0_5 a1_0 a1_1 a2 t169 t170 t171 _ A35.out).mono ?_); rintro e w142 ⟨rfl, hb⟩; refine ⟨_, rfl, ?_⟩; have n0_ := Aside0.mk (blk_below (g := gb159) (o := .cells #[.int .i64 a0_0, .int .i64 a0_1, .int .i64 a0_2, .int .i64 a0_3, .int .i64 a0_4, .int .i64 a0_5] 23 (0, 0)) (by (with_reducible repeat (first | refine k_n ?_ _ | refine k_d ?_ | refine k_a ?_ _)); refine blk_far ?_ NB159_168.out _; (with_reducible repeat (first | refine k_n ?_ _ | refine k_d ?_ | refine k_a ?_ _)); refine blk_far ?_ NB159_168.out _; (with_reducible repeat (first | refine k_n ?_ _ | refine k_d ?_ | refine k_a ?_ _)); exact BK159.out) hb); have n1_ := Aside0.mk (blk_below (g := gb160) (o := .cells #[.int .i64 a1_0, .int .i64 a1_1] 25 (0, 0)) (by (with_reducible repeat (first | refine k_n ?_ _ | refine k_d ?_ | refine k_a ?_ _)); refine blk_far ?_ NB160_168.out _; (with_reducible repeat (first | refine k_n ?_ _ | refine k_d ?_ | refine k_a ?_ _)); refine blk_far ?_ NB160_168.out _; (with_reducible repeat (first | refine k_n ?_ _ | refine k_d ?_ | refine k_a ?_ _)); exact BK160.out) hb); have n2_ := Aside0.mk (blk_below (g := gb168) (o := .cells #[.int .i64 t165, .int .i64 t166] 29 (0, 0)) (by (with_reducible repeat (first | refine k_n ?_ _ | refine k_d ?_ | refine k_a ?_ _)); refine blk_put (cs := #[.int .i64 t165, .int .i64 0]) ?_ 1 _ rfl; (with_reducible repeat (first | refine k_n ?_ _ | refine k_d ?_ | refine k_a ?_ _)); refine blk_put (cs := #[.int .i64 0, .int .i64 0]) ?_ 0 _ rfl; (with_reducible repeat (first | refine k_n ?_ _ | refine k_d ?_ | refine k_a ?_ _)); exact BK168.out) hb); have n3_ := Aside0.mk (below_step (by repeat (first | (with_reducible first | exact HB.out | apply b_a | apply b_n | apply b_d | refine b_s ?_ GE159.out | refine b_s ?_ GE160.out | refine b_s ?_ GE168.out) | exact HB.out)) hb); clear BK159; clear BK160; clear BK168; clear HB; have BK159 := n0_; have BK160 := n1_; have BK168 := n2_; have HB := n3_; clear n0_ n1_ n2_ n3_; (try clear hb); (try clear hb2); (try clear hk); (try clear hi)) | ((with_reducible refine gate_dst (N := 11) rfl ?_); refine box_event ?hg (N := 11) ?hd (cs := #[.int .i64 0, .int .i64 0]) (t := 29) ?hr ?_; (case hd => rfl); (case hg => rfl); (case hr => first | (go_simp; done) | (go_simp; rfl)); intro gb172 hg w143 hbox hb; have n0_ := Aside0.mk (blk_below (g := gb159) (o := .cells #[.int .i64 a0_0, .int .i64 a0_1, .int .i64 a0_2, .int .i64 a0_3, .int .i64 a0_4, .int .i64 a0_5] 23 (0, 0)) (by (with_reducible repeat (first | refine k_n ?_ _ | refine k_d ?_ | refine k_a ?_ _)); exact BK159.out) hb); have n1_ := Aside0.mk (blk_below (g := gb160) (o := .cells #[.int .i64 a1_0, .int .i64 a1_1] 25 (0, 0)) (by (with_reducible repeat (first | refine k_n ?_ _ | refine k_d ?_ | refine k_a ?_ _)); exact BK160.out) hb); have n2_ := Aside0.mk (blk_below (g := gb168) (o := .cells #[.int .i64 t165, .int .i64 t166] 29 (0, 0)) (by (with_reducible repeat (first | refine k_n ?_ _ | refine k_d ?_ | refine k_a ?_ _)); exact BK168.out) hb); have n3_ := Aside0.mk (below_step (by repeat (first | (with_reducible first | exact HB.out | apply b_a | apply b_n | apply b_d | refine b_s ?_ GE159.out | refine b_s ?_ GE160.out | refine b_s ?_ GE168.out) | exact HB.out)) hb); have n4_ := Aside0.mk (hbox); have n5_ := Aside0.mk ((by rw [hg]; exact (below_size (by repeat (first | (with_reducible first | exact HB.out | apply b_a | apply b_n | apply b_d | refine b_s ?_ GE159.out | refine b_s ?_ GE160.out | refine b_s ?_ GE168.out) | exact HB.out))) : w.heap.size ≤ gb172)); have n6_ := Aside0.mk ((by rw [hg]; exact (below_size (by repeat (first | (with_reducible first | exact HB.out | apply b_a | apply b_n | apply b_d | refine b_s ?_ GE159.out | refine b_s ?_ GE160.out | refine b_s ?_ GE168.out) | exact HB.out))) : w.heap.size ≤ gb172)); have n7_ := Aside0.mk ((by rw [hg]; exact Nat.ne_of_lt (blk_lt (g := gb159) (o := .cells #[.int .i64 a0_0, .int .i64 a0_1, .int .i64 a0_2, .int .i64 a0_3, .int .i64 a0_4, .int .i64 a0_5] 23 (0, 0)) (by (with_reducible repeat (first | refine k_n ?_ _ | refine k_d ?_ | refine k_a ?_ _)); exact BK159.out)) : gb159 ≠ gb172)); have n8_ := Aside0.mk ((by rw [hg]; exact Nat.ne_of_gt (blk_lt (g := gb159) (o := .cells #[.int .i64 a0_0, .int .i64 a0_1, .int .i64 a0_2, .int .i64 a0_3, .int .i64 a0_4, .int .i64 a0_5] 23 (0, 0)) (by (with_reducible repeat (first | refine k_n ?_ _ | refine k_d ?_ | refine k_a ?_ _)); exact BK159.out)) : gb172 ≠ gb159)); have n9_ := Aside0.mk ((by rw [hg]; exact Nat.ne_of_lt (blk_lt (g := gb160) (o := .cells #[.int .i64 a1_0, .int .i64 a1_1] 25 (0, 0)) (by (with_reducible repeat (first | refine k_n ?_ _ | refine k_d ?_ | refine k_a ?_ _)); exact BK160.out)) : gb160 ≠ gb172)); have n10_ := Aside0.mk ((by rw [hg]; exact Nat.ne_of_gt (blk_lt (g := gb160) (o := .cells #[.int .i64 a1_0, .int .i64 a1_1] 25 (0, 0)) (by (with_reducible repeat (first | refine k_n ?_ _ | refine k_d ?_ | refine k_a ?_ _)); exact BK160.out)) : gb172 ≠ gb160)); have n11_ := Aside0.mk ((by rw [hg]; exact Nat.ne_of_lt (blk_lt (g := gb168) (o := .cells #[.int .i64 t165, .int .i64 t166] 29 (0, 0)) (by (with_reducible repeat (first | refine k_n ?_ _ | refine k_d ?_ | refine k_a ?_ _)); exact BK168.out)) : gb168 ≠ gb172)); have n12_ := Aside0.mk ((by rw [hg]; exact Nat.ne_of_gt (blk_lt (g := gb168) (o := .cells #[.int .i64 t165, .int .i64 t166] 29 (0, 0)) (by (with_reducible repeat (first | refine k_n ?_ _ | refine k_d ?_ | refine k_a ?_ _)); exact BK168.out)) : gb172 ≠ gb168)); clear BK159; clear BK160; clear BK168; clear HB; have BK159 := n0_; have BK160 := n1_; have BK168 := n2_; have HB := n3_; have BK172 := n4_; have GW172 := n5_; have GE172 := n6_; have NB159_172 := n7_; have NB172_159 := n8_; have NB160_172 := n9_; have NB172_160 := n10_; have NB168_172 := n11_; have NB172_168 := n12_; clear n0_ n1_ n2_ n3_ n4_ n5_ n6_ n7_ n8_ n9_ n10_ n11_ n12_; clear hb hbox hg; have hnb144 := NB172_159.out; have hnc144 := NB159_172.out; have hnb145 := NB172_160.out; have hnc145 := NB160_172.out; have hnb146 := NB172_168.out; have hnc146 := NB168_172.out; have hcz147_0 : w143.cell? ⟨gb172, 0, none⟩ = some (.int .i64 0) := (blk_cell BK172.out 0).trans rfl; have hcz147_1 : w143.cell? ⟨gb172, 1, none⟩ = some (.int .i64 0) := (blk_cell BK172.out 1).trans rfl; have hfz147_0 := blk_frozen BK172.out 0; have hfz147_1 := blk_frozen BK172.out 1; have hcz148_0 : w143.cell? ⟨gb159, 0, none⟩ = some (.int .i64 a0_0) := (blk_cell BK159.out 0).trans rfl; have hcz148_1 : w143.cell? ⟨gb159, 1, none⟩ = some (.int .i64 a0_1) := (blk_cell BK159.out 1).trans rfl; have hcz148_2 : w143.cell? ⟨gb159, 2, none⟩ = some (.int .i64 a0_2) := (blk_cell BK159.out 2).trans rfl; have hcz148_3 : w143.cell? ⟨gb159, 3, none⟩ = some (.int .i64 a0_3) := (blk_cell BK159.out 3).trans rfl; have hcz148_4 : w143.cell? ⟨gb159, 4, none⟩ = some (.int .i64 a0_4) := (blk_cell BK159.out 4).trans rfl; have hcz148_5 : w143.cell? ⟨gb159, 5, none⟩ = some (.int .i64 a0_5) := (blk_cell BK159.out 5).trans rfl; have hfz148_0 := blk_frozen BK159.out 0; have hfz148_1 := blk_frozen BK159.out 1; have hfz148_2 := blk_frozen BK159.out 2; have hfz148_3 := blk_frozen BK159.out 3; have hfz148_4 := blk_frozen BK159.out 4; have hfz148_5 := blk_frozen BK159.out 5; have hcz149_0 : w143.cell? ⟨gb160, 0, none⟩ = some (.int .i64 a1_0) := (blk_cell BK160.out 0).trans rfl; have hcz149_1 : w143.cell? ⟨gb160, 1, none⟩ = some (.int .i64 a1_1) := (blk_cell BK160.out 1).trans rfl; have hfz149_0 := blk_frozen BK160.out 0; have hfz149_1 := blk_frozen BK160.out 1) | ((with_reducible refine gate_callee (f := 13) rfl ?_); refine goesL_ (some 56) rfl rfl Try.func13 (by kernel_rfl) rfl #[.agg #[.int .i64 a0_0, .int .i64 a0_1, .int .i64 a0_2, .int .i64 a0_3, .int .i64 a0_4, .int .i64 a0_5], .agg #[.int .i64 a1_0, .int .i64 a1_1], .int .i64 a2] rfl (by (try simp only [l_4, l_5, l_6]); first | done | rfl | (simp only [l_7, l_8]; rfl)) ?_; (with_reducible refine (slice_Inner.calls a0_0 a0_1 a0_2 a0_3 a0_4 a0_5 a1_0 a1_1 a2 t173 t174 t175 _ A36.out).mono ?_); rintro e w150 ⟨rfl, hb⟩; refine ⟨_, rfl, ?_⟩; have n0_ := Aside0.mk (blk_below (g := gb159) (o := .cells #[.int .i64 a0_0, .int .i64 a0_1, .int .i64 a0_2, .int .i64 a0_3, .int .i64 a0_4, .int .i64 a0_5] 23 (0, 0)) (by (with_reducible repeat (first | refine k_n ?_ _ | refine k_d ?_ | refine k_a ?_ _)); refine blk_far ?_ NB159_172.out _; (with_reducible repeat (first | refine k_n ?_ _ | refine k_d ?_ | refine k_a ?_ _)); refine blk_far ?_ NB159_172.out _; (with_reducible repeat (first | refine k_n ?_ _ | refine k_d ?_ | refine k_a ?_ _)); exact BK159.out) hb); have n1_ := Aside0.mk (blk_below (g := gb160) (o := .cells #[.int .i64 a1_0, .int .i64 a1_1] 25 (0, 0)) (by (with_reducible repeat (first | refine k_n ?_ _ | refine k_d ?_ | refine k_a ?_ _)); refine blk_far ?_ NB160_172.out _; (with_reducible repeat (first | refine k_n ?_ _ | refine k_d ?_ | refine k_a ?_ _)); refine blk_far ?_ NB160_172.out _; (with_reducible repeat (first | refine k_n ?_ _ | refine k_d ?_ | refine k_a ?_ _)); exact BK160.out) hb); have n2_ := Aside0.mk (blk_below (g := gb168) (o := .cells #[.int .i64 t165, .int .i64 t166] 29 (0, 0)) (by (with_reducible repeat (first | refine k_n ?_ _ | refine k_d ?_ | refine k_a ?_ _)); refine blk_far ?_ NB168_172.out _; (with_reducible repeat (first | refine k_n ?_ _ | refine k_d ?_ | refine k_a ?_ _)); refine blk_far ?_ NB168_172.out _; (with_reducible repeat (first | refine k_n ?_ _ | refine k_d ?_ | refine k_a ?_ _)); exact BK168.out) hb); have n3_ := Aside0.mk (blk_below (g := gb172) (o := .cells #[.int .i64 t169, .int .i64 t170] 29 (0, 0)) (by (with_reducible repeat (first | refine k_n ?_ _ | refine k_d ?_ | refine k_a ?_ _)); refine blk_put (cs := #[.int .i64 t169, .int .i64 0]) ?_ 1 _ rfl; (with_reducible repeat (first | refine k_n ?_ _ | refine k_d ?_ | refine k_a ?_ _)); refine blk_put (cs := #[.int .i64 0, .int .i64 0]) ?_ 0 _ rfl; (with_reducible repeat (first | refine k_n ?_ _ | refine k_d ?_ | refine k_a ?_ _)); exact BK172.out) hb); have n4_ := Aside0.mk (below_step (by repeat (first | (with_reducible first | exact HB.out | apply b_a | apply b_n | apply b_d | refine b_s ?_ GE159.out | refine b_s ?_ GE160.out | refine b_s ?_ GE168.out | refine b_s ?_ GE172.out) | exact HB.out)) hb); clear BK159; clear BK160; clear BK168; clear BK172; clear HB; have BK159 := n0_; have BK160 := n1_; have BK168 := n2_; have BK172 := n3_; have HB := n4_; clear n0_ n1_ n2_ n3_ n4_; (try clear hb); (try clear hb2); (try clear hk); (try clear hi)) | ((with_reducible refine gate_dst (N := 13) rfl ?_); refine box_event ?hg (N := 13) ?hd (cs := #[.int .i64 0, .int .i64 0]) (t := 29) ?hr ?_; (case hd => rfl); (case hg => rfl); (case hr => first | (go_simp; done) | (go_simp; rfl)); intro gb176 hg w151 hbox hb; have n0_ := Aside0.mk (blk_below (g := gb159) (o := .cells #[.int .i64 a0_0, .int .i64 a0_1, .int .i64 a0_2, .int .i64 a0_3, .int .i64 a0_4, .int .i64 a0_5] 23 (0, 0)) (by (with_reducible repeat (first | refine k_n ?_ _ | refine k_d ?_ | refine k_a ?_ _)); exact BK159.out) hb); have n1_ := Aside0.mk (blk_below (g := gb160) (o := .cells #[.int .i64 a1_0, .int .i64 a1_1] 25 (0, 0)) (by (with_reducible repeat (first | refine k_n ?_ _ | refine k_d ?_ | refine k_a ?_ _)); exact BK160.out) hb); have n2_ := Aside0.mk (blk_below (g := gb168) (o := .cells #[.int .i64 t165, .int .i64 t166] 29 (0, 0)) (by (with_reducible repeat (first | refine k_n ?_ _ | refine k_d ?_ | refine k_a ?_ _)); exact BK168.out) hb); have n3_ := Aside0.mk (blk_below (g := gb172) (o := .cells #[.int .i64 t169, .int .i64 t170] 29 (0, 0)) (by (with_reducible repeat (first | refine k_n ?_ _ | refine k_d ?_ | refine k_a ?_ _)); exact BK172.out) hb); have n4_ := Aside0.mk (below_step (by repeat (first | (with_reducible first | exact HB.out | apply b_a | apply b_n | apply b_d | refine b_s ?_ GE159.out | refine b_s ?_ GE160.out | refine b_s ?_ GE168.out | refine b_s ?_ GE172.out) | exact HB.out)) hb); have n5_ := Aside0.mk (hbox); have n6_ := Aside0.mk ((by rw [hg]; exact (below_size (by repeat (first | (with_reducible first | exact HB.out | apply b_a | apply b_n | apply b_d | refine b_s ?_ GE159.out | refine b_s ?_ GE160.out | refine b_s ?_ GE168.out | refine b_s ?_ GE172.out) | exact HB.out))) : w.heap.size ≤ gb176)); have n7_ := Aside0.mk ((by rw [hg]; exact (below_size (by repeat (first | (with_reducible first | exact HB.out | apply b_a | apply b_n | apply b_d | refine b_s ?_ GE159.out | refine b_s ?_ GE160.out | refine b_s ?_ GE168.out | refine b_s ?_ GE172.out) | exact HB.out))) : w.heap.size ≤ gb176)); have n8_ := Aside0.mk ((by rw [hg]; exact Nat.ne_of_lt (blk_lt (g := gb159) (o := .cells #[.int .i64 a0_0, .int .i64 a0_1, .int .i64 a0_2, .int .i64 a0_3, .int .i64 a0_4, .int .i64 a0_5] 23 (0, 0)) (by (with_reducible repeat (first | refine k_n ?_ _ | refine k_d ?_ | refine k_a ?_ _)); exact BK159.out)) : gb159 ≠ gb176)); have n9_ := Aside0.mk ((by rw [hg]; exact Nat.ne_of_gt (blk_lt (g := gb159) (o := .cells #[.int .i64 a0_0, .int .i64 a0_1, .int .i64 a0_2, .int .i64 a0_3, .int .i64 a0_4, .int .i64 a0_5] 23 (0, 0)) (by (with_reducible repeat (first | refine k_n ?_ _ | refine k_d ?_ | refine k_a ?_ _)); exact BK159.out)) : gb176 ≠ gb159)); have n10_ := Aside0.mk ((by rw [hg]; exact Nat.ne_of_lt (blk_lt (g := gb160) (o := .cells #[.int .i64 a1_0, .int .i64 a1_1] 25 (0, 0)) (by (with_reducible repeat (first | refine k_n ?_ _ | refine k_d ?_ | refine k_a ?_ _)); exact BK160.out)) : gb160 ≠ gb176)); have n11_ := Aside0.mk ((by rw [hg]; exact Nat.ne_of_gt (blk_lt (g := gb160) (o := .cells #[.int .i64 a1_0, .int .i64 a1_1] 25 (0, 0)) (by (with_reducible repeat (first | refine k_n ?_ _ | refine k_d ?_ | refine k_a ?_ _)); exact BK160.out)) : gb176 ≠ gb160)); have n12_ := Aside0.mk ((by rw [hg]; exact Nat.ne_of_lt (blk_lt (g := gb168) (o := .cells #[.int .i64 t165, .int .i64 t166] 29 (0, 0)) (by (with_reducible repeat (first | refine k_n ?_ _ | refine k_d ?_ | refine k_a ?_ _)); exact BK168.out)) : gb168 ≠ gb176)); have n13_ := Aside0.mk ((by rw [hg]; exact Nat.ne_of_gt (blk_lt (g := gb168) (o := .cells #[.int .i64 t165, .int .i64 t166] 29 (0, 0)) (by (with_reducible repeat (first | refine k_n ?_ _ | refine k_d ?_ | refine k_a ?_ _)); exact BK168.out)) : gb176 ≠ gb168)); have n14_ := Aside0.mk ((by rw [hg]; exact Nat.ne_of_lt (blk_lt (g := gb172) (o := .cells #[.int .i64 t169, .int .i64 t170] 29 (0, 0)) (by (with_reducible repeat (first | refine k_n ?_ _ | refine k_d ?_ | refine k_a ?_ _)); exact BK172.out)) : gb172 ≠ gb176)); have n15_ := Aside0.mk ((by rw [hg]; exact Nat.ne_of_gt (blk_lt (g := gb172) (o := .cells #[.int .i64 t169, .int .i64 t170] 29 (0, 0)) (by (with_reducible repeat (first | refine k_n ?_ _ | refine k_d ?_ | refine k_a ?_ _)); exact BK172.out)) : gb176 ≠ gb172)); clear BK159; clear BK160; clear BK168; clear BK172; clear HB; have BK159 := n0_; have BK160 := n1_; have BK168 := n2_; have BK172 := n3_; have HB := n4_; have BK176 := n5_; have GW176 := n6_; have GE176 := n7_; have NB159_176 := n8_; have NB176_159 := n9_; have NB160_176 := n10_; have NB176_160 := n11_; have NB168_176 := n12_; have NB176_168 := n13_; have NB172_176 := n14_; have NB176_172 := n15_; clear n0_ n1_ n2_ n3_ n4_ n5_ n6_ n7_ n8_ n9_ n10_ n11_ n12_ n13_ n14_ n15_; clear hb hbox hg; have hnb152 := NB176_159.out; have hnc152 := NB159_176.out; have hnb153 := NB176_160.out; have hnc153 := NB160_176.out; have hnb154 := NB176_168.out; have hnc154 := NB168_176.out; have hnb155 := NB176_172.out; have hnc155 := NB172_176.out; have hcz156_0 : w151.cell? ⟨gb176, 0, none⟩ = some (.int .i64 0) := (blk_cell BK176.out 0).trans rfl; have hcz156_1 : w151.cell? ⟨gb176, 1, none⟩ = some (.int .i64 0) := (blk_cell BK176.out 1).trans rfl; have hfz156_0 := blk_frozen BK176.out 0; have hfz156_1 := blk_frozen BK176.out 1))
      (try simp only [Act.put, l_1, l_2, l_3])
      go_cut [6] (fun v6 wc => ∃ (kq : Nat) (x6_130 : Bool), v6 = .bool x6_130 ∧ Aside0 (pelotonlaw10_SliceCuts.j2 kq x6_130 = some r) ∧ Aside0 (kq ≤ kj17) ∧ Aside0 (wc.heap[gb159]? = some (.cells #[.int .i64 a0_0, .int .i64 a0_1, .int .i64 a0_2, .int .i64 a0_3, .int .i64 a0_4, .int .i64 a0_5] 23 (0, 0))) ∧ Aside0 (wc.heap[gb160]? = some (.cells #[.int .i64 a1_0, .int .i64 a1_1] 25 (0, 0))) ∧ Aside0 (wc.heap[gb168]? = some (.cells #[.int .i64 t165, .int .i64 t166] 29 (0, 0))) ∧ Aside0 (wc.heap[gb172]? = some (.cells #[.int .i64 t169, .int .i64 t170] 29 (0, 0))) ∧ Aside0 (wc.heap[gb176]? = some (.cells #[.int .i64 t173, .int .i64 t174] 29 (0, 0))) ∧ Aside0 (Below w.heap.size w wc))
      case first =>
       have H := HC131.out
       clear HC131
       by_cases c157 : t167 = 100
       rotate_left
       ·
        rw [if_neg c157] at H
        have c157b0 : (t167 == 100) = false := beq_eq_false_iff_ne.mpr c157
        have c157b1 : (t167 != 100) = true := bne_iff_ne.mpr c157
        (first | rw [c157b0] | (simp only [i64_w, i32_w]; rw [c157b0]) | skip)
        have H' := Aside0.mk H
        clear H
        go_wp2
        go_meet
        case rel => exact ⟨_, (false), (by first | rfl | (simp; done) | (simp [*]; done)), H', ⟨by have := HJ6.out; have := HJ17.out; first | omega | exact Nat.le_refl _⟩, ⟨by (with_reducible repeat (first | refine k_n ?_ _ | refine k_d ?_ | refine k_a ?_ _)); refine blk_far ?_ NB159_176.out _; (with_reducible repeat (first | refine k_n ?_ _ | refine k_d ?_ | refine k_a ?_ _)); refine blk_far ?_ NB159_176.out _; (with_reducible repeat (first | refine k_n ?_ _ | refine k_d ?_ | refine k_a ?_ _)); exact BK159.out⟩, ⟨by (with_reducible repeat (first | refine k_n ?_ _ | refine k_d ?_ | refine k_a ?_ _)); refine blk_far ?_ NB160_176.out _; (with_reducible repeat (first | refine k_n ?_ _ | refine k_d ?_ | refine k_a ?_ _)); refine blk_far ?_ NB160_176.out _; (with_reducible repeat (first | refine k_n ?_ _ | refine k_d ?_ | refine k_a ?_ _)); exact BK160.out⟩, ⟨by (with_reducible repeat (first | refine k_n ?_ _ | refine k_d ?_ | refine k_a ?_ _)); refine blk_far ?_ NB168_176.out _; (with_reducible repeat (first | refine k_n ?_ _ | refine k_d ?_ | refine k_a ?_ _)); refine blk_far ?_ NB168_176.out _; (with_reducible repeat (first | refine k_n ?_ _ | refine k_d ?_ | refine k_a ?_ _)); exact BK168.out⟩, ⟨by (with_reducible repeat (first | refine k_n ?_ _ | refine k_d ?_ | refine k_a ?_ _)); refine blk_far ?_ NB172_176.out _; (with_reducible repeat (first | refine k_n ?_ _ | refine k_d ?_ | refine k_a ?_ _)); refine blk_far ?_ NB172_176.out _; (with_reducible repeat (first | refine k_n ?_ _ | refine k_d ?_ | refine k_a ?_ _)); exact BK172.out⟩, ⟨by (with_reducible repeat (first | refine k_n ?_ _ | refine k_d ?_ | refine k_a ?_ _)); refine blk_put (cs := #[.int .i64 t173, .int .i64 0]) ?_ 1 _ rfl; (with_reducible repeat (first | refine k_n ?_ _ | refine k_d ?_ | refine k_a ?_ _)); refine blk_put (cs := #[.int .i64 0, .int .i64 0]) ?_ 0 _ rfl; (with_reducible repeat (first | refine k_n ?_ _ | refine k_d ?_ | refine k_a ?_ _)); exact BK176.out⟩, ⟨by repeat (first | (with_reducible first | exact HB.out | apply b_a | apply b_n | apply b_d | refine b_s ?_ GE159.out | refine b_s ?_ GE160.out | refine b_s ?_ GE168.out | refine b_s ?_ GE172.out | refine b_s ?_ GE176.out) | exact HB.out)⟩⟩
       rw [if_pos c157] at H
       have c157b0 : (t167 == 100) = true := beq_iff_eq.mpr c157
       have c157b1 : (t167 != 100) = false := bne_eq_false_iff_eq.mpr c157
       clear c157
       (first | rw [c157b0] | (simp only [i64_w, i32_w]; rw [c157b0]) | skip)
       by_cases c158 : t171 = 100
       rotate_left
       ·
        rw [if_neg c158] at H
        have c158b0 : (t171 == 100) = false := beq_eq_false_iff_ne.mpr c158
        have c158b1 : (t171 != 100) = true := bne_iff_ne.mpr c158
        have H' := Aside0.mk H
        clear H
        go_wp2
        go_meet
        case rel => exact ⟨_, (false), (by first | rfl | (simp; done) | (simp [*]; done)), H', ⟨by have := HJ6.out; have := HJ17.out; first | omega | exact Nat.le_refl _⟩, ⟨by (with_reducible repeat (first | refine k_n ?_ _ | refine k_d ?_ | refine k_a ?_ _)); refine blk_far ?_ NB159_176.out _; (with_reducible repeat (first | refine k_n ?_ _ | refine k_d ?_ | refine k_a ?_ _)); refine blk_far ?_ NB159_176.out _; (with_reducible repeat (first | refine k_n ?_ _ | refine k_d ?_ | refine k_a ?_ _)); exact BK159.out⟩, ⟨by (with_reducible repeat (first | refine k_n ?_ _ | refine k_d ?_ | refine k_a ?_ _)); refine blk_far ?_ NB160_176.out _; (with_reducible repeat (first | refine k_n ?_ _ | refine k_d ?_ | refine k_a ?_ _)); refine blk_far ?_ NB160_176.out _; (with_reducible repeat (first | refine k_n ?_ _ | refine k_d ?_ | refine k_a ?_ _)); exact BK160.out⟩, ⟨by (with_reducible repeat (first | refine k_n ?_ _ | refine k_d ?_ | refine k_a ?_ _)); refine blk_far ?_ NB168_176.out _; (with_reducible repeat (first | refine k_n ?_ _ | refine k_d ?_ | refine k_a ?_ _)); refine blk_far ?_ NB168_176.out _; (with_reducible repeat (first | refine k_n ?_ _ | refine k_d ?_ | refine k_a ?_ _)); exact BK168.out⟩, ⟨by (with_reducible repeat (first | refine k_n ?_ _ | refine k_d ?_ | refine k_a ?_ _)); refine blk_far ?_ NB172_176.out _; (with_reducible repeat (first | refine k_n ?_ _ | refine k_d ?_ | refine k_a ?_ _)); refine blk_far ?_ NB172_176.out _; (with_reducible repeat (first | refine k_n ?_ _ | refine k_d ?_ | refine k_a ?_ _)); exact BK172.out⟩, ⟨by (with_reducible repeat (first | refine k_n ?_ _ | refine k_d ?_ | refine k_a ?_ _)); refine blk_put (cs := #[.int .i64 t173, .int .i64 0]) ?_ 1 _ rfl; (with_reducible repeat (first | refine k_n ?_ _ | refine k_d ?_ | refine k_a ?_ _)); refine blk_put (cs := #[.int .i64 0, .int .i64 0]) ?_ 0 _ rfl; (with_reducible repeat (first | refine k_n ?_ _ | refine k_d ?_ | refine k_a ?_ _)); exact BK176.out⟩, ⟨by repeat (first | (with_reducible first | exact HB.out | apply b_a | apply b_n | apply b_d | refine b_s ?_ GE159.out | refine b_s ?_ GE160.out | refine b_s ?_ GE168.out | refine b_s ?_ GE172.out | refine b_s ?_ GE176.out) | exact HB.out)⟩⟩
       rw [if_pos c158] at H
       have c158b0 : (t171 == 100) = true := beq_iff_eq.mpr c158
       have c158b1 : (t171 != 100) = false := bne_eq_false_iff_eq.mpr c158
       clear c158
       by_cases c159 : t175 = 100
       rotate_left
       ·
        rw [if_neg c159] at H
        have c159b0 : (t175 == 100) = false := beq_eq_false_iff_ne.mpr c159
        have c159b1 : (t175 != 100) = true := bne_iff_ne.mpr c159
        have H' := Aside0.mk H
        clear H
        go_wp2
        go_meet
        case rel => exact ⟨_, (false), (by first | rfl | (simp; done) | (simp [*]; done)), H', ⟨by have := HJ6.out; have := HJ17.out; first | omega | exact Nat.le_refl _⟩, ⟨by (with_reducible repeat (first | refine k_n ?_ _ | refine k_d ?_ | refine k_a ?_ _)); refine blk_far ?_ NB159_176.out _; (with_reducible repeat (first | refine k_n ?_ _ | refine k_d ?_ | refine k_a ?_ _)); refine blk_far ?_ NB159_176.out _; (with_reducible repeat (first | refine k_n ?_ _ | refine k_d ?_ | refine k_a ?_ _)); exact BK159.out⟩, ⟨by (with_reducible repeat (first | refine k_n ?_ _ | refine k_d ?_ | refine k_a ?_ _)); refine blk_far ?_ NB160_176.out _; (with_reducible repeat (first | refine k_n ?_ _ | refine k_d ?_ | refine k_a ?_ _)); refine blk_far ?_ NB160_176.out _; (with_reducible repeat (first | refine k_n ?_ _ | refine k_d ?_ | refine k_a ?_ _)); exact BK160.out⟩, ⟨by (with_reducible repeat (first | refine k_n ?_ _ | refine k_d ?_ | refine k_a ?_ _)); refine blk_far ?_ NB168_176.out _; (with_reducible repeat (first | refine k_n ?_ _ | refine k_d ?_ | refine k_a ?_ _)); refine blk_far ?_ NB168_176.out _; (with_reducible repeat (first | refine k_n ?_ _ | refine k_d ?_ | refine k_a ?_ _)); exact BK168.out⟩, ⟨by (with_reducible repeat (first | refine k_n ?_ _ | refine k_d ?_ | refine k_a ?_ _)); refine blk_far ?_ NB172_176.out _; (with_reducible repeat (first | refine k_n ?_ _ | refine k_d ?_ | refine k_a ?_ _)); refine blk_far ?_ NB172_176.out _; (with_reducible repeat (first | refine k_n ?_ _ | refine k_d ?_ | refine k_a ?_ _)); exact BK172.out⟩, ⟨by (with_reducible repeat (first | refine k_n ?_ _ | refine k_d ?_ | refine k_a ?_ _)); refine blk_put (cs := #[.int .i64 t173, .int .i64 0]) ?_ 1 _ rfl; (with_reducible repeat (first | refine k_n ?_ _ | refine k_d ?_ | refine k_a ?_ _)); refine blk_put (cs := #[.int .i64 0, .int .i64 0]) ?_ 0 _ rfl; (with_reducible repeat (first | refine k_n ?_ _ | refine k_d ?_ | refine k_a ?_ _)); exact BK176.out⟩, ⟨by repeat (first | (with_reducible first | exact HB.out | apply b_a | apply b_n | apply b_d | refine b_s ?_ GE159.out | refine b_s ?_ GE160.out | refine b_s ?_ GE168.out | refine b_s ?_ GE172.out | refine b_s ?_ GE176.out) | exact HB.out)⟩⟩
       rw [if_pos c159] at H
       have c159b0 : (t175 == 100) = true := beq_iff_eq.mpr c159
       have c159b1 : (t175 != 100) = false := bne_eq_false_iff_eq.mpr c159
       clear c159
       by_cases c160 : (t165 == 0 && (t166 == 0)) = true
       rotate_left
       ·
        rw [if_neg c160] at H
        have c160b0 : (t165 == 0 && (t166 == 0)) = false := by simpa using c160
        (try (have c160b1 : decide (t165 = 0 && (t166 == 0)) = false := by simpa using c160))
        (try (have c160b2 : (t165 == 0 && (t166 == 0)) = false := by simpa using c160))
        (try (have c160b3 : ¬ (t165 = 0 && (t166 == 0)) := by simpa using c160))
        clear c160
        have H' := Aside0.mk H
        clear H
        have hnb183 := NB168_159.out
        have hnc183 := NB159_168.out
        have hnb184 := NB168_160.out
        have hnc184 := NB160_168.out
        have hnb185 := NB168_172.out
        have hnc185 := NB172_168.out
        have hnb186 := NB168_176.out
        have hnc186 := NB176_168.out
        have hcz187_0 : w151.cell? ⟨gb168, 0, none⟩ = some (.int .i64 t165) := (blk_cell BK168.out 0).trans rfl
        have hcz187_1 : w151.cell? ⟨gb168, 1, none⟩ = some (.int .i64 t166) := (blk_cell BK168.out 1).trans rfl
        have hfz187_0 := blk_frozen BK168.out 0
        have hfz187_1 := blk_frozen BK168.out 1
        go_wp2
        go_meet
        case rel => exact ⟨_, (false), (by first | rfl | (simp; done) | (simp [*]; done)), H', ⟨by have := HJ6.out; have := HJ17.out; first | omega | exact Nat.le_refl _⟩, ⟨by (with_reducible repeat (first | refine k_n ?_ _ | refine k_d ?_ | refine k_a ?_ _)); refine blk_far ?_ NB159_176.out _; (with_reducible repeat (first | refine k_n ?_ _ | refine k_d ?_ | refine k_a ?_ _)); refine blk_far ?_ NB159_176.out _; (with_reducible repeat (first | refine k_n ?_ _ | refine k_d ?_ | refine k_a ?_ _)); exact BK159.out⟩, ⟨by (with_reducible repeat (first | refine k_n ?_ _ | refine k_d ?_ | refine k_a ?_ _)); refine blk_far ?_ NB160_176.out _; (with_reducible repeat (first | refine k_n ?_ _ | refine k_d ?_ | refine k_a ?_ _)); refine blk_far ?_ NB160_176.out _; (with_reducible repeat (first | refine k_n ?_ _ | refine k_d ?_ | refine k_a ?_ _)); exact BK160.out⟩, ⟨by (with_reducible repeat (first | refine k_n ?_ _ | refine k_d ?_ | refine k_a ?_ _)); refine blk_far ?_ NB168_176.out _; (with_reducible repeat (first | refine k_n ?_ _ | refine k_d ?_ | refine k_a ?_ _)); refine blk_far ?_ NB168_176.out _; (with_reducible repeat (first | refine k_n ?_ _ | refine k_d ?_ | refine k_a ?_ _)); exact BK168.out⟩, ⟨by (with_reducible repeat (first | refine k_n ?_ _ | refine k_d ?_ | refine k_a ?_ _)); refine blk_far ?_ NB172_176.out _; (with_reducible repeat (first | refine k_n ?_ _ | refine k_d ?_ | refine k_a ?_ _)); refine blk_far ?_ NB172_176.out _; (with_reducible repeat (first | refine k_n ?_ _ | refine k_d ?_ | refine k_a ?_ _)); exact BK172.out⟩, ⟨by (with_reducible repeat (first | refine k_n ?_ _ | refine k_d ?_ | refine k_a ?_ _)); refine blk_put (cs := #[.int .i64 t173, .int .i64 0]) ?_ 1 _ rfl; (with_reducible repeat (first | refine k_n ?_ _ | refine k_d ?_ | refine k_a ?_ _)); refine blk_put (cs := #[.int .i64 0, .int .i64 0]) ?_ 0 _ rfl; (with_reducible repeat (first | refine k_n ?_ _ | refine k_d ?_ | refine k_a ?_ _)); exact BK176.out⟩, ⟨by repeat (first | (with_reducible first | exact HB.out | apply b_a | apply b_n | apply b_d | refine b_s ?_ GE159.out | refine b_s ?_ GE160.out | refine b_s ?_ GE168.out | refine b_s ?_ GE172.out | refine b_s ?_ GE176.out) | exact HB.out)⟩⟩
       rw [if_pos c160] at H
       have c160b0 : (t165 == 0 && (t166 == 0)) = true := c160
       (try (have c160b1 : decide (t165 = 0 && (t166 == 0)) = true := by simpa using c160))
       (try (have c160b2 : (t165 == 0 && (t166 == 0)) = true := by simpa using c160))
       clear c160
       by_cases c161 : (t169 == 0 && (t170 == 0)) = true
       rotate_left
       ·
        rw [if_neg c161] at H
        have c161b0 : (t169 == 0 && (t170 == 0)) = false := by simpa using c161
        (try (have c161b1 : decide (t169 = 0 && (t170 == 0)) = false := by simpa using c161))
        (try (have c161b2 : (t169 == 0 && (t170 == 0)) = false := by simpa using c161))
        (try (have c161b3 : ¬ (t169 = 0 && (t170 == 0)) := by simpa using c161))
        clear c161
        have H' := Aside0.mk H
        clear H
        have hnb174 := NB168_159.out
        have hnc174 := NB159_168.out
        have hnb175 := NB168_160.out
        have hnc175 := NB160_168.out
        have hnb176 := NB168_172.out
        have hnc176 := NB172_168.out
        have hnb177 := NB168_176.out
        have hnc177 := NB176_168.out
        have hcz178_0 : w151.cell? ⟨gb168, 0, none⟩ = some (.int .i64 t165) := (blk_cell BK168.out 0).trans rfl
        have hcz178_1 : w151.cell? ⟨gb168, 1, none⟩ = some (.int .i64 t166) := (blk_cell BK168.out 1).trans rfl
        have hfz178_0 := blk_frozen BK168.out 0
        have hfz178_1 := blk_frozen BK168.out 1
        have hnb179 := NB172_159.out
        have hnc179 := NB159_172.out
        have hnb180 := NB172_160.out
        have hnc180 := NB160_172.out
        have hnb181 := NB172_176.out
        have hnc181 := NB176_172.out
        have hcz182_0 : w151.cell? ⟨gb172, 0, none⟩ = some (.int .i64 t169) := (blk_cell BK172.out 0).trans rfl
        have hcz182_1 : w151.cell? ⟨gb172, 1, none⟩ = some (.int .i64 t170) := (blk_cell BK172.out 1).trans rfl
        have hfz182_0 := blk_frozen BK172.out 0
        have hfz182_1 := blk_frozen BK172.out 1
        go_wp2
        go_meet
        case rel => exact ⟨_, (false), (by first | rfl | (simp; done) | (simp [*]; done)), H', ⟨by have := HJ6.out; have := HJ17.out; first | omega | exact Nat.le_refl _⟩, ⟨by (with_reducible repeat (first | refine k_n ?_ _ | refine k_d ?_ | refine k_a ?_ _)); refine blk_far ?_ NB159_176.out _; (with_reducible repeat (first | refine k_n ?_ _ | refine k_d ?_ | refine k_a ?_ _)); refine blk_far ?_ NB159_176.out _; (with_reducible repeat (first | refine k_n ?_ _ | refine k_d ?_ | refine k_a ?_ _)); exact BK159.out⟩, ⟨by (with_reducible repeat (first | refine k_n ?_ _ | refine k_d ?_ | refine k_a ?_ _)); refine blk_far ?_ NB160_176.out _; (with_reducible repeat (first | refine k_n ?_ _ | refine k_d ?_ | refine k_a ?_ _)); refine blk_far ?_ NB160_176.out _; (with_reducible repeat (first | refine k_n ?_ _ | refine k_d ?_ | refine k_a ?_ _)); exact BK160.out⟩, ⟨by (with_reducible repeat (first | refine k_n ?_ _ | refine k_d ?_ | refine k_a ?_ _)); refine blk_far ?_ NB168_176.out _; (with_reducible repeat (first | refine k_n ?_ _ | refine k_d ?_ | refine k_a ?_ _)); refine blk_far ?_ NB168_176.out _; (with_reducible repeat (first | refine k_n ?_ _ | refine k_d ?_ | refine k_a ?_ _)); exact BK168.out⟩, ⟨by (with_reducible repeat (first | refine k_n ?_ _ | refine k_d ?_ | refine k_a ?_ _)); refine blk_far ?_ NB172_176.out _; (with_reducible repeat (first | refine k_n ?_ _ | refine k_d ?_ | refine k_a ?_ _)); refine blk_far ?_ NB172_176.out _; (with_reducible repeat (first | refine k_n ?_ _ | refine k_d ?_ | refine k_a ?_ _)); exact BK172.out⟩, ⟨by (with_reducible repeat (first | refine k_n ?_ _ | refine k_d ?_ | refine k_a ?_ _)); refine blk_put (cs := #[.int .i64 t173, .int .i64 0]) ?_ 1 _ rfl; (with_reducible repeat (first | refine k_n ?_ _ | refine k_d ?_ | refine k_a ?_ _)); refine blk_put (cs := #[.int .i64 0, .int .i64 0]) ?_ 0 _ rfl; (with_reducible repeat (first | refine k_n ?_ _ | refine k_d ?_ | refine k_a ?_ _)); exact BK176.out⟩, ⟨by repeat (first | (with_reducible first | exact HB.out | apply b_a | apply b_n | apply b_d | refine b_s ?_ GE159.out | refine b_s ?_ GE160.out | refine b_s ?_ GE168.out | refine b_s ?_ GE172.out | refine b_s ?_ GE176.out) | exact HB.out)⟩⟩
       rw [if_pos c161] at H
       have c161b0 : (t169 == 0 && (t170 == 0)) = true := c161
       (try (have c161b1 : decide (t169 = 0 && (t170 == 0)) = true := by simpa using c161))
       (try (have c161b2 : (t169 == 0 && (t170 == 0)) = true := by simpa using c161))
       clear c161
       have H' := Aside0.mk H
       clear H
       have hnb162 := NB168_159.out
       have hnc162 := NB159_168.out
       have hnb163 := NB168_160.out
       have hnc163 := NB160_168.out
       have hnb164 := NB168_172.out
       have hnc164 := NB172_168.out
       have hnb165 := NB168_176.out
       have hnc165 := NB176_168.out
       have hcz166_0 : w151.cell? ⟨gb168, 0, none⟩ = some (.int .i64 t165) := (blk_cell BK168.out 0).trans rfl
       have hcz166_1 : w151.cell? ⟨gb168, 1, none⟩ = some (.int .i64 t166) := (blk_cell BK168.out 1).trans rfl
       have hfz166_0 := blk_frozen BK168.out 0
       have hfz166_1 := blk_frozen BK168.out 1
       have hnb167 := NB172_159.out
       have hnc167 := NB159_172.out
       have hnb168 := NB172_160.out
       have hnc168 := NB160_172.out
       have hnb169 := NB172_176.out
       have hnc169 := NB176_172.out
       have hcz170_0 : w151.cell? ⟨gb172, 0, none⟩ = some (.int .i64 t169) := (blk_cell BK172.out 0).trans rfl
       have hcz170_1 : w151.cell? ⟨gb172, 1, none⟩ = some (.int .i64 t170) := (blk_cell BK172.out 1).trans rfl
       have hfz170_0 := blk_frozen BK172.out 0
       have hfz170_1 := blk_frozen BK172.out 1
       have hnb171 := NB176_159.out
       have hnc171 := NB159_176.out
       have hnb172 := NB176_160.out
       have hnc172 := NB160_176.out
       have hcz173_0 : w151.cell? ⟨gb176, 0, none⟩ = some (.int .i64 0) := (blk_cell BK176.out 0).trans rfl
       have hcz173_1 : w151.cell? ⟨gb176, 1, none⟩ = some (.int .i64 0) := (blk_cell BK176.out 1).trans rfl
       have hfz173_0 := blk_frozen BK176.out 0
       have hfz173_1 := blk_frozen BK176.out 1
       go_wp2
       go_meet
       case rel => exact ⟨_, ((t173 == 0 && (t174 == 0))), (by first | rfl | (simp; done) | (simp [*]; done)), H', ⟨by have := HJ6.out; have := HJ17.out; first | omega | exact Nat.le_refl _⟩, ⟨by (with_reducible repeat (first | refine k_n ?_ _ | refine k_d ?_ | refine k_a ?_ _)); refine blk_far ?_ NB159_176.out _; (with_reducible repeat (first | refine k_n ?_ _ | refine k_d ?_ | refine k_a ?_ _)); refine blk_far ?_ NB159_176.out _; (with_reducible repeat (first | refine k_n ?_ _ | refine k_d ?_ | refine k_a ?_ _)); exact BK159.out⟩, ⟨by (with_reducible repeat (first | refine k_n ?_ _ | refine k_d ?_ | refine k_a ?_ _)); refine blk_far ?_ NB160_176.out _; (with_reducible repeat (first | refine k_n ?_ _ | refine k_d ?_ | refine k_a ?_ _)); refine blk_far ?_ NB160_176.out _; (with_reducible repeat (first | refine k_n ?_ _ | refine k_d ?_ | refine k_a ?_ _)); exact BK160.out⟩, ⟨by (with_reducible repeat (first | refine k_n ?_ _ | refine k_d ?_ | refine k_a ?_ _)); refine blk_far ?_ NB168_176.out _; (with_reducible repeat (first | refine k_n ?_ _ | refine k_d ?_ | refine k_a ?_ _)); refine blk_far ?_ NB168_176.out _; (with_reducible repeat (first | refine k_n ?_ _ | refine k_d ?_ | refine k_a ?_ _)); exact BK168.out⟩, ⟨by (with_reducible repeat (first | refine k_n ?_ _ | refine k_d ?_ | refine k_a ?_ _)); refine blk_far ?_ NB172_176.out _; (with_reducible repeat (first | refine k_n ?_ _ | refine k_d ?_ | refine k_a ?_ _)); refine blk_far ?_ NB172_176.out _; (with_reducible repeat (first | refine k_n ?_ _ | refine k_d ?_ | refine k_a ?_ _)); exact BK172.out⟩, ⟨by (with_reducible repeat (first | refine k_n ?_ _ | refine k_d ?_ | refine k_a ?_ _)); refine blk_put (cs := #[.int .i64 t173, .int .i64 0]) ?_ 1 _ rfl; (with_reducible repeat (first | refine k_n ?_ _ | refine k_d ?_ | refine k_a ?_ _)); refine blk_put (cs := #[.int .i64 0, .int .i64 0]) ?_ 0 _ rfl; (with_reducible repeat (first | refine k_n ?_ _ | refine k_d ?_ | refine k_a ?_ _)); exact BK176.out⟩, ⟨by repeat (first | (with_reducible first | exact HB.out | apply b_a | apply b_n | apply b_d | refine b_s ?_ GE159.out | refine b_s ?_ GE160.out | refine b_s ?_ GE168.out | refine b_s ?_ GE172.out | refine b_s ?_ GE176.out) | exact HB.out)⟩⟩
      case rest => as_aux_lemma =>
       clear HC131
       try clear c1
       try clear p2
       try clear c3
       try clear c11
       try clear c12
       try clear c13
       try clear c14
       try clear c15
       try clear c16
       try clear c17
       try clear c18
       try clear c37
       try clear c119
       try clear c119b0
       try clear c119b1
       try clear c120
       try clear c120b0
       try clear c120b1
       try clear c132
       try clear c137
       try clear c138
       try clear c144
       try clear c145
       try clear c146
       try clear c152
       try clear c153
       try clear c154
       try clear c155
       try clear c157
       try clear c157b0
       try clear c157b1
       try clear c158
       try clear c158b0
       try clear c158b1
       try clear c159
       try clear c159b0
       try clear c159b1
       try clear c160
       try clear c160b0
       try clear c160b1
       try clear c160b2
       try clear c161
       try clear c161b0
       try clear c161b1
       try clear c161b2
       try clear c162
       try clear c163
       try clear c164
       try clear c165
       try clear c167
       try clear c168
       try clear c169
       try clear c171
       try clear c172
       try clear c174
       try clear c175
       try clear c176
       try clear c177
       try clear c179
       try clear c180
       try clear c181
       try clear c183
       try clear c184
       try clear c185
       try clear c186
       try clear hcz133_0
       try clear hcz133_1
       try clear hcz133_2
       try clear hcz133_3
       try clear hcz133_4
       try clear hcz133_5
       try clear hcz134_0
       try clear hcz134_1
       try clear hcz139_0
       try clear hcz139_1
       try clear hcz140_0
       try clear hcz140_1
       try clear hcz140_2
       try clear hcz140_3
       try clear hcz140_4
       try clear hcz140_5
       try clear hcz141_0
       try clear hcz141_1
       try clear hcz147_0
       try clear hcz147_1
       try clear hcz148_0
       try clear hcz148_1
       try clear hcz148_2
       try clear hcz148_3
       try clear hcz148_4
       try clear hcz148_5
       try clear hcz149_0
       try clear hcz149_1
       try clear hcz156_0
       try clear hcz156_1
       try clear hcz166_0
       try clear hcz166_1
       try clear hcz170_0
       try clear hcz170_1
       try clear hcz173_0
       try clear hcz173_1
       try clear hcz178_0
       try clear hcz178_1
       try clear hcz182_0
       try clear hcz182_1
       try clear hcz187_0
       try clear hcz187_1
       try clear hfz133_0
       try clear hfz133_1
       try clear hfz133_2
       try clear hfz133_3
       try clear hfz133_4
       try clear hfz133_5
       try clear hfz134_0
       try clear hfz134_1
       try clear hfz139_0
       try clear hfz139_1
       try clear hfz140_0
       try clear hfz140_1
       try clear hfz140_2
       try clear hfz140_3
       try clear hfz140_4
       try clear hfz140_5
       try clear hfz141_0
       try clear hfz141_1
       try clear hfz147_0
       try clear hfz147_1
       try clear hfz148_0
       try clear hfz148_1
       try clear hfz148_2
       try clear hfz148_3
       try clear hfz148_4
       try clear hfz148_5
       try clear hfz149_0
       try clear hfz149_1
       try clear hfz156_0
       try clear hfz156_1
       try clear hfz166_0
       try clear hfz166_1
       try clear hfz170_0
       try clear hfz170_1
       try clear hfz173_0
       try clear hfz173_1
       try clear hfz178_0
       try clear hfz178_1
       try clear hfz182_0
       try clear hfz182_1
       try clear hfz187_0
       try clear hfz187_1
       try clear p2
       obtain ⟨kq, x6_130, rfl, HA, HJ130, BK159, BK160, BK168, BK172, BK176, HB⟩ := hcut
       cases kq with
       | zero => exact absurd HA.out (by simp [pelotonlaw10_SliceCuts.j2])
       | succ kj130 =>
        have H := HA.out
        clear HA
        simp only [pelotonlaw10_SliceCuts.j2] at H
        obtain rfl := Option.some.inj H
        go_wp2
        go_ret
        exact ⟨by first | rfl | (simp [errW_none, errW_some] <;> rfl) | (simp [*, errW_none, errW_some] <;> rfl), by repeat (first | (with_reducible first | exact HB.out | apply b_a | apply b_n | apply b_d | refine b_s ?_ GE159.out | refine b_s ?_ GE160.out | refine b_s ?_ GE168.out | refine b_s ?_ GE172.out | refine b_s ?_ GE176.out) | exact HB.out)⟩
     subst c37
     have H1 : (if a2 < 0 then (pelotonlaw10_SliceCuts.j3 kj17 a2 t167 t171 t175 true a0_0 a0_1 a0_2 a0_3 a0_4 a0_5 a1_0 a1_1 t165 t166 t169 t170 t173 t174) else (pelotonlaw10_SliceCuts.j3 kj17 a2 t167 t171 t175 (decide (a2 ≥ a1_0)) a0_0 a0_1 a0_2 a0_3 a0_4 a0_5 a1_0 a1_1 t165 t166 t169 t170 t173 t174)) = some r := by rw [if_pos rfl] at H; exact H
     clear H
     have H := H1
     clear H1
     have HC38 := Aside0.mk H
     clear H
     have hnb39 := NB159_160.out
     have hnc39 := NB160_159.out
     have hcz40_0 : wc.cell? ⟨gb159, 0, none⟩ = some (.int .i64 a0_0) := (blk_cell BK159.out 0).trans rfl
     have hcz40_1 : wc.cell? ⟨gb159, 1, none⟩ = some (.int .i64 a0_1) := (blk_cell BK159.out 1).trans rfl
     have hcz40_2 : wc.cell? ⟨gb159, 2, none⟩ = some (.int .i64 a0_2) := (blk_cell BK159.out 2).trans rfl
     have hcz40_3 : wc.cell? ⟨gb159, 3, none⟩ = some (.int .i64 a0_3) := (blk_cell BK159.out 3).trans rfl
     have hcz40_4 : wc.cell? ⟨gb159, 4, none⟩ = some (.int .i64 a0_4) := (blk_cell BK159.out 4).trans rfl
     have hcz40_5 : wc.cell? ⟨gb159, 5, none⟩ = some (.int .i64 a0_5) := (blk_cell BK159.out 5).trans rfl
     have hfz40_0 := blk_frozen BK159.out 0
     have hfz40_1 := blk_frozen BK159.out 1
     have hfz40_2 := blk_frozen BK159.out 2
     have hfz40_3 := blk_frozen BK159.out 3
     have hfz40_4 := blk_frozen BK159.out 4
     have hfz40_5 := blk_frozen BK159.out 5
     have hcz41_0 : wc.cell? ⟨gb160, 0, none⟩ = some (.int .i64 a1_0) := (blk_cell BK160.out 0).trans rfl
     have hcz41_1 : wc.cell? ⟨gb160, 1, none⟩ = some (.int .i64 a1_1) := (blk_cell BK160.out 1).trans rfl
     have hfz41_0 := blk_frozen BK160.out 0
     have hfz41_1 := blk_frozen BK160.out 1
     go_upto_region 14 with (first | ((with_reducible refine gate_callee (f := 11) rfl ?_); refine goesL_ (some 42) rfl rfl Try.func11 (by kernel_rfl) rfl #[.agg #[.int .i64 a0_0, .int .i64 a0_1, .int .i64 a0_2, .int .i64 a0_3, .int .i64 a0_4, .int .i64 a0_5], .agg #[.int .i64 a1_0, .int .i64 a1_1], .int .i64 a2] rfl (by (try simp only [l_4, l_5, l_6]); first | done | rfl | (simp only [l_7, l_8]; rfl)) ?_; (with_reducible refine (slice_Layers.calls a0_0 a0_1 a0_2 a0_3 a0_4 a0_5 a1_0 a1_1 a2 t165 t166 t167 _ A34.out).mono ?_); rintro e w42 ⟨rfl, hb⟩; refine ⟨_, rfl, ?_⟩; have n0_ := Aside0.mk (blk_below (g := gb159) (o := .cells #[.int .i64 a0_0, .int .i64 a0_1, .int .i64 a0_2, .int .i64 a0_3, .int .i64 a0_4, .int .i64 a0_5] 23 (0, 0)) (by (with_reducible repeat (first | refine k_n ?_ _ | refine k_d ?_ | refine k_a ?_ _)); exact BK159.out) hb); have n1_ := Aside0.mk (blk_below (g := gb160) (o := .cells #[.int .i64 a1_0, .int .i64 a1_1] 25 (0, 0)) (by (with_reducible repeat (first | refine k_n ?_ _ | refine k_d ?_ | refine k_a ?_ _)); exact BK160.out) hb); have n2_ := Aside0.mk (below_step (by repeat (first | (with_reducible first | exact HB.out | apply b_a | apply b_n | apply b_d | refine b_s ?_ GE159.out | refine b_s ?_ GE160.out) | exact HB.out)) hb); clear BK159; clear BK160; clear HB; have BK159 := n0_; have BK160 := n1_; have HB := n2_; clear n0_ n1_ n2_; (try clear hb); (try clear hb2); (try clear hk); (try clear hi)) | ((with_reducible refine gate_dst (N := 9) rfl ?_); refine box_event ?hg (N := 9) ?hd (cs := #[.int .i64 0, .int .i64 0]) (t := 29) ?hr ?_; (case hd => rfl); (case hg => rfl); (case hr => first | (go_simp; done) | (go_simp; rfl)); intro gb168 hg w43 hbox hb; have n0_ := Aside0.mk (blk_below (g := gb159) (o := .cells #[.int .i64 a0_0, .int .i64 a0_1, .int .i64 a0_2, .int .i64 a0_3, .int .i64 a0_4, .int .i64 a0_5] 23 (0, 0)) (by (with_reducible repeat (first | refine k_n ?_ _ | refine k_d ?_ | refine k_a ?_ _)); exact BK159.out) hb); have n1_ := Aside0.mk (blk_below (g := gb160) (o := .cells #[.int .i64 a1_0, .int .i64 a1_1] 25 (0, 0)) (by (with_reducible repeat (first | refine k_n ?_ _ | refine k_d ?_ | refine k_a ?_ _)); exact BK160.out) hb); have n2_ := Aside0.mk (below_step (by repeat (first | (with_reducible first | exact HB.out | apply b_a | apply b_n | apply b_d | refine b_s ?_ GE159.out | refine b_s ?_ GE160.out) | exact HB.out)) hb); have n3_ := Aside0.mk (hbox); have n4_ := Aside0.mk ((by rw [hg]; exact (below_size (by repeat (first | (with_reducible first | exact HB.out | apply b_a | apply b_n | apply b_d | refine b_s ?_ GE159.out | refine b_s ?_ GE160.out) | exact HB.out))) : w.heap.size ≤ gb168)); have n5_ := Aside0.mk ((by rw [hg]; exact (below_size (by repeat (first | (with_reducible first | exact HB.out | apply b_a | apply b_n | apply b_d | refine b_s ?_ GE159.out | refine b_s ?_ GE160.out) | exact HB.out))) : w.heap.size ≤ gb168)); have n6_ := Aside0.mk ((by rw [hg]; exact Nat.ne_of_lt (blk_lt (g := gb159) (o := .cells #[.int .i64 a0_0, .int .i64 a0_1, .int .i64 a0_2, .int .i64 a0_3, .int .i64 a0_4, .int .i64 a0_5] 23 (0, 0)) (by (with_reducible repeat (first | refine k_n ?_ _ | refine k_d ?_ | refine k_a ?_ _)); exact BK159.out)) : gb159 ≠ gb168)); have n7_ := Aside0.mk ((by rw [hg]; exact Nat.ne_of_gt (blk_lt (g := gb159) (o := .cells #[.int .i64 a0_0, .int .i64 a0_1, .int .i64 a0_2, .int .i64 a0_3, .int .i64 a0_4, .int .i64 a0_5] 23 (0, 0)) (by (with_reducible repeat (first | refine k_n ?_ _ | refine k_d ?_ | refine k_a ?_ _)); exact BK159.out)) : gb168 ≠ gb159)); have n8_ := Aside0.mk ((by rw [hg]; exact Nat.ne_of_lt (blk_lt (g := gb160) (o := .cells #[.int .i64 a1_0, .int .i64 a1_1] 25 (0, 0)) (by (with_reducible repeat (first | refine k_n ?_ _ | refine k_d ?_ | refine k_a ?_ _)); exact BK160.out)) : gb160 ≠ gb168)); have n9_ := Aside0.mk ((by rw [hg]; exact Nat.ne_of_gt (blk_lt (g := gb160) (o := .cells #[.int .i64 a1_0, .int .i64 a1_1] 25 (0, 0)) (by (with_reducible repeat (first | refine k_n ?_ _ | refine k_d ?_ | refine k_a ?_ _)); exact BK160.out)) : gb168 ≠ gb160)); clear BK159; clear BK160; clear HB; have BK159 := n0_; have BK160 := n1_; have HB := n2_; have BK168 := n3_; have GW168 := n4_; have GE168 := n5_; have NB159_168 := n6_; have NB168_159 := n7_; have NB160_168 := n8_; have NB168_160 := n9_; clear n0_ n1_ n2_ n3_ n4_ n5_ n6_ n7_ n8_ n9_; clear hb hbox hg; have hnb44 := NB168_159.out; have hnc44 := NB159_168.out; have hnb45 := NB168_160.out; have hnc45 := NB160_168.out; have hcz46_0 : w43.cell? ⟨gb168, 0, none⟩ = some (.int .i64 0) := (blk_cell BK168.out 0).trans rfl; have hcz46_1 : w43.cell? ⟨gb168, 1, none⟩ = some (.int .i64 0) := (blk_cell BK168.out 1).trans rfl; have hfz46_0 := blk_frozen BK168.out 0; have hfz46_1 := blk_frozen BK168.out 1; have hcz47_0 : w43.cell? ⟨gb159, 0, none⟩ = some (.int .i64 a0_0) := (blk_cell BK159.out 0).trans rfl; have hcz47_1 : w43.cell? ⟨gb159, 1, none⟩ = some (.int .i64 a0_1) := (blk_cell BK159.out 1).trans rfl; have hcz47_2 : w43.cell? ⟨gb159, 2, none⟩ = some (.int .i64 a0_2) := (blk_cell BK159.out 2).trans rfl; have hcz47_3 : w43.cell? ⟨gb159, 3, none⟩ = some (.int .i64 a0_3) := (blk_cell BK159.out 3).trans rfl; have hcz47_4 : w43.cell? ⟨gb159, 4, none⟩ = some (.int .i64 a0_4) := (blk_cell BK159.out 4).trans rfl; have hcz47_5 : w43.cell? ⟨gb159, 5, none⟩ = some (.int .i64 a0_5) := (blk_cell BK159.out 5).trans rfl; have hfz47_0 := blk_frozen BK159.out 0; have hfz47_1 := blk_frozen BK159.out 1; have hfz47_2 := blk_frozen BK159.out 2; have hfz47_3 := blk_frozen BK159.out 3; have hfz47_4 := blk_frozen BK159.out 4; have hfz47_5 := blk_frozen BK159.out 5; have hcz48_0 : w43.cell? ⟨gb160, 0, none⟩ = some (.int .i64 a1_0) := (blk_cell BK160.out 0).trans rfl; have hcz48_1 : w43.cell? ⟨gb160, 1, none⟩ = some (.int .i64 a1_1) := (blk_cell BK160.out 1).trans rfl; have hfz48_0 := blk_frozen BK160.out 0; have hfz48_1 := blk_frozen BK160.out 1) | ((with_reducible refine gate_callee (f := 12) rfl ?_); refine goesL_ (some 49) rfl rfl Try.func12 (by kernel_rfl) rfl #[.agg #[.int .i64 a0_0, .int .i64 a0_1, .int .i64 a0_2, .int .i64 a0_3, .int .i64 a0_4, .int .i64 a0_5], .agg #[.int .i64 a1_0, .int .i64 a1_1], .int .i64 a2] rfl (by (try simp only [l_4, l_5, l_6]); first | done | rfl | (simp only [l_7, l_8]; rfl)) ?_; (with_reducible refine (slice_Heads.calls a0_0 a0_1 a0_2 a0_3 a0_4 a0_5 a1_0 a1_1 a2 t169 t170 t171 _ A35.out).mono ?_); rintro e w49 ⟨rfl, hb⟩; refine ⟨_, rfl, ?_⟩; have n0_ := Aside0.mk (blk_below (g := gb159) (o := .cells #[.int .i64 a0_0, .int .i64 a0_1, .int .i64 a0_2, .int .i64 a0_3, .int .i64 a0_4, .int .i64 a0_5] 23 (0, 0)) (by (with_reducible repeat (first | refine k_n ?_ _ | refine k_d ?_ | refine k_a ?_ _)); refine blk_far ?_ NB159_168.out _; (with_reducible repeat (first | refine k_n ?_ _ | refine k_d ?_ | refine k_a ?_ _)); refine blk_far ?_ NB159_168.out _; (with_reducible repeat (first | refine k_n ?_ _ | refine k_d ?_ | refine k_a ?_ _)); exact BK159.out) hb); have n1_ := Aside0.mk (blk_below (g := gb160) (o := .cells #[.int .i64 a1_0, .int .i64 a1_1] 25 (0, 0)) (by (with_reducible repeat (first | refine k_n ?_ _ | refine k_d ?_ | refine k_a ?_ _)); refine blk_far ?_ NB160_168.out _; (with_reducible repeat (first | refine k_n ?_ _ | refine k_d ?_ | refine k_a ?_ _)); refine blk_far ?_ NB160_168.out _; (with_reducible repeat (first | refine k_n ?_ _ | refine k_d ?_ | refine k_a ?_ _)); exact BK160.out) hb); have n2_ := Aside0.mk (blk_below (g := gb168) (o := .cells #[.int .i64 t165, .int .i64 t166] 29 (0, 0)) (by (with_reducible repeat (first | refine k_n ?_ _ | refine k_d ?_ | refine k_a ?_ _)); refine blk_put (cs := #[.int .i64 t165, .int .i64 0]) ?_ 1 _ rfl; (with_reducible repeat (first | refine k_n ?_ _ | refine k_d ?_ | refine k_a ?_ _)); refine blk_put (cs := #[.int .i64 0, .int .i64 0]) ?_ 0 _ rfl; (with_reducible repeat (first | refine k_n ?_ _ | refine k_d ?_ | refine k_a ?_ _)); exact BK168.out) hb); have n3_ := Aside0.mk (below_step (by repeat (first | (with_reducible first | exact HB.out | apply b_a | apply b_n | apply b_d | refine b_s ?_ GE159.out | refine b_s ?_ GE160.out | refine b_s ?_ GE168.out) | exact HB.out)) hb); clear BK159; clear BK160; clear BK168; clear HB; have BK159 := n0_; have BK160 := n1_; have BK168 := n2_; have HB := n3_; clear n0_ n1_ n2_ n3_; (try clear hb); (try clear hb2); (try clear hk); (try clear hi)) | ((with_reducible refine gate_dst (N := 11) rfl ?_); refine box_event ?hg (N := 11) ?hd (cs := #[.int .i64 0, .int .i64 0]) (t := 29) ?hr ?_; (case hd => rfl); (case hg => rfl); (case hr => first | (go_simp; done) | (go_simp; rfl)); intro gb172 hg w50 hbox hb; have n0_ := Aside0.mk (blk_below (g := gb159) (o := .cells #[.int .i64 a0_0, .int .i64 a0_1, .int .i64 a0_2, .int .i64 a0_3, .int .i64 a0_4, .int .i64 a0_5] 23 (0, 0)) (by (with_reducible repeat (first | refine k_n ?_ _ | refine k_d ?_ | refine k_a ?_ _)); exact BK159.out) hb); have n1_ := Aside0.mk (blk_below (g := gb160) (o := .cells #[.int .i64 a1_0, .int .i64 a1_1] 25 (0, 0)) (by (with_reducible repeat (first | refine k_n ?_ _ | refine k_d ?_ | refine k_a ?_ _)); exact BK160.out) hb); have n2_ := Aside0.mk (blk_below (g := gb168) (o := .cells #[.int .i64 t165, .int .i64 t166] 29 (0, 0)) (by (with_reducible repeat (first | refine k_n ?_ _ | refine k_d ?_ | refine k_a ?_ _)); exact BK168.out) hb); have n3_ := Aside0.mk (below_step (by repeat (first | (with_reducible first | exact HB.out | apply b_a | apply b_n | apply b_d | refine b_s ?_ GE159.out | refine b_s ?_ GE160.out | refine b_s ?_ GE168.out) | exact HB.out)) hb); have n4_ := Aside0.mk (hbox); have n5_ := Aside0.mk ((by rw [hg]; exact (below_size (by repeat (first | (with_reducible first | exact HB.out | apply b_a | apply b_n | apply b_d | refine b_s ?_ GE159.out | refine b_s ?_ GE160.out | refine b_s ?_ GE168.out) | exact HB.out))) : w.heap.size ≤ gb172)); have n6_ := Aside0.mk ((by rw [hg]; exact (below_size (by repeat (first | (with_reducible first | exact HB.out | apply b_a | apply b_n | apply b_d | refine b_s ?_ GE159.out | refine b_s ?_ GE160.out | refine b_s ?_ GE168.out) | exact HB.out))) : w.heap.size ≤ gb172)); have n7_ := Aside0.mk ((by rw [hg]; exact Nat.ne_of_lt (blk_lt (g := gb159) (o := .cells #[.int .i64 a0_0, .int .i64 a0_1, .int .i64 a0_2, .int .i64 a0_3, .int .i64 a0_4, .int .i64 a0_5] 23 (0, 0)) (by (with_reducible repeat (first | refine k_n ?_ _ | refine k_d ?_ | refine k_a ?_ _)); exact BK159.out)) : gb159 ≠ gb172)); have n8_ := Aside0.mk ((by rw [hg]; exact Nat.ne_of_gt (blk_lt (g := gb159) (o := .cells #[.int .i64 a0_0, .int .i64 a0_1, .int .i64 a0_2, .int .i64 a0_3, .int .i64 a0_4, .int .i64 a0_5] 23 (0, 0)) (by (with_reducible repeat (first | refine k_n ?_ _ | refine k_d ?_ | refine k_a ?_ _)); exact BK159.out)) : gb172 ≠ gb159)); have n9_ := Aside0.mk ((by rw [hg]; exact Nat.ne_of_lt (blk_lt (g := gb160) (o := .cells #[.int .i64 a1_0, .int .i64 a1_1] 25 (0, 0)) (by (with_reducible repeat (first | refine k_n ?_ _ | refine k_d ?_ | refine k_a ?_ _)); exact BK160.out)) : gb160 ≠ gb172)); have n10_ := Aside0.mk ((by rw [hg]; exact Nat.ne_of_gt (blk_lt (g := gb160) (o := .cells #[.int .i64 a1_0, .int .i64 a1_1] 25 (0, 0)) (by (with_reducible repeat (first | refine k_n ?_ _ | refine k_d ?_ | refine k_a ?_ _)); exact BK160.out)) : gb172 ≠ gb160)); have n11_ := Aside0.mk ((by rw [hg]; exact Nat.ne_of_lt (blk_lt (g := gb168) (o := .cells #[.int .i64 t165, .int .i64 t166] 29 (0, 0)) (by (with_reducible repeat (first | refine k_n ?_ _ | refine k_d ?_ | refine k_a ?_ _)); exact BK168.out)) : gb168 ≠ gb172)); have n12_ := Aside0.mk ((by rw [hg]; exact Nat.ne_of_gt (blk_lt (g := gb168) (o := .cells #[.int .i64 t165, .int .i64 t166] 29 (0, 0)) (by (with_reducible repeat (first | refine k_n ?_ _ | refine k_d ?_ | refine k_a ?_ _)); exact BK168.out)) : gb172 ≠ gb168)); clear BK159; clear BK160; clear BK168; clear HB; have BK159 := n0_; have BK160 := n1_; have BK168 := n2_; have HB := n3_; have BK172 := n4_; have GW172 := n5_; have GE172 := n6_; have NB159_172 := n7_; have NB172_159 := n8_; have NB160_172 := n9_; have NB172_160 := n10_; have NB168_172 := n11_; have NB172_168 := n12_; clear n0_ n1_ n2_ n3_ n4_ n5_ n6_ n7_ n8_ n9_ n10_ n11_ n12_; clear hb hbox hg; have hnb51 := NB172_159.out; have hnc51 := NB159_172.out; have hnb52 := NB172_160.out; have hnc52 := NB160_172.out; have hnb53 := NB172_168.out; have hnc53 := NB168_172.out; have hcz54_0 : w50.cell? ⟨gb172, 0, none⟩ = some (.int .i64 0) := (blk_cell BK172.out 0).trans rfl; have hcz54_1 : w50.cell? ⟨gb172, 1, none⟩ = some (.int .i64 0) := (blk_cell BK172.out 1).trans rfl; have hfz54_0 := blk_frozen BK172.out 0; have hfz54_1 := blk_frozen BK172.out 1; have hcz55_0 : w50.cell? ⟨gb159, 0, none⟩ = some (.int .i64 a0_0) := (blk_cell BK159.out 0).trans rfl; have hcz55_1 : w50.cell? ⟨gb159, 1, none⟩ = some (.int .i64 a0_1) := (blk_cell BK159.out 1).trans rfl; have hcz55_2 : w50.cell? ⟨gb159, 2, none⟩ = some (.int .i64 a0_2) := (blk_cell BK159.out 2).trans rfl; have hcz55_3 : w50.cell? ⟨gb159, 3, none⟩ = some (.int .i64 a0_3) := (blk_cell BK159.out 3).trans rfl; have hcz55_4 : w50.cell? ⟨gb159, 4, none⟩ = some (.int .i64 a0_4) := (blk_cell BK159.out 4).trans rfl; have hcz55_5 : w50.cell? ⟨gb159, 5, none⟩ = some (.int .i64 a0_5) := (blk_cell BK159.out 5).trans rfl; have hfz55_0 := blk_frozen BK159.out 0; have hfz55_1 := blk_frozen BK159.out 1; have hfz55_2 := blk_frozen BK159.out 2; have hfz55_3 := blk_frozen BK159.out 3; have hfz55_4 := blk_frozen BK159.out 4; have hfz55_5 := blk_frozen BK159.out 5; have hcz56_0 : w50.cell? ⟨gb160, 0, none⟩ = some (.int .i64 a1_0) := (blk_cell BK160.out 0).trans rfl; have hcz56_1 : w50.cell? ⟨gb160, 1, none⟩ = some (.int .i64 a1_1) := (blk_cell BK160.out 1).trans rfl; have hfz56_0 := blk_frozen BK160.out 0; have hfz56_1 := blk_frozen BK160.out 1) | ((with_reducible refine gate_callee (f := 13) rfl ?_); refine goesL_ (some 56) rfl rfl Try.func13 (by kernel_rfl) rfl #[.agg #[.int .i64 a0_0, .int .i64 a0_1, .int .i64 a0_2, .int .i64 a0_3, .int .i64 a0_4, .int .i64 a0_5], .agg #[.int .i64 a1_0, .int .i64 a1_1], .int .i64 a2] rfl (by (try simp only [l_4, l_5, l_6]); first | done | rfl | (simp only [l_7, l_8]; rfl)) ?_; (with_reducible refine (slice_Inner.calls a0_0 a0_1 a0_2 a0_3 a0_4 a0_5 a1_0 a1_1 a2 t173 t174 t175 _ A36.out).mono ?_); rintro e w57 ⟨rfl, hb⟩; refine ⟨_, rfl, ?_⟩; have n0_ := Aside0.mk (blk_below (g := gb159) (o := .cells #[.int .i64 a0_0, .int .i64 a0_1, .int .i64 a0_2, .int .i64 a0_3, .int .i64 a0_4, .int .i64 a0_5] 23 (0, 0)) (by (with_reducible repeat (first | refine k_n ?_ _ | refine k_d ?_ | refine k_a ?_ _)); refine blk_far ?_ NB159_172.out _; (with_reducible repeat (first | refine k_n ?_ _ | refine k_d ?_ | refine k_a ?_ _)); refine blk_far ?_ NB159_172.out _; (with_reducible repeat (first | refine k_n ?_ _ | refine k_d ?_ | refine k_a ?_ _)); exact BK159.out) hb); have n1_ := Aside0.mk (blk_below (g := gb160) (o := .cells #[.int .i64 a1_0, .int .i64 a1_1] 25 (0, 0)) (by (with_reducible repeat (first | refine k_n ?_ _ | refine k_d ?_ | refine k_a ?_ _)); refine blk_far ?_ NB160_172.out _; (with_reducible repeat (first | refine k_n ?_ _ | refine k_d ?_ | refine k_a ?_ _)); refine blk_far ?_ NB160_172.out _; (with_reducible repeat (first | refine k_n ?_ _ | refine k_d ?_ | refine k_a ?_ _)); exact BK160.out) hb); have n2_ := Aside0.mk (blk_below (g := gb168) (o := .cells #[.int .i64 t165, .int .i64 t166] 29 (0, 0)) (by (with_reducible repeat (first | refine k_n ?_ _ | refine k_d ?_ | refine k_a ?_ _)); refine blk_far ?_ NB168_172.out _; (with_reducible repeat (first | refine k_n ?_ _ | refine k_d ?_ | refine k_a ?_ _)); refine blk_far ?_ NB168_172.out _; (with_reducible repeat (first | refine k_n ?_ _ | refine k_d ?_ | refine k_a ?_ _)); exact BK168.out) hb); have n3_ := Aside0.mk (blk_below (g := gb172) (o := .cells #[.int .i64 t169, .int .i64 t170] 29 (0, 0)) (by (with_reducible repeat (first | refine k_n ?_ _ | refine k_d ?_ | refine k_a ?_ _)); refine blk_put (cs := #[.int .i64 t169, .int .i64 0]) ?_ 1 _ rfl; (with_reducible repeat (first | refine k_n ?_ _ | refine k_d ?_ | refine k_a ?_ _)); refine blk_put (cs := #[.int .i64 0, .int .i64 0]) ?_ 0 _ rfl; (with_reducible repeat (first | refine k_n ?_ _ | refine k_d ?_ | refine k_a ?_ _)); exact BK172.out) hb); have n4_ := Aside0.mk (below_step (by repeat (first | (with_reducible first | exact HB.out | apply b_a | apply b_n | apply b_d | refine b_s ?_ GE159.out | refine b_s ?_ GE160.out | refine b_s ?_ GE168.out | refine b_s ?_ GE172.out) | exact HB.out)) hb); clear BK159; clear BK160; clear BK168; clear BK172; clear HB; have BK159 := n0_; have BK160 := n1_; have BK168 := n2_; have BK172 := n3_; have HB := n4_; clear n0_ n1_ n2_ n3_ n4_; (try clear hb); (try clear hb2); (try clear hk); (try clear hi)) | ((with_reducible refine gate_dst (N := 13) rfl ?_); refine box_event ?hg (N := 13) ?hd (cs := #[.int .i64 0, .int .i64 0]) (t := 29) ?hr ?_; (case hd => rfl); (case hg => rfl); (case hr => first | (go_simp; done) | (go_simp; rfl)); intro gb176 hg w58 hbox hb; have n0_ := Aside0.mk (blk_below (g := gb159) (o := .cells #[.int .i64 a0_0, .int .i64 a0_1, .int .i64 a0_2, .int .i64 a0_3, .int .i64 a0_4, .int .i64 a0_5] 23 (0, 0)) (by (with_reducible repeat (first | refine k_n ?_ _ | refine k_d ?_ | refine k_a ?_ _)); exact BK159.out) hb); have n1_ := Aside0.mk (blk_below (g := gb160) (o := .cells #[.int .i64 a1_0, .int .i64 a1_1] 25 (0, 0)) (by (with_reducible repeat (first | refine k_n ?_ _ | refine k_d ?_ | refine k_a ?_ _)); exact BK160.out) hb); have n2_ := Aside0.mk (blk_below (g := gb168) (o := .cells #[.int .i64 t165, .int .i64 t166] 29 (0, 0)) (by (with_reducible repeat (first | refine k_n ?_ _ | refine k_d ?_ | refine k_a ?_ _)); exact BK168.out) hb); have n3_ := Aside0.mk (blk_below (g := gb172) (o := .cells #[.int .i64 t169, .int .i64 t170] 29 (0, 0)) (by (with_reducible repeat (first | refine k_n ?_ _ | refine k_d ?_ | refine k_a ?_ _)); exact BK172.out) hb); have n4_ := Aside0.mk (below_step (by repeat (first | (with_reducible first | exact HB.out | apply b_a | apply b_n | apply b_d | refine b_s ?_ GE159.out | refine b_s ?_ GE160.out | refine b_s ?_ GE168.out | refine b_s ?_ GE172.out) | exact HB.out)) hb); have n5_ := Aside0.mk (hbox); have n6_ := Aside0.mk ((by rw [hg]; exact (below_size (by repeat (first | (with_reducible first | exact HB.out | apply b_a | apply b_n | apply b_d | refine b_s ?_ GE159.out | refine b_s ?_ GE160.out | refine b_s ?_ GE168.out | refine b_s ?_ GE172.out) | exact HB.out))) : w.heap.size ≤ gb176)); have n7_ := Aside0.mk ((by rw [hg]; exact (below_size (by repeat (first | (with_reducible first | exact HB.out | apply b_a | apply b_n | apply b_d | refine b_s ?_ GE159.out | refine b_s ?_ GE160.out | refine b_s ?_ GE168.out | refine b_s ?_ GE172.out) | exact HB.out))) : w.heap.size ≤ gb176)); have n8_ := Aside0.mk ((by rw [hg]; exact Nat.ne_of_lt (blk_lt (g := gb159) (o := .cells #[.int .i64 a0_0, .int .i64 a0_1, .int .i64 a0_2, .int .i64 a0_3, .int .i64 a0_4, .int .i64 a0_5] 23 (0, 0)) (by (with_reducible repeat (first | refine k_n ?_ _ | refine k_d ?_ | refine k_a ?_ _)); exact BK159.out)) : gb159 ≠ gb176)); have n9_ := Aside0.mk ((by rw [hg]; exact Nat.ne_of_gt (blk_lt (g := gb159) (o := .cells #[.int .i64 a0_0, .int .i64 a0_1, .int .i64 a0_2, .int .i64 a0_3, .int .i64 a0_4, .int .i64 a0_5] 23 (0, 0)) (by (with_reducible repeat (first | refine k_n ?_ _ | refine k_d ?_ | refine k_a ?_ _)); exact BK159.out)) : gb176 ≠ gb159)); have n10_ := Aside0.mk ((by rw [hg]; exact Nat.ne_of_lt (blk_lt (g := gb160) (o := .cells #[.int .i64 a1_0, .int .i64 a1_1] 25 (0, 0)) (by (with_reducible repeat (first | refine k_n ?_ _ | refine k_d ?_ | refine k_a ?_ _)); exact BK160.out)) : gb160 ≠ gb176)); have n11_ := Aside0.mk ((by rw [hg]; exact Nat.ne_of_gt (blk_lt (g := gb160) (o := .cells #[.int .i64 a1_0, .int .i64 a1_1] 25 (0, 0)) (by (with_reducible repeat (first | refine k_n ?_ _ | refine k_d ?_ | refine k_a ?_ _)); exact BK160.out)) : gb176 ≠ gb160)); have n12_ := Aside0.mk ((by rw [hg]; exact Nat.ne_of_lt (blk_lt (g := gb168) (o := .cells #[.int .i64 t165, .int .i64 t166] 29 (0, 0)) (by (with_reducible repeat (first | refine k_n ?_ _ | refine k_d ?_ | refine k_a ?_ _)); exact BK168.out)) : gb168 ≠ gb176)); have n13_ := Aside0.mk ((by rw [hg]; exact Nat.ne_of_gt (blk_lt (g := gb168) (o := .cells #[.int .i64 t165, .int .i64 t166] 29 (0, 0)) (by (with_reducible repeat (first | refine k_n ?_ _ | refine k_d ?_ | refine k_a ?_ _)); exact BK168.out)) : gb176 ≠ gb168)); have n14_ := Aside0.mk ((by rw [hg]; exact Nat.ne_of_lt (blk_lt (g := gb172) (o := .cells #[.int .i64 t169, .int .i64 t170] 29 (0, 0)) (by (with_reducible repeat (first | refine k_n ?_ _ | refine k_d ?_ | refine k_a ?_ _)); exact BK172.out)) : gb172 ≠ gb176)); have n15_ := Aside0.mk ((by rw [hg]; exact Nat.ne_of_gt (blk_lt (g := gb172) (o := .cells #[.int .i64 t169, .int .i64 t170] 29 (0, 0)) (by (with_reducible repeat (first | refine k_n ?_ _ | refine k_d ?_ | refine k_a ?_ _)); exact BK172.out)) : gb176 ≠ gb172)); clear BK159; clear BK160; clear BK168; clear BK172; clear HB; have BK159 := n0_; have BK160 := n1_; have BK168 := n2_; have BK172 := n3_; have HB := n4_; have BK176 := n5_; have GW176 := n6_; have GE176 := n7_; have NB159_176 := n8_; have NB176_159 := n9_; have NB160_176 := n10_; have NB176_160 := n11_; have NB168_176 := n12_; have NB176_168 := n13_; have NB172_176 := n14_; have NB176_172 := n15_; clear n0_ n1_ n2_ n3_ n4_ n5_ n6_ n7_ n8_ n9_ n10_ n11_ n12_ n13_ n14_ n15_; clear hb hbox hg; have hnb59 := NB176_159.out; have hnc59 := NB159_176.out; have hnb60 := NB176_160.out; have hnc60 := NB160_176.out; have hnb61 := NB176_168.out; have hnc61 := NB168_176.out; have hnb62 := NB176_172.out; have hnc62 := NB172_176.out; have hcz63_0 : w58.cell? ⟨gb176, 0, none⟩ = some (.int .i64 0) := (blk_cell BK176.out 0).trans rfl; have hcz63_1 : w58.cell? ⟨gb176, 1, none⟩ = some (.int .i64 0) := (blk_cell BK176.out 1).trans rfl; have hfz63_0 := blk_frozen BK176.out 0; have hfz63_1 := blk_frozen BK176.out 1))
     (try simp only [Act.put, l_1, l_2, l_3])
     go_cut [93] (fun v93 wc => ∃ (kq : Nat) (x93_37 : Bool), v93 = .bool x93_37 ∧ Aside0 (pelotonlaw10_SliceCuts.j3 kq a2 t167 t171 t175 x93_37 a0_0 a0_1 a0_2 a0_3 a0_4 a0_5 a1_0 a1_1 t165 t166 t169 t170 t173 t174 = some r) ∧ Aside0 (kq ≤ kj17) ∧ Aside0 (wc.heap[gb159]? = some (.cells #[.int .i64 a0_0, .int .i64 a0_1, .int .i64 a0_2, .int .i64 a0_3, .int .i64 a0_4, .int .i64 a0_5] 23 (0, 0))) ∧ Aside0 (wc.heap[gb160]? = some (.cells #[.int .i64 a1_0, .int .i64 a1_1] 25 (0, 0))) ∧ Aside0 (wc.heap[gb168]? = some (.cells #[.int .i64 t165, .int .i64 t166] 29 (0, 0))) ∧ Aside0 (wc.heap[gb172]? = some (.cells #[.int .i64 t169, .int .i64 t170] 29 (0, 0))) ∧ Aside0 (wc.heap[gb176]? = some (.cells #[.int .i64 t173, .int .i64 t174] 29 (0, 0))) ∧ Aside0 (Below w.heap.size w wc))
     case first =>
      have H := HC38.out
      clear HC38
      by_cases c64 : a2 < 0
      ·
       rw [if_pos c64] at H
       have c64b0 : decide (a2 < 0) = true := decide_eq_true c64
       clear c64
       (first | rw [c64b0] | (simp only [i64_w, i32_w]; rw [c64b0]) | skip)
       have H' := Aside0.mk H
       clear H
       go_wp2
       go_meet
       case rel => exact ⟨_, (true), (by first | rfl | (simp; done) | (simp [*]; done)), H', ⟨by have := HJ6.out; have := HJ17.out; first | omega | exact Nat.le_refl _⟩, ⟨by (with_reducible repeat (first | refine k_n ?_ _ | refine k_d ?_ | refine k_a ?_ _)); refine blk_far ?_ NB159_176.out _; (with_reducible repeat (first | refine k_n ?_ _ | refine k_d ?_ | refine k_a ?_ _)); refine blk_far ?_ NB159_176.out _; (with_reducible repeat (first | refine k_n ?_ _ | refine k_d ?_ | refine k_a ?_ _)); exact BK159.out⟩, ⟨by (with_reducible repeat (first | refine k_n ?_ _ | refine k_d ?_ | refine k_a ?_ _)); refine blk_far ?_ NB160_176.out _; (with_reducible repeat (first | refine k_n ?_ _ | refine k_d ?_ | refine k_a ?_ _)); refine blk_far ?_ NB160_176.out _; (with_reducible repeat (first | refine k_n ?_ _ | refine k_d ?_ | refine k_a ?_ _)); exact BK160.out⟩, ⟨by (with_reducible repeat (first | refine k_n ?_ _ | refine k_d ?_ | refine k_a ?_ _)); refine blk_far ?_ NB168_176.out _; (with_reducible repeat (first | refine k_n ?_ _ | refine k_d ?_ | refine k_a ?_ _)); refine blk_far ?_ NB168_176.out _; (with_reducible repeat (first | refine k_n ?_ _ | refine k_d ?_ | refine k_a ?_ _)); exact BK168.out⟩, ⟨by (with_reducible repeat (first | refine k_n ?_ _ | refine k_d ?_ | refine k_a ?_ _)); refine blk_far ?_ NB172_176.out _; (with_reducible repeat (first | refine k_n ?_ _ | refine k_d ?_ | refine k_a ?_ _)); refine blk_far ?_ NB172_176.out _; (with_reducible repeat (first | refine k_n ?_ _ | refine k_d ?_ | refine k_a ?_ _)); exact BK172.out⟩, ⟨by (with_reducible repeat (first | refine k_n ?_ _ | refine k_d ?_ | refine k_a ?_ _)); refine blk_put (cs := #[.int .i64 t173, .int .i64 0]) ?_ 1 _ rfl; (with_reducible repeat (first | refine k_n ?_ _ | refine k_d ?_ | refine k_a ?_ _)); refine blk_put (cs := #[.int .i64 0, .int .i64 0]) ?_ 0 _ rfl; (with_reducible repeat (first | refine k_n ?_ _ | refine k_d ?_ | refine k_a ?_ _)); exact BK176.out⟩, ⟨by repeat (first | (with_reducible first | exact HB.out | apply b_a | apply b_n | apply b_d | refine b_s ?_ GE159.out | refine b_s ?_ GE160.out | refine b_s ?_ GE168.out | refine b_s ?_ GE172.out | refine b_s ?_ GE176.out) | exact HB.out)⟩⟩
      rw [if_neg c64] at H
      have c64b0 : decide (a2 < 0) = false := decide_eq_false c64
      clear c64
      (first | rw [c64b0] | (simp only [i64_w, i32_w]; rw [c64b0]) | skip)
      have H' := Aside0.mk H
      clear H
      have hnb65 := NB160_159.out
      have hnc65 := NB159_160.out
      have hnb66 := NB160_168.out
      have hnc66 := NB168_160.out
      have hnb67 := NB160_172.out
      have hnc67 := NB172_160.out
      have hnb68 := NB160_176.out
      have hnc68 := NB176_160.out
      have hcz69_0 : w58.cell? ⟨gb160, 0, none⟩ = some (.int .i64 a1_0) := (blk_cell BK160.out 0).trans rfl
      have hcz69_1 : w58.cell? ⟨gb160, 1, none⟩ = some (.int .i64 a1_1) := (blk_cell BK160.out 1).trans rfl
      have hfz69_0 := blk_frozen BK160.out 0
      have hfz69_1 := blk_frozen BK160.out 1
      go_wp2
      go_meet
      case rel => exact ⟨_, (decide (a2 ≥ a1_0)), (by first | rfl | (simp; done) | (simp [*]; done)), H', ⟨by have := HJ6.out; have := HJ17.out; first | omega | exact Nat.le_refl _⟩, ⟨by (with_reducible repeat (first | refine k_n ?_ _ | refine k_d ?_ | refine k_a ?_ _)); refine blk_far ?_ NB159_176.out _; (with_reducible repeat (first | refine k_n ?_ _ | refine k_d ?_ | refine k_a ?_ _)); refine blk_far ?_ NB159_176.out _; (with_reducible repeat (first | refine k_n ?_ _ | refine k_d ?_ | refine k_a ?_ _)); exact BK159.out⟩, ⟨by (with_reducible repeat (first | refine k_n ?_ _ | refine k_d ?_ | refine k_a ?_ _)); refine blk_far ?_ NB160_176.out _; (with_reducible repeat (first | refine k_n ?_ _ | refine k_d ?_ | refine k_a ?_ _)); refine blk_far ?_ NB160_176.out _; (with_reducible repeat (first | refine k_n ?_ _ | refine k_d ?_ | refine k_a ?_ _)); exact BK160.out⟩, ⟨by (with_reducible repeat (first | refine k_n ?_ _ | refine k_d ?_ | refine k_a ?_ _)); refine blk_far ?_ NB168_176.out _; (with_reducible repeat (first | refine k_n ?_ _ | refine k_d ?_ | refine k_a ?_ _)); refine blk_far ?_ NB168_176.out _; (with_reducible repeat (first | refine k_n ?_ _ | refine k_d ?_ | refine k_a ?_ _)); exact BK168.out⟩, ⟨by (with_reducible repeat (first | refine k_n ?_ _ | refine k_d ?_ | refine k_a ?_ _)); refine blk_far ?_ NB172_176.out _; (with_reducible repeat (first | refine k_n ?_ _ | refine k_d ?_ | refine k_a ?_ _)); refine blk_far ?_ NB172_176.out _; (with_reducible repeat (first | refine k_n ?_ _ | refine k_d ?_ | refine k_a ?_ _)); exact BK172.out⟩, ⟨by (with_reducible repeat (first | refine k_n ?_ _ | refine k_d ?_ | refine k_a ?_ _)); refine blk_put (cs := #[.int .i64 t173, .int .i64 0]) ?_ 1 _ rfl; (with_reducible repeat (first | refine k_n ?_ _ | refine k_d ?_ | refine k_a ?_ _)); refine blk_put (cs := #[.int .i64 0, .int .i64 0]) ?_ 0 _ rfl; (with_reducible repeat (first | refine k_n ?_ _ | refine k_d ?_ | refine k_a ?_ _)); exact BK176.out⟩, ⟨by repeat (first | (with_reducible first | exact HB.out | apply b_a | apply b_n | apply b_d | refine b_s ?_ GE159.out | refine b_s ?_ GE160.out | refine b_s ?_ GE168.out | refine b_s ?_ GE172.out | refine b_s ?_ GE176.out) | exact HB.out)⟩⟩
     case rest => as_aux_lemma =>
      clear HC38
      try clear c1
      try clear c2
      try clear p2
      try clear c3
      try clear c4
      try clear c5
      try clear c6
      try clear p6
      try clear c7
      try clear c8
      try clear c9
      try clear c11
      try clear c12
      try clear c13
      try clear c15
      try clear c16
      try clear c20
      try clear c20b0
      try clear c20b1
      try clear c20b2
      try clear c21
      try clear c26
      try clear c33
      try clear c37
      try clear c39
      try clear c44
      try clear c45
      try clear c51
      try clear c52
      try clear c53
      try clear c59
      try clear c60
      try clear c61
      try clear c62
      try clear c64
      try clear c64b0
      try clear p64
      try clear c65
      try clear c66
      try clear c67
      try clear c68
      try clear hcz12_0
      try clear hcz12_1
      try clear hcz12_2
      try clear hcz12_3
      try clear hcz12_4
      try clear hcz12_5
      try clear hcz13_0
      try clear hcz13_1
      try clear hcz17_0
      try clear hcz17_1
      try clear hcz22_0
      try clear hcz22_1
      try clear hcz22_2
      try clear hcz22_3
      try clear hcz22_4
      try clear hcz22_5
      try clear hcz23_0
      try clear hcz23_1
      try clear hcz27_0
      try clear hcz27_1
      try clear hcz27_2
      try clear hcz27_3
      try clear hcz27_4
      try clear hcz27_5
      try clear hcz28_0
      try clear hcz28_1
      try clear hcz30_0
      try clear hcz30_1
      try clear hcz30_2
      try clear hcz30_3
      try clear hcz30_4
      try clear hcz30_5
      try clear hcz31_0
      try clear hcz31_1
      try clear hcz40_0
      try clear hcz40_1
      try clear hcz40_2
      try clear hcz40_3
      try clear hcz40_4
      try clear hcz40_5
      try clear hcz41_0
      try clear hcz41_1
      try clear hcz46_0
      try clear hcz46_1
      try clear hcz47_0
      try clear hcz47_1
      try clear hcz47_2
      try clear hcz47_3
      try clear hcz47_4
      try clear hcz47_5
      try clear hcz48_0
      try clear hcz48_1
      try clear hcz54_0
      try clear hcz54_1
      try clear hcz55_0
      try clear hcz55_1
      try clear hcz55_2
      try clear hcz55_3
      try clear hcz55_4
      try clear hcz55_5
      try clear hcz56_0
      try clear hcz56_1
      try clear hcz63_0
      try clear hcz63_1
      try clear hcz69_0
      try clear hcz69_1
      try clear hfz12_0
      try clear hfz12_1
      try clear hfz12_2
      try clear hfz12_3
      try clear hfz12_4
      try clear hfz12_5
      try clear hfz13_0
      try clear hfz13_1
      try clear hfz17_0
      try clear hfz17_1
      try clear hfz22_0
      try clear hfz22_1
      try clear hfz22_2
      try clear hfz22_3
      try clear hfz22_4
      try clear hfz22_5
      try clear hfz23_0
      try clear hfz23_1
      try clear hfz27_0
      try clear hfz27_1
      try clear hfz27_2
      try clear hfz27_3
      try clear hfz27_4
      try clear hfz27_5
      try clear hfz28_0
      try clear hfz28_1
      try clear hfz30_0
      try clear hfz30_1
      try clear hfz30_2
      try clear hfz30_3
      try clear hfz30_4
      try clear hfz30_5
      try clear hfz31_0
      try clear hfz31_1
      try clear hfz40_0
      try clear hfz40_1
      try clear hfz40_2
      try clear hfz40_3
      try clear hfz40_4
      try clear hfz40_5
      try clear hfz41_0
      try clear hfz41_1
      try clear hfz46_0
      try clear hfz46_1
      try clear hfz47_0
      try clear hfz47_1
      try clear hfz47_2
      try clear hfz47_3
      try clear hfz47_4
      try clear hfz47_5
      try clear hfz48_0
      try clear hfz48_1
      try clear hfz54_0
      try clear hfz54_1
      try clear hfz55_0
      try clear hfz55_1
      try clear hfz55_2
      try clear hfz55_3
      try clear hfz55_4
      try clear hfz55_5
      try clear hfz56_0
      try clear hfz56_1
      try clear hfz63_0
      try clear hfz63_1
      try clear hfz69_0
      try clear hfz69_1
      try clear p2
      try clear p6
      obtain ⟨kq, x93_37, rfl, HA, HJ37, BK159, BK160, BK168, BK172, BK176, HB⟩ := hcut
      cases kq with
      | zero => exact absurd HA.out (by simp [pelotonlaw10_SliceCuts.j3])
      | succ kj37 =>
       have H := HA.out
       clear HA
       simp only [pelotonlaw10_SliceCuts.j3] at H
       have HC70 := Aside0.mk H
       clear H
       go_upto_if 93 with (fail)
       go_cut [] (fun wc => ∃ (kq : Nat), Aside0 (pelotonlaw10_SliceCuts.j4 kq a2 t171 t175 a0_0 a0_1 a0_2 a0_3 a0_4 a0_5 a1_0 a1_1 t169 t170 t173 t174 = some r) ∧ Aside0 (kq ≤ kj37) ∧ Aside0 (wc.heap[gb159]? = some (.cells #[.int .i64 a0_0, .int .i64 a0_1, .int .i64 a0_2, .int .i64 a0_3, .int .i64 a0_4, .int .i64 a0_5] 23 (0, 0))) ∧ Aside0 (wc.heap[gb160]? = some (.cells #[.int .i64 a1_0, .int .i64 a1_1] 25 (0, 0))) ∧ Aside0 (wc.heap[gb168]? = some (.cells #[.int .i64 t165, .int .i64 t166] 29 (0, 0))) ∧ Aside0 (wc.heap[gb172]? = some (.cells #[.int .i64 t169, .int .i64 t170] 29 (0, 0))) ∧ Aside0 (wc.heap[gb176]? = some (.cells #[.int .i64 t173, .int .i64 t174] 29 (0, 0))) ∧ Aside0 (Below w.heap.size w wc))
       case first =>
        have H := HC70.out
        clear HC70
        by_cases c71 : x93_37 = true
        ·
         subst c71
         have H1 : (if t167 = 2 then (if (!(t165 == 0) || (!(t166 == 0))) = true then (some false) else (pelotonlaw10_SliceCuts.j4 kj37 a2 t171 t175 a0_0 a0_1 a0_2 a0_3 a0_4 a0_5 a1_0 a1_1 t169 t170 t173 t174)) else (some false)) = some r := by rw [if_pos rfl] at H; exact H
         clear H
         have H := H1
         clear H1
         by_cases c72 : t167 = 2
         rotate_left
         ·
          rw [if_neg c72] at H
          have c72b0 : (t167 == 2) = false := beq_eq_false_iff_ne.mpr c72
          have c72b1 : (t167 != 2) = true := bne_iff_ne.mpr c72
          (first | rw [c72b0] | (simp only [i64_w, i32_w]; rw [c72b0]) | skip)
          obtain rfl := Option.some.inj H
          go_wp2
          go_ret
          exact ⟨by first | rfl | (simp [errW_none, errW_some] <;> rfl) | (simp [*, errW_none, errW_some] <;> rfl), by repeat (first | (with_reducible first | exact HB.out | apply b_a | apply b_n | apply b_d | refine b_s ?_ GE159.out | refine b_s ?_ GE160.out | refine b_s ?_ GE168.out | refine b_s ?_ GE172.out | refine b_s ?_ GE176.out) | exact HB.out)⟩
         rw [if_pos c72] at H
         have c72b0 : (t167 == 2) = true := beq_iff_eq.mpr c72
         have c72b1 : (t167 != 2) = false := bne_eq_false_iff_eq.mpr c72
         clear c72
         (first | rw [c72b0] | (simp only [i64_w, i32_w]; rw [c72b0]) | skip)
         by_cases c73 : (!(t165 == 0) || (!(t166 == 0))) = true
         ·
          rw [if_pos c73] at H
          have c73b0 : (!(t165 == 0) || (!(t166 == 0))) = true := c73
          clear c73
          obtain rfl := Option.some.inj H
          have hnb74 := NB168_159.out
          have hnc74 := NB159_168.out
          have hnb75 := NB168_160.out
          have hnc75 := NB160_168.out
          have hnb76 := NB168_172.out
          have hnc76 := NB172_168.out
          have hnb77 := NB168_176.out
          have hnc77 := NB176_168.out
          have hcz78_0 : wc.cell? ⟨gb168, 0, none⟩ = some (.int .i64 t165) := (blk_cell BK168.out 0).trans rfl
          have hcz78_1 : wc.cell? ⟨gb168, 1, none⟩ = some (.int .i64 t166) := (blk_cell BK168.out 1).trans rfl
          have hfz78_0 := blk_frozen BK168.out 0
          have hfz78_1 := blk_frozen BK168.out 1
          go_wp2
          go_ret
          exact ⟨by first | rfl | (simp [errW_none, errW_some] <;> rfl) | (simp [*, errW_none, errW_some] <;> rfl), by repeat (first | (with_reducible first | exact HB.out | apply b_a | apply b_n | apply b_d | refine b_s ?_ GE159.out | refine b_s ?_ GE160.out | refine b_s ?_ GE168.out | refine b_s ?_ GE172.out | refine b_s ?_ GE176.out) | exact HB.out)⟩
         rw [if_neg c73] at H
         have c73b0 : (!(t165 == 0) || (!(t166 == 0))) = false := by simpa using c73
         clear c73
         have H' := Aside0.mk H
         clear H
         have hnb79 := NB168_159.out
         have hnc79 := NB159_168.out
         have hnb80 := NB168_160.out
         have hnc80 := NB160_168.out
         have hnb81 := NB168_172.out
         have hnc81 := NB172_168.out
         have hnb82 := NB168_176.out
         have hnc82 := NB176_168.out
         have hcz83_0 : wc.cell? ⟨gb168, 0, none⟩ = some (.int .i64 t165) := (blk_cell BK168.out 0).trans rfl
         have hcz83_1 : wc.cell? ⟨gb168, 1, none⟩ = some (.int .i64 t166) := (blk_cell BK168.out 1).trans rfl
         have hfz83_0 := blk_frozen BK168.out 0
         have hfz83_1 := blk_frozen BK168.out 1
         go_wp2
         go_meet
         case rel => exact ⟨_, H', ⟨by have := HJ6.out; have := HJ17.out; have := HJ37.out; first | omega | exact Nat.le_refl _⟩, ⟨by (with_reducible repeat (first | refine k_n ?_ _ | refine k_d ?_ | refine k_a ?_ _)); exact BK159.out⟩, ⟨by (with_reducible repeat (first | refine k_n ?_ _ | refine k_d ?_ | refine k_a ?_ _)); exact BK160.out⟩, ⟨by (with_reducible repeat (first | refine k_n ?_ _ | refine k_d ?_ | refine k_a ?_ _)); exact BK168.out⟩, ⟨by (with_reducible repeat (first | refine k_n ?_ _ | refine k_d ?_ | refine k_a ?_ _)); exact BK172.out⟩, ⟨by (with_reducible repeat (first | refine k_n ?_ _ | refine k_d ?_ | refine k_a ?_ _)); exact BK176.out⟩, ⟨by repeat (first | (with_reducible first | exact HB.out | apply b_a | apply b_n | apply b_d | refine b_s ?_ GE159.out | refine b_s ?_ GE160.out | refine b_s ?_ GE168.out | refine b_s ?_ GE172.out | refine b_s ?_ GE176.out) | exact HB.out)⟩⟩
        replace c71 := Bool.eq_false_iff.mpr c71
        subst c71
        have H1 : (if t167 = 0 then ((pelotonref10_Span.f a2 a0_0 a1_0).bind fun bt177 => (if (!(t165 == bt177.1) || (!(t166 == bt177.2))) = true then (some false) else (pelotonlaw10_SliceCuts.j4 kj37 a2 t171 t175 a0_0 a0_1 a0_2 a0_3 a0_4 a0_5 a1_0 a1_1 t169 t170 t173 t174))) else (some false)) = some r := by rw [if_neg (show ¬ (false = true) by decide)] at H; exact H
        clear H
        have H := H1
        clear H1
        by_cases c84 : t167 = 0
        rotate_left
        ·
         rw [if_neg c84] at H
         have c84b0 : (t167 == 0) = false := beq_eq_false_iff_ne.mpr c84
         have c84b1 : (t167 != 0) = true := bne_iff_ne.mpr c84
         obtain rfl := Option.some.inj H
         try go_wp2
         have n0_ := Aside0.mk (k_d BK159.out)
         have n1_ := Aside0.mk (k_d BK160.out)
         have n2_ := Aside0.mk (k_d BK168.out)
         have n3_ := Aside0.mk (k_d BK172.out)
         have n4_ := Aside0.mk (k_d BK176.out)
         have n5_ := Aside0.mk (b_d HB.out)
         clear BK159
         clear BK160
         clear BK168
         clear BK172
         clear BK176
         clear HB
         have BK159 := n0_
         have BK160 := n1_
         have BK168 := n2_
         have BK172 := n3_
         have BK176 := n4_
         have HB := n5_
         clear n0_ n1_ n2_ n3_ n4_ n5_
         refine start_ (n := 12) (S := fun w' => True) (ds := []) #[false, false, false, false, false, false, false, false, false, false, false, false] (by kernel_rfl) rfl rfl trivial (fun hHeld => ?_); refine with_tabW pelotonlaw10_SliceCuts.tab17 pelotonlaw10_SliceCuts.bits17 (fun HT_ HW_ => ?_)
         generalize wc.drew = w91 at BK159 BK160 BK168 BK172 BK176 HB hHeld ⊢
         refine pure_ (i := 0) (N := some 101) (v := ?_) (a' := ?_) #[true, false, false, false, false, false, false, false, false, false, false, false] rfl rfl (any_of HT_.out (by kernel_rfl)) (fun _ _ _ h => h) (Or.inl ⟨by rfl, ?_⟩) ?_ ?_
         rotate_left
         ·
          intro w'
          go_simp
          with_reducible rfl
         rotate_left
         ·
          simp only [Act.put, l_1, l_2, l_3, i64_w, i32_w]
          rfl
         refine pure_ (i := 1) (N := some 102) (v := ?_) (a' := ?_) #[true, true, false, false, false, false, false, false, false, false, false, false] rfl rfl (any_of HT_.out (by kernel_rfl)) (fun _ _ _ h => h) (Or.inl ⟨by rfl, ?_⟩) ?_ ?_
         rotate_left
         ·
          intro w'
          go_simp
          with_reducible rfl
         rotate_left
         ·
          simp only [Act.put, l_1, l_2, l_3, i64_w, i32_w]
          rfl
         refine pure_ (i := 2) (N := some 103) (v := ?_) (a' := ?_) #[true, true, true, false, false, false, false, false, false, false, false, false] rfl rfl (any_of HT_.out (by kernel_rfl)) (fun _ _ _ h => h) (Or.inl ⟨by rfl, ?_⟩) ?_ ?_
         rotate_left
         ·
          intro w'
          go_simp
          with_reducible rfl
         rotate_left
         ·
          simp only [Act.put, l_1, l_2, l_3, i64_w, i32_w]
          rfl
         refine pure_ (i := 3) (N := some 104) (v := undef) (a' := ?_) #[true, true, true, true, false, false, false, false, false, false, false, false] rfl rfl (any_of HT_.out (by kernel_rfl)) (fun _ _ _ h => h) (Or.inr ⟨by rfl, rfl⟩) ?_ ?_
         rotate_left
         ·
          simp only [Act.put, l_1, l_2, l_3, i64_w, i32_w]
          rfl
         refine pure_ (i := 4) (N := some 105) (v := undef) (a' := ?_) #[true, true, true, true, true, false, false, false, false, false, false, false] rfl rfl (any_of HT_.out (by kernel_rfl)) (fun _ _ _ h => h) (Or.inr ⟨by rfl, rfl⟩) ?_ ?_
         rotate_left
         ·
          simp only [Act.put, l_1, l_2, l_3, i64_w, i32_w]
          rfl
         refine pure_ (i := 5) (N := some 106) (v := undef) (a' := ?_) #[true, true, true, true, true, true, false, false, false, false, false, false] rfl rfl (any_of HT_.out (by kernel_rfl)) (fun _ _ _ h => h) (Or.inr ⟨by rfl, rfl⟩) ?_ ?_
         rotate_left
         ·
          simp only [Act.put, l_1, l_2, l_3, i64_w, i32_w]
          rfl
         refine pure_ (i := 6) (N := some 107) (v := undef) (a' := ?_) #[true, true, true, true, true, true, true, false, false, false, false, false] rfl rfl (any_of HT_.out (by kernel_rfl)) (fun _ _ _ h => h) (Or.inr ⟨by rfl, rfl⟩) ?_ ?_
         rotate_left
         ·
          simp only [Act.put, l_1, l_2, l_3, i64_w, i32_w]
          rfl
         refine pure_ (i := 7) (N := some 108) (v := undef) (a' := ?_) #[true, true, true, true, true, true, true, true, false, false, false, false] rfl rfl (any_of HT_.out (by kernel_rfl)) (fun _ _ _ h => h) (Or.inr ⟨by rfl, rfl⟩) ?_ ?_
         rotate_left
         ·
          simp only [Act.put, l_1, l_2, l_3, i64_w, i32_w]
          rfl
         refine pure_ (i := 8) (N := some 109) (v := undef) (a' := ?_) #[true, true, true, true, true, true, true, true, true, false, false, false] rfl rfl (any_of HT_.out (by kernel_rfl)) (fun _ _ _ h => h) (Or.inr ⟨by rfl, rfl⟩) ?_ ?_
         rotate_left
         ·
          simp only [Act.put, l_1, l_2, l_3, i64_w, i32_w]
          rfl
         refine pure_ (i := 9) (N := some 110) (v := undef) (a' := ?_) #[true, true, true, true, true, true, true, true, true, true, false, false] rfl rfl (any_of HT_.out (by kernel_rfl)) (fun _ _ _ h => h) (Or.inr ⟨by rfl, rfl⟩) ?_ ?_
         rotate_left
         ·
          simp only [Act.put, l_1, l_2, l_3, i64_w, i32_w]
          rfl
         refine pure_ (i := 10) (N := some 111) (v := undef) (a' := ?_) #[true, true, true, true, true, true, true, true, true, true, true, false] rfl rfl (any_of HT_.out (by kernel_rfl)) (fun _ _ _ h => h) (Or.inr ⟨by rfl, rfl⟩) ?_ ?_
         rotate_left
         ·
          simp only [Act.put, l_1, l_2, l_3, i64_w, i32_w]
          rfl
         refine pure_ (i := 11) (N := some 112) (v := ?_) (a' := ?_) #[true, true, true, true, true, true, true, true, true, true, true, true] rfl rfl (any_of HT_.out (by kernel_rfl)) (fun _ _ _ h => h) (Or.inl ⟨by rfl, ?_⟩) ?_ ?_
         rotate_left
         ·
          intro w'
          go_simp
          with_reducible rfl
         rotate_left
         ·
          simp only [Act.put, l_1, l_2, l_3, i64_w, i32_w]
          rfl
         refine done_ (done_of HT_.out (by kernel_rfl)) ?_
         try go_wp2
         go_ret
         exact ⟨by first | rfl | (simp [errW_none, errW_some] <;> rfl) | (simp [*, errW_none, errW_some] <;> rfl), by repeat (first | (with_reducible first | exact HB.out | apply b_a | apply b_n | apply b_d | refine b_s ?_ GE159.out | refine b_s ?_ GE160.out | refine b_s ?_ GE168.out | refine b_s ?_ GE172.out | refine b_s ?_ GE176.out) | exact HB.out)⟩
        rw [if_pos c84] at H
        have c84b0 : (t167 == 0) = true := beq_iff_eq.mpr c84
        have c84b1 : (t167 != 0) = false := bne_eq_false_iff_eq.mpr c84
        clear c84
        replace H := Option.bind_eq_some_iff.mp H
        obtain ⟨⟨t177, t178⟩, A850, H⟩ := H
        replace H : (if (!(t165 == t177) || (!(t166 == t178))) = true then (some false) else (pelotonlaw10_SliceCuts.j4 kj37 a2 t171 t175 a0_0 a0_1 a0_2 a0_3 a0_4 a0_5 a1_0 a1_1 t169 t170 t173 t174)) = some r := H
        have A85 := Aside0.mk A850
        clear A850
        by_cases c86 : (!(t165 == t177) || (!(t166 == t178))) = true
        ·
         rw [if_pos c86] at H
         have c86b0 : (!(t165 == t177) || (!(t166 == t178))) = true := c86
         clear c86
         obtain rfl := Option.some.inj H
         try go_wp2
         have n0_ := Aside0.mk (k_d BK159.out)
         have n1_ := Aside0.mk (k_d BK160.out)
         have n2_ := Aside0.mk (k_d BK168.out)
         have n3_ := Aside0.mk (k_d BK172.out)
         have n4_ := Aside0.mk (k_d BK176.out)
         have n5_ := Aside0.mk (b_d HB.out)
         clear BK159
         clear BK160
         clear BK168
         clear BK172
         clear BK176
         clear HB
         have BK159 := n0_
         have BK160 := n1_
         have BK168 := n2_
         have BK172 := n3_
         have BK176 := n4_
         have HB := n5_
         clear n0_ n1_ n2_ n3_ n4_ n5_
         refine start_ (n := 12) (S := fun w' => w'.cell? ⟨gb168, 0, none⟩ = some (.int .i64 t165) ∧ w'.cell? ⟨gb168, 1, none⟩ = some (.int .i64 t166) ∧ w'.cell? ⟨gb159, 0, none⟩ = some (.int .i64 a0_0) ∧ w'.cell? ⟨gb159, 1, none⟩ = some (.int .i64 a0_1) ∧ w'.cell? ⟨gb159, 2, none⟩ = some (.int .i64 a0_2) ∧ w'.cell? ⟨gb159, 3, none⟩ = some (.int .i64 a0_3) ∧ w'.cell? ⟨gb159, 4, none⟩ = some (.int .i64 a0_4) ∧ w'.cell? ⟨gb159, 5, none⟩ = some (.int .i64 a0_5) ∧ w'.cell? ⟨gb160, 0, none⟩ = some (.int .i64 a1_0) ∧ w'.cell? ⟨gb160, 1, none⟩ = some (.int .i64 a1_1)) (ds := []) #[false, false, false, false, false, false, false, false, false, false, false, false] (by kernel_rfl) rfl rfl ⟨(blk_cell BK168.out 0).trans rfl, (blk_cell BK168.out 1).trans rfl, (blk_cell BK159.out 0).trans rfl, (blk_cell BK159.out 1).trans rfl, (blk_cell BK159.out 2).trans rfl, (blk_cell BK159.out 3).trans rfl, (blk_cell BK159.out 4).trans rfl, (blk_cell BK159.out 5).trans rfl, (blk_cell BK160.out 0).trans rfl, (blk_cell BK160.out 1).trans rfl⟩ (fun hHeld => ?_); refine with_tabW pelotonlaw10_SliceCuts.tab17 pelotonlaw10_SliceCuts.bits17 (fun HT_ HW_ => ?_)
         generalize wc.drew = w87 at BK159 BK160 BK168 BK172 BK176 HB hHeld ⊢
         refine pure_ (i := 0) (N := some 101) (v := ?_) (a' := ?_) #[true, false, false, false, false, false, false, false, false, false, false, false] rfl rfl (any_of HT_.out (by kernel_rfl)) (fun _ _ _ h => h) (Or.inl ⟨by rfl, ?_⟩) ?_ ?_
         rotate_left
         ·
          intro w'
          go_simp
          with_reducible rfl
         rotate_left
         ·
          simp only [Act.put, l_1, l_2, l_3, i64_w, i32_w]
          rfl
         refine pure_ (i := 1) (N := some 102) (v := ?_) (a' := ?_) #[true, true, false, false, false, false, false, false, false, false, false, false] rfl rfl (any_of HT_.out (by kernel_rfl)) (fun _ _ _ h => h) (Or.inl ⟨by rfl, ?_⟩) ?_ ?_
         rotate_left
         ·
          intro w'
          go_simp
          with_reducible rfl
         rotate_left
         ·
          simp only [Act.put, l_1, l_2, l_3, i64_w, i32_w]
          rfl
         refine pure_ (i := 2) (N := some 103) (v := ?_) (a' := ?_) #[true, true, true, false, false, false, false, false, false, false, false, false] rfl rfl (any_of HT_.out (by kernel_rfl)) (fun _ _ _ h => h) (Or.inl ⟨by rfl, ?_⟩) ?_ ?_
         rotate_left
         ·
          intro w'
          go_simp
          with_reducible rfl
         rotate_left
         ·
          simp only [Act.put, l_1, l_2, l_3, i64_w, i32_w]
          rfl
         refine pure_ (i := 4) (N := some 105) (v := ?_) (a' := ?_) #[true, true, true, false, true, false, false, false, false, false, false, false] rfl rfl (any_of HT_.out (by kernel_rfl)) (fun _ _ _ h => h) (Or.inl ⟨by rfl, ?_⟩) ?_ ?_
         rotate_left
         ·
          intro w'
          go_simp
          with_reducible rfl
         rotate_left
         ·
          simp only [Act.put, l_1, l_2, l_3, i64_w, i32_w]
          rfl
         refine pure_ (i := 5) (N := some 106) (v := ?_) (a' := ?_) #[true, true, true, false, true, true, false, false, false, false, false, false] rfl rfl (any_of HT_.out (by kernel_rfl)) (fun _ _ _ h => h) (Or.inl ⟨by rfl, ?_⟩) ?_ ?_
         rotate_left
         ·
          intro w'
          go_simp
          with_reducible rfl
         rotate_left
         ·
          simp only [Act.put, l_1, l_2, l_3, i64_w, i32_w]
          rfl
         refine pure_ (i := 7) (N := some 108) (v := ?_) (a' := ?_) #[true, true, true, false, true, true, false, true, false, false, false, false] rfl rfl (any_of HT_.out (by kernel_rfl)) (fun _ _ _ h => h) (Or.inl ⟨by rfl, ?_⟩) ?_ ?_
         rotate_left
         ·
          intro w'
          go_simp
          with_reducible rfl
         rotate_left
         ·
          simp only [Act.put, l_1, l_2, l_3, i64_w, i32_w]
          rfl
         refine take_ (i := 3) (N := some 104) (v := ?_) (a' := ?_) #[true, true, true, true, true, true, false, true, false, false, false, false] rfl rfl (take_ofW HT_.out HW_.out (by kernel_rfl)) (fun _ _ _ h => h) (Or.inl ⟨by rfl, ?_⟩) hHeld ?_ ?_
         rotate_left
         ·
          rintro w' ⟨s0, s1, s2, s3, s4, s5, s6, s7, s8, s9⟩
          go_simp
          with_reducible rfl
         rotate_left
         ·
          simp only [Act.put, l_1, l_2, l_3, i64_w, i32_w]
          rfl
         refine take_ (i := 6) (N := some 107) (v := ?_) (a' := ?_) #[true, true, true, true, true, true, true, true, false, false, false, false] rfl rfl (take_ofW HT_.out HW_.out (by kernel_rfl)) (fun _ _ _ h => h) (Or.inl ⟨by rfl, ?_⟩) hHeld ?_ ?_
         rotate_left
         ·
          rintro w' ⟨s0, s1, s2, s3, s4, s5, s6, s7, s8, s9⟩
          go_simp
          with_reducible rfl
         rotate_left
         ·
          simp only [Act.put, l_1, l_2, l_3, i64_w, i32_w]
          rfl
         refine take_ (i := 8) (N := some 109) (v := ?_) (a' := ?_) #[true, true, true, true, true, true, true, true, true, false, false, false] rfl rfl (take_ofW HT_.out HW_.out (by kernel_rfl)) (fun _ _ _ h => h) (Or.inl ⟨by rfl, ?_⟩) hHeld ?_ ?_
         rotate_left
         ·
          rintro w' ⟨s0, s1, s2, s3, s4, s5, s6, s7, s8, s9⟩
          go_simp
          with_reducible rfl
         rotate_left
         ·
          simp only [Act.put, l_1, l_2, l_3, i64_w, i32_w]
          rfl
         refine one_ (i := 9) (N := some 110) #[true, true, true, true, true, true, true, true, true, true, false, false] rfl rfl (one_of HT_.out (by kernel_rfl)) (by decide) (fun K hK => ?_)
         refine goes_ Try.func14 (by kernel_rfl) rfl #[.int .i64 a2, .int .i64 a0_0, .int .i64 a1_0] (by rfl) rfl rfl (by (try simp only [l_4, l_5, l_6]); first | done | rfl | (simp only [l_7, l_8]; rfl)) ?_
         with_reducible refine (pelotonref10_Span.calls a2 a0_0 a1_0 t177 t178 _ A85.out).mono ?_
         rintro e w88 ⟨rfl, hb⟩
         refine ⟨_, rfl, ?_⟩
         have n0_ := Aside0.mk (blk_below (g := gb159) (o := .cells #[.int .i64 a0_0, .int .i64 a0_1, .int .i64 a0_2, .int .i64 a0_3, .int .i64 a0_4, .int .i64 a0_5] 23 (0, 0)) (by (with_reducible repeat (first | refine k_n ?_ _ | refine k_d ?_ | refine k_a ?_ _)); exact BK159.out) hb)
         have n1_ := Aside0.mk (blk_below (g := gb160) (o := .cells #[.int .i64 a1_0, .int .i64 a1_1] 25 (0, 0)) (by (with_reducible repeat (first | refine k_n ?_ _ | refine k_d ?_ | refine k_a ?_ _)); exact BK160.out) hb)
         have n2_ := Aside0.mk (blk_below (g := gb168) (o := .cells #[.int .i64 t165, .int .i64 t166] 29 (0, 0)) (by (with_reducible repeat (first | refine k_n ?_ _ | refine k_d ?_ | refine k_a ?_ _)); exact BK168.out) hb)
         have n3_ := Aside0.mk (blk_below (g := gb172) (o := .cells #[.int .i64 t169, .int .i64 t170] 29 (0, 0)) (by (with_reducible repeat (first | refine k_n ?_ _ | refine k_d ?_ | refine k_a ?_ _)); exact BK172.out) hb)
         have n4_ := Aside0.mk (blk_below (g := gb176) (o := .cells #[.int .i64 t173, .int .i64 t174] 29 (0, 0)) (by (with_reducible repeat (first | refine k_n ?_ _ | refine k_d ?_ | refine k_a ?_ _)); exact BK176.out) hb)
         have n5_ := Aside0.mk (below_step (by repeat (first | (with_reducible first | exact HB.out | apply b_a | apply b_n | apply b_d | refine b_s ?_ GE159.out | refine b_s ?_ GE160.out | refine b_s ?_ GE168.out | refine b_s ?_ GE172.out | refine b_s ?_ GE176.out) | exact HB.out)) hb)
         clear BK159
         clear BK160
         clear BK168
         clear BK172
         clear BK176
         clear HB
         have BK159 := n0_
         have BK160 := n1_
         have BK168 := n2_
         have BK172 := n3_
         have BK176 := n4_
         have HB := n5_
         clear n0_ n1_ n2_ n3_ n4_ n5_
         (try clear hb)
         (try clear hb2)
         (try clear hk)
         (try clear hi)
         refine hK.out _ _ ⟨(blk_cell BK168.out 0).trans rfl, (blk_cell BK168.out 1).trans rfl, (blk_cell BK159.out 0).trans rfl, (blk_cell BK159.out 1).trans rfl, (blk_cell BK159.out 2).trans rfl, (blk_cell BK159.out 3).trans rfl, (blk_cell BK159.out 4).trans rfl, (blk_cell BK159.out 5).trans rfl, (blk_cell BK160.out 0).trans rfl, (blk_cell BK160.out 1).trans rfl⟩ (fun hHeld => ?_)
         clear hK K
         refine norm_ (a' := ?_) ?_ ?_
         rotate_left
         ·
          show Act.put _ (some 110) _ = _
          simp only [Act.put, l_1, l_2, l_3, i64_w, i32_w]
          rfl
         refine pure_ (i := 10) (N := some 111) (v := ?_) (a' := ?_) #[true, true, true, true, true, true, true, true, true, true, true, false] rfl rfl (any_of HT_.out (by kernel_rfl)) (fun _ _ _ h => h) (Or.inl ⟨by rfl, ?_⟩) ?_ ?_
         rotate_left
         ·
          intro w'
          go_simp
          with_reducible rfl
         rotate_left
         ·
          simp only [Act.put, l_1, l_2, l_3, i64_w, i32_w]
          rfl
         refine pure_ (i := 11) (N := some 112) (v := ?_) (a' := ?_) #[true, true, true, true, true, true, true, true, true, true, true, true] rfl rfl (any_of HT_.out (by kernel_rfl)) (fun _ _ _ h => h) (Or.inl ⟨by rfl, ?_⟩) ?_ ?_
         rotate_left
         ·
          intro w'
          go_simp
          with_reducible rfl
         rotate_left
         ·
          simp only [Act.put, l_1, l_2, l_3, i64_w, i32_w]
          rfl
         refine done_ (done_of HT_.out (by kernel_rfl)) ?_
         try go_wp2
         go_ret
         exact ⟨by first | rfl | (simp [errW_none, errW_some] <;> rfl) | (simp [*, errW_none, errW_some] <;> rfl), by repeat (first | (with_reducible first | exact HB.out | apply b_a | apply b_n | apply b_d | refine b_s ?_ GE159.out | refine b_s ?_ GE160.out | refine b_s ?_ GE168.out | refine b_s ?_ GE172.out | refine b_s ?_ GE176.out) | exact HB.out)⟩
        rw [if_neg c86] at H
        have c86b0 : (!(t165 == t177) || (!(t166 == t178))) = false := by simpa using c86
        clear c86
        have H' := Aside0.mk H
        clear H
        try go_wp2
        have n0_ := Aside0.mk (k_d BK159.out)
        have n1_ := Aside0.mk (k_d BK160.out)
        have n2_ := Aside0.mk (k_d BK168.out)
        have n3_ := Aside0.mk (k_d BK172.out)
        have n4_ := Aside0.mk (k_d BK176.out)
        have n5_ := Aside0.mk (b_d HB.out)
        clear BK159
        clear BK160
        clear BK168
        clear BK172
        clear BK176
        clear HB
        have BK159 := n0_
        have BK160 := n1_
        have BK168 := n2_
        have BK172 := n3_
        have BK176 := n4_
        have HB := n5_
        clear n0_ n1_ n2_ n3_ n4_ n5_
        refine start_ (n := 12) (S := fun w' => w'.cell? ⟨gb168, 0, none⟩ = some (.int .i64 t165) ∧ w'.cell? ⟨gb168, 1, none⟩ = some (.int .i64 t166) ∧ w'.cell? ⟨gb159, 0, none⟩ = some (.int .i64 a0_0) ∧ w'.cell? ⟨gb159, 1, none⟩ = some (.int .i64 a0_1) ∧ w'.cell? ⟨gb159, 2, none⟩ = some (.int .i64 a0_2) ∧ w'.cell? ⟨gb159, 3, none⟩ = some (.int .i64 a0_3) ∧ w'.cell? ⟨gb159, 4, none⟩ = some (.int .i64 a0_4) ∧ w'.cell? ⟨gb159, 5, none⟩ = some (.int .i64 a0_5) ∧ w'.cell? ⟨gb160, 0, none⟩ = some (.int .i64 a1_0) ∧ w'.cell? ⟨gb160, 1, none⟩ = some (.int .i64 a1_1)) (ds := []) #[false, false, false, false, false, false, false, false, false, false, false, false] (by kernel_rfl) rfl rfl ⟨(blk_cell BK168.out 0).trans rfl, (blk_cell BK168.out 1).trans rfl, (blk_cell BK159.out 0).trans rfl, (blk_cell BK159.out 1).trans rfl, (blk_cell BK159.out 2).trans rfl, (blk_cell BK159.out 3).trans rfl, (blk_cell BK159.out 4).trans rfl, (blk_cell BK159.out 5).trans rfl, (blk_cell BK160.out 0).trans rfl, (blk_cell BK160.out 1).trans rfl⟩ (fun hHeld => ?_); refine with_tabW pelotonlaw10_SliceCuts.tab17 pelotonlaw10_SliceCuts.bits17 (fun HT_ HW_ => ?_)
        generalize wc.drew = w89 at BK159 BK160 BK168 BK172 BK176 HB hHeld ⊢
        refine pure_ (i := 0) (N := some 101) (v := ?_) (a' := ?_) #[true, false, false, false, false, false, false, false, false, false, false, false] rfl rfl (any_of HT_.out (by kernel_rfl)) (fun _ _ _ h => h) (Or.inl ⟨by rfl, ?_⟩) ?_ ?_
        rotate_left
        ·
         intro w'
         go_simp
         with_reducible rfl
        rotate_left
        ·
         simp only [Act.put, l_1, l_2, l_3, i64_w, i32_w]
         rfl
        refine pure_ (i := 1) (N := some 102) (v := ?_) (a' := ?_) #[true, true, false, false, false, false, false, false, false, false, false, false] rfl rfl (any_of HT_.out (by kernel_rfl)) (fun _ _ _ h => h) (Or.inl ⟨by rfl, ?_⟩) ?_ ?_
        rotate_left
        ·
         intro w'
         go_simp
         with_reducible rfl
        rotate_left
        ·
         simp only [Act.put, l_1, l_2, l_3, i64_w, i32_w]
         rfl
        refine pure_ (i := 2) (N := some 103) (v := ?_) (a' := ?_) #[true, true, true, false, false, false, false, false, false, false, false, false] rfl rfl (any_of HT_.out (by kernel_rfl)) (fun _ _ _ h => h) (Or.inl ⟨by rfl, ?_⟩) ?_ ?_
        rotate_left
        ·
         intro w'
         go_simp
         with_reducible rfl
        rotate_left
        ·
         simp only [Act.put, l_1, l_2, l_3, i64_w, i32_w]
         rfl
        refine pure_ (i := 4) (N := some 105) (v := ?_) (a' := ?_) #[true, true, true, false, true, false, false, false, false, false, false, false] rfl rfl (any_of HT_.out (by kernel_rfl)) (fun _ _ _ h => h) (Or.inl ⟨by rfl, ?_⟩) ?_ ?_
        rotate_left
        ·
         intro w'
         go_simp
         with_reducible rfl
        rotate_left
        ·
         simp only [Act.put, l_1, l_2, l_3, i64_w, i32_w]
         rfl
        refine pure_ (i := 5) (N := some 106) (v := ?_) (a' := ?_) #[true, true, true, false, true, true, false, false, false, false, false, false] rfl rfl (any_of HT_.out (by kernel_rfl)) (fun _ _ _ h => h) (Or.inl ⟨by rfl, ?_⟩) ?_ ?_
        rotate_left
        ·
         intro w'
         go_simp
         with_reducible rfl
        rotate_left
        ·
         simp only [Act.put, l_1, l_2, l_3, i64_w, i32_w]
         rfl
        refine pure_ (i := 7) (N := some 108) (v := ?_) (a' := ?_) #[true, true, true, false, true, true, false, true, false, false, false, false] rfl rfl (any_of HT_.out (by kernel_rfl)) (fun _ _ _ h => h) (Or.inl ⟨by rfl, ?_⟩) ?_ ?_
        rotate_left
        ·
         intro w'
         go_simp
         with_reducible rfl
        rotate_left
        ·
         simp only [Act.put, l_1, l_2, l_3, i64_w, i32_w]
         rfl
        refine take_ (i := 3) (N := some 104) (v := ?_) (a' := ?_) #[true, true, true, true, true, true, false, true, false, false, false, false] rfl rfl (take_ofW HT_.out HW_.out (by kernel_rfl)) (fun _ _ _ h => h) (Or.inl ⟨by rfl, ?_⟩) hHeld ?_ ?_
        rotate_left
        ·
         rintro w' ⟨s0, s1, s2, s3, s4, s5, s6, s7, s8, s9⟩
         go_simp
         with_reducible rfl
        rotate_left
        ·
         simp only [Act.put, l_1, l_2, l_3, i64_w, i32_w]
         rfl
        refine take_ (i := 6) (N := some 107) (v := ?_) (a' := ?_) #[true, true, true, true, true, true, true, true, false, false, false, false] rfl rfl (take_ofW HT_.out HW_.out (by kernel_rfl)) (fun _ _ _ h => h) (Or.inl ⟨by rfl, ?_⟩) hHeld ?_ ?_
        rotate_left
        ·
         rintro w' ⟨s0, s1, s2, s3, s4, s5, s6, s7, s8, s9⟩
         go_simp
         with_reducible rfl
        rotate_left
        ·
         simp only [Act.put, l_1, l_2, l_3, i64_w, i32_w]
         rfl
        refine take_ (i := 8) (N := some 109) (v := ?_) (a' := ?_) #[true, true, true, true, true, true, true, true, true, false, false, false] rfl rfl (take_ofW HT_.out HW_.out (by kernel_rfl)) (fun _ _ _ h => h) (Or.inl ⟨by rfl, ?_⟩) hHeld ?_ ?_
        rotate_left
        ·
         rintro w' ⟨s0, s1, s2, s3, s4, s5, s6, s7, s8, s9⟩
         go_simp
         with_reducible rfl
        rotate_left
        ·
         simp only [Act.put, l_1, l_2, l_3, i64_w, i32_w]
         rfl
        refine one_ (i := 9) (N := some 110) #[true, true, true, true, true, true, true, true, true, true, false, false] rfl rfl (one_of HT_.out (by kernel_rfl)) (by decide) (fun K hK => ?_)
        refine goes_ Try.func14 (by kernel_rfl) rfl #[.int .i64 a2, .int .i64 a0_0, .int .i64 a1_0] (by rfl) rfl rfl (by (try simp only [l_4, l_5, l_6]); first | done | rfl | (simp only [l_7, l_8]; rfl)) ?_
        with_reducible refine (pelotonref10_Span.calls a2 a0_0 a1_0 t177 t178 _ A85.out).mono ?_
        rintro e w90 ⟨rfl, hb⟩
        refine ⟨_, rfl, ?_⟩
        have n0_ := Aside0.mk (blk_below (g := gb159) (o := .cells #[.int .i64 a0_0, .int .i64 a0_1, .int .i64 a0_2, .int .i64 a0_3, .int .i64 a0_4, .int .i64 a0_5] 23 (0, 0)) (by (with_reducible repeat (first | refine k_n ?_ _ | refine k_d ?_ | refine k_a ?_ _)); exact BK159.out) hb)
        have n1_ := Aside0.mk (blk_below (g := gb160) (o := .cells #[.int .i64 a1_0, .int .i64 a1_1] 25 (0, 0)) (by (with_reducible repeat (first | refine k_n ?_ _ | refine k_d ?_ | refine k_a ?_ _)); exact BK160.out) hb)
        have n2_ := Aside0.mk (blk_below (g := gb168) (o := .cells #[.int .i64 t165, .int .i64 t166] 29 (0, 0)) (by (with_reducible repeat (first | refine k_n ?_ _ | refine k_d ?_ | refine k_a ?_ _)); exact BK168.out) hb)
        have n3_ := Aside0.mk (blk_below (g := gb172) (o := .cells #[.int .i64 t169, .int .i64 t170] 29 (0, 0)) (by (with_reducible repeat (first | refine k_n ?_ _ | refine k_d ?_ | refine k_a ?_ _)); exact BK172.out) hb)
        have n4_ := Aside0.mk (blk_below (g := gb176) (o := .cells #[.int .i64 t173, .int .i64 t174] 29 (0, 0)) (by (with_reducible repeat (first | refine k_n ?_ _ | refine k_d ?_ | refine k_a ?_ _)); exact BK176.out) hb)
        have n5_ := Aside0.mk (below_step (by repeat (first | (with_reducible first | exact HB.out | apply b_a | apply b_n | apply b_d | refine b_s ?_ GE159.out | refine b_s ?_ GE160.out | refine b_s ?_ GE168.out | refine b_s ?_ GE172.out | refine b_s ?_ GE176.out) | exact HB.out)) hb)
        clear BK159
        clear BK160
        clear BK168
        clear BK172
        clear BK176
        clear HB
        have BK159 := n0_
        have BK160 := n1_
        have BK168 := n2_
        have BK172 := n3_
        have BK176 := n4_
        have HB := n5_
        clear n0_ n1_ n2_ n3_ n4_ n5_
        (try clear hb)
        (try clear hb2)
        (try clear hk)
        (try clear hi)
        refine hK.out _ _ ⟨(blk_cell BK168.out 0).trans rfl, (blk_cell BK168.out 1).trans rfl, (blk_cell BK159.out 0).trans rfl, (blk_cell BK159.out 1).trans rfl, (blk_cell BK159.out 2).trans rfl, (blk_cell BK159.out 3).trans rfl, (blk_cell BK159.out 4).trans rfl, (blk_cell BK159.out 5).trans rfl, (blk_cell BK160.out 0).trans rfl, (blk_cell BK160.out 1).trans rfl⟩ (fun hHeld => ?_)
        clear hK K
        refine norm_ (a' := ?_) ?_ ?_
        rotate_left
        ·
         show Act.put _ (some 110) _ = _
         simp only [Act.put, l_1, l_2, l_3, i64_w, i32_w]
         rfl
        refine pure_ (i := 10) (N := some 111) (v := ?_) (a' := ?_) #[true, true, true, true, true, true, true, true, true, true, true, false] rfl rfl (any_of HT_.out (by kernel_rfl)) (fun _ _ _ h => h) (Or.inl ⟨by rfl, ?_⟩) ?_ ?_
        rotate_left
        ·
         intro w'
         go_simp
         with_reducible rfl
        rotate_left
        ·
         simp only [Act.put, l_1, l_2, l_3, i64_w, i32_w]
         rfl
        refine pure_ (i := 11) (N := some 112) (v := ?_) (a' := ?_) #[true, true, true, true, true, true, true, true, true, true, true, true] rfl rfl (any_of HT_.out (by kernel_rfl)) (fun _ _ _ h => h) (Or.inl ⟨by rfl, ?_⟩) ?_ ?_
        rotate_left
        ·
         intro w'
         go_simp
         with_reducible rfl
        rotate_left
        ·
         simp only [Act.put, l_1, l_2, l_3, i64_w, i32_w]
         rfl
        refine done_ (done_of HT_.out (by kernel_rfl)) ?_
        try go_wp2
        go_meet
        case rel => exact ⟨_, H', ⟨by have := HJ6.out; have := HJ17.out; have := HJ37.out; first | omega | exact Nat.le_refl _⟩, ⟨by (with_reducible repeat (first | refine k_n ?_ _ | refine k_d ?_ | refine k_a ?_ _)); exact BK159.out⟩, ⟨by (with_reducible repeat (first | refine k_n ?_ _ | refine k_d ?_ | refine k_a ?_ _)); exact BK160.out⟩, ⟨by (with_reducible repeat (first | refine k_n ?_ _ | refine k_d ?_ | refine k_a ?_ _)); exact BK168.out⟩, ⟨by (with_reducible repeat (first | refine k_n ?_ _ | refine k_d ?_ | refine k_a ?_ _)); exact BK172.out⟩, ⟨by (with_reducible repeat (first | refine k_n ?_ _ | refine k_d ?_ | refine k_a ?_ _)); exact BK176.out⟩, ⟨by repeat (first | (with_reducible first | exact HB.out | apply b_a | apply b_n | apply b_d | refine b_s ?_ GE159.out | refine b_s ?_ GE160.out | refine b_s ?_ GE168.out | refine b_s ?_ GE172.out | refine b_s ?_ GE176.out) | exact HB.out)⟩⟩
       case rest => as_aux_lemma =>
        clear HC70
        try clear c1
        try clear p2
        try clear p6
        try clear c7
        try clear c8
        try clear c14
        try clear c71
        try clear c72
        try clear c72b0
        try clear c72b1
        try clear c73
        try clear c73b0
        try clear c74
        try clear c75
        try clear c76
        try clear c77
        try clear c79
        try clear c80
        try clear c81
        try clear c82
        try clear c84
        try clear c84b0
        try clear c84b1
        try clear c86
        try clear c86b0
        try clear hcz30_2
        try clear hcz30_3
        try clear hcz30_4
        try clear hcz30_5
        try clear hcz31_0
        try clear hcz31_1
        try clear hcz40_0
        try clear hcz40_1
        try clear hcz40_2
        try clear hcz40_3
        try clear hcz40_4
        try clear hcz40_5
        try clear hcz41_0
        try clear hcz41_1
        try clear hcz46_0
        try clear hcz46_1
        try clear hcz47_0
        try clear hcz47_1
        try clear hcz47_2
        try clear hcz47_3
        try clear hcz47_4
        try clear hcz47_5
        try clear hcz48_0
        try clear hcz48_1
        try clear hcz54_0
        try clear hcz54_1
        try clear hcz55_0
        try clear hcz55_1
        try clear hcz55_2
        try clear hcz55_3
        try clear hcz55_4
        try clear hcz55_5
        try clear hcz56_0
        try clear hcz56_1
        try clear hcz63_0
        try clear hcz63_1
        try clear hcz69_0
        try clear hcz69_1
        try clear hcz78_0
        try clear hcz78_1
        try clear hcz83_0
        try clear hcz83_1
        try clear hfz12_0
        try clear hfz12_1
        try clear hfz12_2
        try clear hfz12_3
        try clear hfz12_4
        try clear hfz12_5
        try clear hfz13_0
        try clear hfz13_1
        try clear hfz17_0
        try clear hfz17_1
        try clear hfz22_0
        try clear hfz22_1
        try clear hfz22_2
        try clear hfz22_3
        try clear hfz22_4
        try clear hfz22_5
        try clear hfz23_0
        try clear hfz23_1
        try clear hfz27_0
        try clear hfz27_1
        try clear hfz27_2
        try clear hfz27_3
        try clear hfz27_4
        try clear hfz27_5
        try clear hfz28_0
        try clear hfz28_1
        try clear hfz30_0
        try clear hfz30_1
        try clear hfz30_2
        try clear hfz30_3
        try clear hfz30_4
        try clear hfz30_5
        try clear hfz31_0
        try clear hfz31_1
        try clear hfz40_0
        try clear hfz40_1
        try clear hfz40_2
        try clear hfz40_3
        try clear hfz40_4
        try clear hfz40_5
        try clear hfz41_0
        try clear hfz41_1
        try clear hfz46_0
        try clear hfz46_1
        try clear hfz47_0
        try clear hfz47_1
        try clear hfz47_2
        try clear hfz47_3
        try clear hfz47_4
        try clear hfz47_5
        try clear hfz48_0
        try clear hfz48_1
        try clear hfz54_0
        try clear hfz54_1
        try clear hfz55_0
        try clear hfz55_1
        try clear hfz55_2
        try clear hfz55_3
        try clear hfz55_4
        try clear hfz55_5
        try clear hfz56_0
        try clear hfz56_1
        try clear hfz63_0
        try clear hfz63_1
        try clear hfz69_0
        try clear hfz69_1
        try clear hfz78_0
        try clear hfz78_1
        try clear hfz83_0
        try clear hfz83_1
        try clear p2
        try clear p6
        obtain ⟨kq, HA, HJ69, BK159, BK160, BK168, BK172, BK176, HB⟩ := hcut
        cases kq with
        | zero => exact absurd HA.out (by simp [pelotonlaw10_SliceCuts.j4])
        | succ kj69 =>
         have H := HA.out
         clear HA
         simp only [pelotonlaw10_SliceCuts.j4] at H
         have HC92 := Aside0.mk H
         clear H
         go_upto_region 19 with (fail)
         go_cut [120] (fun v120 wc => ∃ (kq : Nat) (x120_91 : Bool), v120 = .bool x120_91 ∧ Aside0 (pelotonlaw10_SliceCuts.j5 kq a2 t171 t175 x120_91 a0_0 a0_1 a0_2 a0_3 a0_4 a0_5 a1_0 a1_1 t169 t170 t173 t174 = some r) ∧ Aside0 (kq ≤ kj69) ∧ Aside0 (wc.heap[gb159]? = some (.cells #[.int .i64 a0_0, .int .i64 a0_1, .int .i64 a0_2, .int .i64 a0_3, .int .i64 a0_4, .int .i64 a0_5] 23 (0, 0))) ∧ Aside0 (wc.heap[gb160]? = some (.cells #[.int .i64 a1_0, .int .i64 a1_1] 25 (0, 0))) ∧ Aside0 (wc.heap[gb168]? = some (.cells #[.int .i64 t165, .int .i64 t166] 29 (0, 0))) ∧ Aside0 (wc.heap[gb172]? = some (.cells #[.int .i64 t169, .int .i64 t170] 29 (0, 0))) ∧ Aside0 (wc.heap[gb176]? = some (.cells #[.int .i64 t173, .int .i64 t174] 29 (0, 0))) ∧ Aside0 (Below w.heap.size w wc))
         case first =>
          have H := HC92.out
          clear HC92
          by_cases c93 : a2 < 0
          ·
           rw [if_pos c93] at H
           have c93b0 : decide (a2 < 0) = true := decide_eq_true c93
           clear c93
           (first | rw [c93b0] | (simp only [i64_w, i32_w]; rw [c93b0]) | skip)
           have H' := Aside0.mk H
           clear H
           go_wp2
           go_meet
           case rel => exact ⟨_, (true), (by first | rfl | (simp; done) | (simp [*]; done)), H', ⟨by have := HJ6.out; have := HJ17.out; have := HJ37.out; have := HJ69.out; first | omega | exact Nat.le_refl _⟩, ⟨by (with_reducible repeat (first | refine k_n ?_ _ | refine k_d ?_ | refine k_a ?_ _)); exact BK159.out⟩, ⟨by (with_reducible repeat (first | refine k_n ?_ _ | refine k_d ?_ | refine k_a ?_ _)); exact BK160.out⟩, ⟨by (with_reducible repeat (first | refine k_n ?_ _ | refine k_d ?_ | refine k_a ?_ _)); exact BK168.out⟩, ⟨by (with_reducible repeat (first | refine k_n ?_ _ | refine k_d ?_ | refine k_a ?_ _)); exact BK172.out⟩, ⟨by (with_reducible repeat (first | refine k_n ?_ _ | refine k_d ?_ | refine k_a ?_ _)); exact BK176.out⟩, ⟨by repeat (first | (with_reducible first | exact HB.out | apply b_a | apply b_n | apply b_d | refine b_s ?_ GE159.out | refine b_s ?_ GE160.out | refine b_s ?_ GE168.out | refine b_s ?_ GE172.out | refine b_s ?_ GE176.out) | exact HB.out)⟩⟩
          rw [if_neg c93] at H
          have c93b0 : decide (a2 < 0) = false := decide_eq_false c93
          clear c93
          (first | rw [c93b0] | (simp only [i64_w, i32_w]; rw [c93b0]) | skip)
          have H' := Aside0.mk H
          clear H
          have hnb94 := NB160_159.out
          have hnc94 := NB159_160.out
          have hnb95 := NB160_168.out
          have hnc95 := NB168_160.out
          have hnb96 := NB160_172.out
          have hnc96 := NB172_160.out
          have hnb97 := NB160_176.out
          have hnc97 := NB176_160.out
          have hcz98_0 : wc.cell? ⟨gb160, 0, none⟩ = some (.int .i64 a1_0) := (blk_cell BK160.out 0).trans rfl
          have hcz98_1 : wc.cell? ⟨gb160, 1, none⟩ = some (.int .i64 a1_1) := (blk_cell BK160.out 1).trans rfl
          have hfz98_0 := blk_frozen BK160.out 0
          have hfz98_1 := blk_frozen BK160.out 1
          go_wp2
          go_meet
          case rel => exact ⟨_, (decide (a2 ≥ a1_1)), (by first | rfl | (simp; done) | (simp [*]; done)), H', ⟨by have := HJ6.out; have := HJ17.out; have := HJ37.out; have := HJ69.out; first | omega | exact Nat.le_refl _⟩, ⟨by (with_reducible repeat (first | refine k_n ?_ _ | refine k_d ?_ | refine k_a ?_ _)); exact BK159.out⟩, ⟨by (with_reducible repeat (first | refine k_n ?_ _ | refine k_d ?_ | refine k_a ?_ _)); exact BK160.out⟩, ⟨by (with_reducible repeat (first | refine k_n ?_ _ | refine k_d ?_ | refine k_a ?_ _)); exact BK168.out⟩, ⟨by (with_reducible repeat (first | refine k_n ?_ _ | refine k_d ?_ | refine k_a ?_ _)); exact BK172.out⟩, ⟨by (with_reducible repeat (first | refine k_n ?_ _ | refine k_d ?_ | refine k_a ?_ _)); exact BK176.out⟩, ⟨by repeat (first | (with_reducible first | exact HB.out | apply b_a | apply b_n | apply b_d | refine b_s ?_ GE159.out | refine b_s ?_ GE160.out | refine b_s ?_ GE168.out | refine b_s ?_ GE172.out | refine b_s ?_ GE176.out) | exact HB.out)⟩⟩
         case rest => as_aux_lemma =>
          clear HC92
          try clear c1
          try clear p2
          try clear p6
          try clear c7
          try clear c8
          try clear c9
          try clear c14
          try clear c71
          try clear c72
          try clear c72b0
          try clear c72b1
          try clear c73
          try clear c73b0
          try clear c74
          try clear c75
          try clear c76
          try clear c77
          try clear c79
          try clear c80
          try clear c81
          try clear c82
          try clear c84
          try clear c84b0
          try clear c84b1
          try clear c86
          try clear c86b0
          try clear c93
          try clear c93b0
          try clear c94
          try clear c95
          try clear c96
          try clear c97
          try clear hcz30_2
          try clear hcz30_3
          try clear hcz30_4
          try clear hcz30_5
          try clear hcz31_0
          try clear hcz31_1
          try clear hcz40_0
          try clear hcz40_1
          try clear hcz40_2
          try clear hcz40_3
          try clear hcz40_4
          try clear hcz40_5
          try clear hcz41_0
          try clear hcz41_1
          try clear hcz46_0
          try clear hcz46_1
          try clear hcz47_0
          try clear hcz47_1
          try clear hcz47_2
          try clear hcz47_3
          try clear hcz47_4
          try clear hcz47_5
          try clear hcz48_0
          try clear hcz48_1
          try clear hcz54_0
          try clear hcz54_1
          try clear hcz55_0
          try clear hcz55_1
          try clear hcz55_2
          try clear hcz55_3
          try clear hcz55_4
          try clear hcz55_5
          try clear hcz56_0
          try clear hcz56_1
          try clear hcz63_0
          try clear hcz63_1
          try clear hcz69_0
          try clear hcz69_1
          try clear hcz78_0
          try clear hcz78_1
          try clear hcz83_0
          try clear hcz83_1
          try clear hcz98_0
          try clear hcz98_1
          try clear hfz12_0
          try clear hfz12_1
          try clear hfz12_2
          try clear hfz12_3
          try clear hfz12_4
          try clear hfz12_5
          try clear hfz13_0
          try clear hfz13_1
          try clear hfz17_0
          try clear hfz17_1
          try clear hfz22_0
          try clear hfz22_1
          try clear hfz22_2
          try clear hfz22_3
          try clear hfz22_4
          try clear hfz22_5
          try clear hfz23_0
          try clear hfz23_1
          try clear hfz27_0
          try clear hfz27_1
          try clear hfz27_2
          try clear hfz27_3
          try clear hfz27_4
          try clear hfz27_5
          try clear hfz28_0
          try clear hfz28_1
          try clear hfz30_0
          try clear hfz30_1
          try clear hfz30_2
          try clear hfz30_3
          try clear hfz30_4
          try clear hfz30_5
          try clear hfz31_0
          try clear hfz31_1
          try clear hfz40_0
          try clear hfz40_1
          try clear hfz40_2
          try clear hfz40_3
          try clear hfz40_4
          try clear hfz40_5
          try clear hfz41_0
          try clear hfz41_1
          try clear hfz46_0
          try clear hfz46_1
          try clear hfz47_0
          try clear hfz47_1
          try clear hfz47_2
          try clear hfz47_3
          try clear hfz47_4
          try clear hfz47_5
          try clear hfz48_0
          try clear hfz48_1
          try clear hfz54_0
          try clear hfz54_1
          try clear hfz55_0
          try clear hfz55_1
          try clear hfz55_2
          try clear hfz55_3
          try clear hfz55_4
          try clear hfz55_5
          try clear hfz56_0
          try clear hfz56_1
          try clear hfz63_0
          try clear hfz63_1
          try clear hfz69_0
          try clear hfz69_1
          try clear hfz78_0
          try clear hfz78_1
          try clear hfz83_0
          try clear hfz83_1
          try clear hfz98_0
          try clear hfz98_1
          try clear p2
          try clear p6
          obtain ⟨kq, x120_91, rfl, HA, HJ91, BK159, BK160, BK168, BK172, BK176, HB⟩ := hcut
          cases kq with
          | zero => exact absurd HA.out (by simp [pelotonlaw10_SliceCuts.j5])
          | succ kj91 =>
           have H := HA.out
           clear HA
           simp only [pelotonlaw10_SliceCuts.j5] at H
           by_cases c99 : x120_91 = true
           ·
            subst c99
            have H1 : (if t171 = 2 then (if t175 = 2 then (if (t169 == 0 && (t170 == 0)) = true then (pelotonlaw10_SliceCuts.j6 kj91 (t173 == 0 && (t174 == 0))) else (pelotonlaw10_SliceCuts.j6 kj91 false)) else (pelotonlaw10_SliceCuts.j6 kj91 false)) else (pelotonlaw10_SliceCuts.j6 kj91 false)) = some r := by rw [if_pos rfl] at H; exact H
            clear H
            have H := H1
            clear H1
            have HC100 := Aside0.mk H
            clear H
            go_upto_region 20 with (fail)
            go_cut [6] (fun v6 wc => ∃ (kq : Nat) (x6_99 : Bool), v6 = .bool x6_99 ∧ Aside0 (pelotonlaw10_SliceCuts.j6 kq x6_99 = some r) ∧ Aside0 (kq ≤ kj91) ∧ Aside0 (wc.heap[gb159]? = some (.cells #[.int .i64 a0_0, .int .i64 a0_1, .int .i64 a0_2, .int .i64 a0_3, .int .i64 a0_4, .int .i64 a0_5] 23 (0, 0))) ∧ Aside0 (wc.heap[gb160]? = some (.cells #[.int .i64 a1_0, .int .i64 a1_1] 25 (0, 0))) ∧ Aside0 (wc.heap[gb168]? = some (.cells #[.int .i64 t165, .int .i64 t166] 29 (0, 0))) ∧ Aside0 (wc.heap[gb172]? = some (.cells #[.int .i64 t169, .int .i64 t170] 29 (0, 0))) ∧ Aside0 (wc.heap[gb176]? = some (.cells #[.int .i64 t173, .int .i64 t174] 29 (0, 0))) ∧ Aside0 (Below w.heap.size w wc))
            case first =>
             have H := HC100.out
             clear HC100
             by_cases c101 : t171 = 2
             rotate_left
             ·
              rw [if_neg c101] at H
              have c101b0 : (t171 == 2) = false := beq_eq_false_iff_ne.mpr c101
              have c101b1 : (t171 != 2) = true := bne_iff_ne.mpr c101
              (first | rw [c101b0] | (simp only [i64_w, i32_w]; rw [c101b0]) | skip)
              have H' := Aside0.mk H
              clear H
              go_wp2
              go_meet
              case rel => exact ⟨_, (false), (by first | rfl | (simp; done) | (simp [*]; done)), H', ⟨by have := HJ6.out; have := HJ17.out; have := HJ37.out; have := HJ69.out; have := HJ91.out; first | omega | exact Nat.le_refl _⟩, ⟨by (with_reducible repeat (first | refine k_n ?_ _ | refine k_d ?_ | refine k_a ?_ _)); exact BK159.out⟩, ⟨by (with_reducible repeat (first | refine k_n ?_ _ | refine k_d ?_ | refine k_a ?_ _)); exact BK160.out⟩, ⟨by (with_reducible repeat (first | refine k_n ?_ _ | refine k_d ?_ | refine k_a ?_ _)); exact BK168.out⟩, ⟨by (with_reducible repeat (first | refine k_n ?_ _ | refine k_d ?_ | refine k_a ?_ _)); exact BK172.out⟩, ⟨by (with_reducible repeat (first | refine k_n ?_ _ | refine k_d ?_ | refine k_a ?_ _)); exact BK176.out⟩, ⟨by repeat (first | (with_reducible first | exact HB.out | apply b_a | apply b_n | apply b_d | refine b_s ?_ GE159.out | refine b_s ?_ GE160.out | refine b_s ?_ GE168.out | refine b_s ?_ GE172.out | refine b_s ?_ GE176.out) | exact HB.out)⟩⟩
             rw [if_pos c101] at H
             have c101b0 : (t171 == 2) = true := beq_iff_eq.mpr c101
             have c101b1 : (t171 != 2) = false := bne_eq_false_iff_eq.mpr c101
             clear c101
             (first | rw [c101b0] | (simp only [i64_w, i32_w]; rw [c101b0]) | skip)
             by_cases c102 : t175 = 2
             rotate_left
             ·
              rw [if_neg c102] at H
              have c102b0 : (t175 == 2) = false := beq_eq_false_iff_ne.mpr c102
              have c102b1 : (t175 != 2) = true := bne_iff_ne.mpr c102
              have H' := Aside0.mk H
              clear H
              go_wp2
              go_meet
              case rel => exact ⟨_, (false), (by first | rfl | (simp; done) | (simp [*]; done)), H', ⟨by have := HJ6.out; have := HJ17.out; have := HJ37.out; have := HJ69.out; have := HJ91.out; first | omega | exact Nat.le_refl _⟩, ⟨by (with_reducible repeat (first | refine k_n ?_ _ | refine k_d ?_ | refine k_a ?_ _)); exact BK159.out⟩, ⟨by (with_reducible repeat (first | refine k_n ?_ _ | refine k_d ?_ | refine k_a ?_ _)); exact BK160.out⟩, ⟨by (with_reducible repeat (first | refine k_n ?_ _ | refine k_d ?_ | refine k_a ?_ _)); exact BK168.out⟩, ⟨by (with_reducible repeat (first | refine k_n ?_ _ | refine k_d ?_ | refine k_a ?_ _)); exact BK172.out⟩, ⟨by (with_reducible repeat (first | refine k_n ?_ _ | refine k_d ?_ | refine k_a ?_ _)); exact BK176.out⟩, ⟨by repeat (first | (with_reducible first | exact HB.out | apply b_a | apply b_n | apply b_d | refine b_s ?_ GE159.out | refine b_s ?_ GE160.out | refine b_s ?_ GE168.out | refine b_s ?_ GE172.out | refine b_s ?_ GE176.out) | exact HB.out)⟩⟩
             rw [if_pos c102] at H
             have c102b0 : (t175 == 2) = true := beq_iff_eq.mpr c102
             have c102b1 : (t175 != 2) = false := bne_eq_false_iff_eq.mpr c102
             clear c102
             by_cases c103 : (t169 == 0 && (t170 == 0)) = true
             rotate_left
             ·
              rw [if_neg c103] at H
              have c103b0 : (t169 == 0 && (t170 == 0)) = false := by simpa using c103
              (try (have c103b1 : decide (t169 = 0 && (t170 == 0)) = false := by simpa using c103))
              (try (have c103b2 : (t169 == 0 && (t170 == 0)) = false := by simpa using c103))
              (try (have c103b3 : ¬ (t169 = 0 && (t170 == 0)) := by simpa using c103))
              clear c103
              have H' := Aside0.mk H
              clear H
              have hnb113 := NB172_159.out
              have hnc113 := NB159_172.out
              have hnb114 := NB172_160.out
              have hnc114 := NB160_172.out
              have hnb115 := NB172_168.out
              have hnc115 := NB168_172.out
              have hnb116 := NB172_176.out
              have hnc116 := NB176_172.out
              have hcz117_0 : wc.cell? ⟨gb172, 0, none⟩ = some (.int .i64 t169) := (blk_cell BK172.out 0).trans rfl
              have hcz117_1 : wc.cell? ⟨gb172, 1, none⟩ = some (.int .i64 t170) := (blk_cell BK172.out 1).trans rfl
              have hfz117_0 := blk_frozen BK172.out 0
              have hfz117_1 := blk_frozen BK172.out 1
              go_wp2
              go_meet
              case rel => exact ⟨_, (false), (by first | rfl | (simp; done) | (simp [*]; done)), H', ⟨by have := HJ6.out; have := HJ17.out; have := HJ37.out; have := HJ69.out; have := HJ91.out; first | omega | exact Nat.le_refl _⟩, ⟨by (with_reducible repeat (first | refine k_n ?_ _ | refine k_d ?_ | refine k_a ?_ _)); exact BK159.out⟩, ⟨by (with_reducible repeat (first | refine k_n ?_ _ | refine k_d ?_ | refine k_a ?_ _)); exact BK160.out⟩, ⟨by (with_reducible repeat (first | refine k_n ?_ _ | refine k_d ?_ | refine k_a ?_ _)); exact BK168.out⟩, ⟨by (with_reducible repeat (first | refine k_n ?_ _ | refine k_d ?_ | refine k_a ?_ _)); exact BK172.out⟩, ⟨by (with_reducible repeat (first | refine k_n ?_ _ | refine k_d ?_ | refine k_a ?_ _)); exact BK176.out⟩, ⟨by repeat (first | (with_reducible first | exact HB.out | apply b_a | apply b_n | apply b_d | refine b_s ?_ GE159.out | refine b_s ?_ GE160.out | refine b_s ?_ GE168.out | refine b_s ?_ GE172.out | refine b_s ?_ GE176.out) | exact HB.out)⟩⟩
             rw [if_pos c103] at H
             have c103b0 : (t169 == 0 && (t170 == 0)) = true := c103
             (try (have c103b1 : decide (t169 = 0 && (t170 == 0)) = true := by simpa using c103))
             (try (have c103b2 : (t169 == 0 && (t170 == 0)) = true := by simpa using c103))
             clear c103
             have H' := Aside0.mk H
             clear H
             have hnb104 := NB172_159.out
             have hnc104 := NB159_172.out
             have hnb105 := NB172_160.out
             have hnc105 := NB160_172.out
             have hnb106 := NB172_168.out
             have hnc106 := NB168_172.out
             have hnb107 := NB172_176.out
             have hnc107 := NB176_172.out
             have hcz108_0 : wc.cell? ⟨gb172, 0, none⟩ = some (.int .i64 t169) := (blk_cell BK172.out 0).trans rfl
             have hcz108_1 : wc.cell? ⟨gb172, 1, none⟩ = some (.int .i64 t170) := (blk_cell BK172.out 1).trans rfl
             have hfz108_0 := blk_frozen BK172.out 0
             have hfz108_1 := blk_frozen BK172.out 1
             have hnb109 := NB176_159.out
             have hnc109 := NB159_176.out
             have hnb110 := NB176_160.out
             have hnc110 := NB160_176.out
             have hnb111 := NB176_168.out
             have hnc111 := NB168_176.out
             have hcz112_0 : wc.cell? ⟨gb176, 0, none⟩ = some (.int .i64 t173) := (blk_cell BK176.out 0).trans rfl
             have hcz112_1 : wc.cell? ⟨gb176, 1, none⟩ = some (.int .i64 t174) := (blk_cell BK176.out 1).trans rfl
             have hfz112_0 := blk_frozen BK176.out 0
             have hfz112_1 := blk_frozen BK176.out 1
             go_wp2
             go_meet
             case rel => exact ⟨_, ((t173 == 0 && (t174 == 0))), (by first | rfl | (simp; done) | (simp [*]; done)), H', ⟨by have := HJ6.out; have := HJ17.out; have := HJ37.out; have := HJ69.out; have := HJ91.out; first | omega | exact Nat.le_refl _⟩, ⟨by (with_reducible repeat (first | refine k_n ?_ _ | refine k_d ?_ | refine k_a ?_ _)); exact BK159.out⟩, ⟨by (with_reducible repeat (first | refine k_n ?_ _ | refine k_d ?_ | refine k_a ?_ _)); exact BK160.out⟩, ⟨by (with_reducible repeat (first | refine k_n ?_ _ | refine k_d ?_ | refine k_a ?_ _)); exact BK168.out⟩, ⟨by (with_reducible repeat (first | refine k_n ?_ _ | refine k_d ?_ | refine k_a ?_ _)); exact BK172.out⟩, ⟨by (with_reducible repeat (first | refine k_n ?_ _ | refine k_d ?_ | refine k_a ?_ _)); exact BK176.out⟩, ⟨by repeat (first | (with_reducible first | exact HB.out | apply b_a | apply b_n | apply b_d | refine b_s ?_ GE159.out | refine b_s ?_ GE160.out | refine b_s ?_ GE168.out | refine b_s ?_ GE172.out | refine b_s ?_ GE176.out) | exact HB.out)⟩⟩
            case rest => as_aux_lemma =>
             clear HC100
             try clear c1
             try clear p2
             try clear p6
             try clear c7
             try clear c8
             try clear c9
             try clear c10
             try clear c11
             try clear c14
             try clear c71
             try clear c72
             try clear c72b0
             try clear c72b1
             try clear c73
             try clear c73b0
             try clear c74
             try clear c75
             try clear c76
             try clear c77
             try clear c79
             try clear c80
             try clear c81
             try clear c82
             try clear c84
             try clear c84b0
             try clear c84b1
             try clear c86
             try clear c86b0
             try clear c93
             try clear c93b0
             try clear c94
             try clear c95
             try clear c96
             try clear c97
             try clear c99
             try clear c101
             try clear c101b0
             try clear c101b1
             try clear c102
             try clear c102b0
             try clear c102b1
             try clear c103
             try clear c103b0
             try clear c103b1
             try clear c103b2
             try clear c104
             try clear c105
             try clear c106
             try clear c107
             try clear c109
             try clear c110
             try clear c111
             try clear c113
             try clear c114
             try clear c115
             try clear c116
             try clear hcz108_0
             try clear hcz108_1
             try clear hcz112_0
             try clear hcz112_1
             try clear hcz117_0
             try clear hcz117_1
             try clear hcz30_2
             try clear hcz30_3
             try clear hcz30_4
             try clear hcz30_5
             try clear hcz31_0
             try clear hcz31_1
             try clear hcz40_0
             try clear hcz40_1
             try clear hcz40_2
             try clear hcz40_3
             try clear hcz40_4
             try clear hcz40_5
             try clear hcz41_0
             try clear hcz41_1
             try clear hcz46_0
             try clear hcz46_1
             try clear hcz47_0
             try clear hcz47_1
             try clear hcz47_2
             try clear hcz47_3
             try clear hcz47_4
             try clear hcz47_5
             try clear hcz48_0
             try clear hcz48_1
             try clear hcz54_0
             try clear hcz54_1
             try clear hcz55_0
             try clear hcz55_1
             try clear hcz55_2
             try clear hcz55_3
             try clear hcz55_4
             try clear hcz55_5
             try clear hcz56_0
             try clear hcz56_1
             try clear hcz63_0
             try clear hcz63_1
             try clear hcz69_0
             try clear hcz69_1
             try clear hcz78_0
             try clear hcz78_1
             try clear hcz83_0
             try clear hcz83_1
             try clear hcz98_0
             try clear hcz98_1
             try clear hfz108_0
             try clear hfz108_1
             try clear hfz112_0
             try clear hfz112_1
             try clear hfz117_0
             try clear hfz117_1
             try clear hfz12_0
             try clear hfz12_1
             try clear hfz12_2
             try clear hfz12_3
             try clear hfz12_4
             try clear hfz12_5
             try clear hfz13_0
             try clear hfz13_1
             try clear hfz17_0
             try clear hfz17_1
             try clear hfz22_0
             try clear hfz22_1
             try clear hfz22_2
             try clear hfz22_3
             try clear hfz22_4
             try clear hfz22_5
             try clear hfz23_0
             try clear hfz23_1
             try clear hfz27_0
             try clear hfz27_1
             try clear hfz27_2
             try clear hfz27_3
             try clear hfz27_4
             try clear hfz27_5
             try clear hfz28_0
             try clear hfz28_1
             try clear hfz30_0
             try clear hfz30_1
             try clear hfz30_2
             try clear hfz30_3
             try clear hfz30_4
             try clear hfz30_5
             try clear hfz31_0
             try clear hfz31_1
             try clear hfz40_0
             try clear hfz40_1
             try clear hfz40_2
             try clear hfz40_3
             try clear hfz40_4
             try clear hfz40_5
             try clear hfz41_0
             try clear hfz41_1
             try clear hfz46_0
             try clear hfz46_1
             try clear hfz47_0
             try clear hfz47_1
             try clear hfz47_2
             try clear hfz47_3
             try clear hfz47_4
             try clear hfz47_5
             try clear hfz48_0
             try clear hfz48_1
             try clear hfz54_0
             try clear hfz54_1
             try clear hfz55_0
             try clear hfz55_1
             try clear hfz55_2
             try clear hfz55_3
             try clear hfz55_4
             try clear hfz55_5
             try clear hfz56_0
             try clear hfz56_1
             try clear hfz63_0
             try clear hfz63_1
             try clear hfz69_0
             try clear hfz69_1
             try clear hfz78_0
             try clear hfz78_1
             try clear hfz83_0
             try clear hfz83_1
             try clear hfz98_0
             try clear hfz98_1
             try clear p2
             try clear p6
             obtain ⟨kq, x6_99, rfl, HA, HJ99, BK159, BK160, BK168, BK172, BK176, HB⟩ := hcut
             cases kq with
             | zero => exact absurd HA.out (by simp [pelotonlaw10_SliceCuts.j6])
             | succ kj99 =>
              have H := HA.out
              clear HA
              simp only [pelotonlaw10_SliceCuts.j6] at H
              obtain rfl := Option.some.inj H
              go_wp2
              go_ret
              exact ⟨by first | rfl | (simp [errW_none, errW_some] <;> rfl) | (simp [*, errW_none, errW_some] <;> rfl), by repeat (first | (with_reducible first | exact HB.out | apply b_a | apply b_n | apply b_d | refine b_s ?_ GE159.out | refine b_s ?_ GE160.out | refine b_s ?_ GE168.out | refine b_s ?_ GE172.out | refine b_s ?_ GE176.out) | exact HB.out)⟩
           replace c99 := Bool.eq_false_iff.mpr c99
           subst c99
           have H1 : (if t171 = 0 then (if t175 = 0 then ((pelotonref10_Span.f a2 a0_2 a1_1).bind fun bt179 => (if (t169 == bt179.1 && (t170 == bt179.2)) = true then ((pelotonref10_Span.f a2 a0_3 a1_1).bind fun bt181 => (pelotonlaw10_SliceCuts.j7 kj91 (t173 == bt181.1 && (t174 == bt181.2)))) else (pelotonlaw10_SliceCuts.j7 kj91 false))) else (pelotonlaw10_SliceCuts.j7 kj91 false)) else (pelotonlaw10_SliceCuts.j7 kj91 false)) = some r := by rw [if_neg (show ¬ (false = true) by decide)] at H; exact H
           clear H
           have H := H1
           clear H1
           have HC118 := Aside0.mk H
           clear H
           go_upto_region 21 with (fail)
           go_cut [6] (fun v6 wc => ∃ (kq : Nat) (x6_117 : Bool), v6 = .bool x6_117 ∧ Aside0 (pelotonlaw10_SliceCuts.j7 kq x6_117 = some r) ∧ Aside0 (kq ≤ kj91) ∧ Aside0 (wc.heap[gb159]? = some (.cells #[.int .i64 a0_0, .int .i64 a0_1, .int .i64 a0_2, .int .i64 a0_3, .int .i64 a0_4, .int .i64 a0_5] 23 (0, 0))) ∧ Aside0 (wc.heap[gb160]? = some (.cells #[.int .i64 a1_0, .int .i64 a1_1] 25 (0, 0))) ∧ Aside0 (wc.heap[gb168]? = some (.cells #[.int .i64 t165, .int .i64 t166] 29 (0, 0))) ∧ Aside0 (wc.heap[gb172]? = some (.cells #[.int .i64 t169, .int .i64 t170] 29 (0, 0))) ∧ Aside0 (wc.heap[gb176]? = some (.cells #[.int .i64 t173, .int .i64 t174] 29 (0, 0))) ∧ Aside0 (Below w.heap.size w wc))
           case first =>
            have H := HC118.out
            clear HC118
            by_cases c119 : t171 = 0
            rotate_left
            ·
             rw [if_neg c119] at H
             have c119b0 : (t171 == 0) = false := beq_eq_false_iff_ne.mpr c119
             have c119b1 : (t171 != 0) = true := bne_iff_ne.mpr c119
             (first | rw [c119b0] | (simp only [i64_w, i32_w]; rw [c119b0]) | skip)
             have H' := Aside0.mk H
             clear H
             try go_wp2
             have n0_ := Aside0.mk (k_d BK159.out)
             have n1_ := Aside0.mk (k_d BK160.out)
             have n2_ := Aside0.mk (k_d BK168.out)
             have n3_ := Aside0.mk (k_d BK172.out)
             have n4_ := Aside0.mk (k_d BK176.out)
             have n5_ := Aside0.mk (b_d HB.out)
             clear BK159
             clear BK160
             clear BK168
             clear BK172
             clear BK176
             clear HB
             have BK159 := n0_
             have BK160 := n1_
             have BK168 := n2_
             have BK172 := n3_
             have BK176 := n4_
             have HB := n5_
             clear n0_ n1_ n2_ n3_ n4_ n5_
             refine start_ (n := 27) (S := fun w' => True) (ds := []) #[false, false, false, false, false, false, false, false, false, false, false, false, false, false, false, false, false, false, false, false, false, false, false, false, false, false, false] (by kernel_rfl) rfl rfl trivial (fun hHeld => ?_); refine with_tabW pelotonlaw10_SliceCuts.tab21 pelotonlaw10_SliceCuts.bits21 (fun HT_ HW_ => ?_)
             generalize wc.drew = w130 at BK159 BK160 BK168 BK172 BK176 HB hHeld ⊢
             refine pure_ (i := 0) (N := some 137) (v := ?_) (a' := ?_) #[true, false, false, false, false, false, false, false, false, false, false, false, false, false, false, false, false, false, false, false, false, false, false, false, false, false, false] rfl rfl (any_of HT_.out (by kernel_rfl)) (fun _ _ _ h => h) (Or.inl ⟨by rfl, ?_⟩) ?_ ?_
             rotate_left
             ·
              intro w'
              go_simp
              with_reducible rfl
             rotate_left
             ·
              simp only [Act.put, l_1, l_2, l_3, i64_w, i32_w]
              rfl
             refine pure_ (i := 1) (N := some 138) (v := ?_) (a' := ?_) #[true, true, false, false, false, false, false, false, false, false, false, false, false, false, false, false, false, false, false, false, false, false, false, false, false, false, false] rfl rfl (any_of HT_.out (by kernel_rfl)) (fun _ _ _ h => h) (Or.inl ⟨by rfl, ?_⟩) ?_ ?_
             rotate_left
             ·
              intro w'
              go_simp
              with_reducible rfl
             rotate_left
             ·
              simp only [Act.put, l_1, l_2, l_3, i64_w, i32_w]
              rfl
             refine pure_ (i := 2) (N := some 139) (v := ?_) (a' := ?_) #[true, true, true, false, false, false, false, false, false, false, false, false, false, false, false, false, false, false, false, false, false, false, false, false, false, false, false] rfl rfl (any_of HT_.out (by kernel_rfl)) (fun _ _ _ h => h) (Or.inl ⟨by rfl, ?_⟩) ?_ ?_
             rotate_left
             ·
              intro w'
              go_simp
              with_reducible rfl
             rotate_left
             ·
              simp only [Act.put, l_1, l_2, l_3, i64_w, i32_w]
              rfl
             refine pure_ (i := 3) (N := some 140) (v := undef) (a' := ?_) #[true, true, true, true, false, false, false, false, false, false, false, false, false, false, false, false, false, false, false, false, false, false, false, false, false, false, false] rfl rfl (any_of HT_.out (by kernel_rfl)) (fun _ _ _ h => h) (Or.inr ⟨by rfl, rfl⟩) ?_ ?_
             rotate_left
             ·
              simp only [Act.put, l_1, l_2, l_3, i64_w, i32_w]
              rfl
             refine pure_ (i := 4) (N := some 141) (v := undef) (a' := ?_) #[true, true, true, true, true, false, false, false, false, false, false, false, false, false, false, false, false, false, false, false, false, false, false, false, false, false, false] rfl rfl (any_of HT_.out (by kernel_rfl)) (fun _ _ _ h => h) (Or.inr ⟨by rfl, rfl⟩) ?_ ?_
             rotate_left
             ·
              simp only [Act.put, l_1, l_2, l_3, i64_w, i32_w]
              rfl
             refine pure_ (i := 5) (N := some 142) (v := ?_) (a' := ?_) #[true, true, true, true, true, true, false, false, false, false, false, false, false, false, false, false, false, false, false, false, false, false, false, false, false, false, false] rfl rfl (any_of HT_.out (by kernel_rfl)) (fun _ _ _ h => h) (Or.inl ⟨by rfl, ?_⟩) ?_ ?_
             rotate_left
             ·
              intro w'
              go_simp
              with_reducible rfl
             rotate_left
             ·
              simp only [Act.put, l_1, l_2, l_3, i64_w, i32_w]
              rfl
             refine pure_ (i := 6) (N := some 143) (v := ?_) (a' := ?_) #[true, true, true, true, true, true, true, false, false, false, false, false, false, false, false, false, false, false, false, false, false, false, false, false, false, false, false] rfl rfl (any_of HT_.out (by kernel_rfl)) (fun _ _ _ h => h) (Or.inl ⟨by rfl, ?_⟩) ?_ ?_
             rotate_left
             ·
              intro w'
              go_simp
              with_reducible rfl
             rotate_left
             ·
              simp only [Act.put, l_1, l_2, l_3, i64_w, i32_w]
              rfl
             refine pure_ (i := 7) (N := some 144) (v := undef) (a' := ?_) #[true, true, true, true, true, true, true, true, false, false, false, false, false, false, false, false, false, false, false, false, false, false, false, false, false, false, false] rfl rfl (any_of HT_.out (by kernel_rfl)) (fun _ _ _ h => h) (Or.inr ⟨by rfl, rfl⟩) ?_ ?_
             rotate_left
             ·
              simp only [Act.put, l_1, l_2, l_3, i64_w, i32_w]
              rfl
             refine pure_ (i := 8) (N := some 145) (v := undef) (a' := ?_) #[true, true, true, true, true, true, true, true, true, false, false, false, false, false, false, false, false, false, false, false, false, false, false, false, false, false, false] rfl rfl (any_of HT_.out (by kernel_rfl)) (fun _ _ _ h => h) (Or.inr ⟨by rfl, rfl⟩) ?_ ?_
             rotate_left
             ·
              simp only [Act.put, l_1, l_2, l_3, i64_w, i32_w]
              rfl
             refine pure_ (i := 9) (N := some 146) (v := undef) (a' := ?_) #[true, true, true, true, true, true, true, true, true, true, false, false, false, false, false, false, false, false, false, false, false, false, false, false, false, false, false] rfl rfl (any_of HT_.out (by kernel_rfl)) (fun _ _ _ h => h) (Or.inr ⟨by rfl, rfl⟩) ?_ ?_
             rotate_left
             ·
              simp only [Act.put, l_1, l_2, l_3, i64_w, i32_w]
              rfl
             refine pure_ (i := 10) (N := some 147) (v := undef) (a' := ?_) #[true, true, true, true, true, true, true, true, true, true, true, false, false, false, false, false, false, false, false, false, false, false, false, false, false, false, false] rfl rfl (any_of HT_.out (by kernel_rfl)) (fun _ _ _ h => h) (Or.inr ⟨by rfl, rfl⟩) ?_ ?_
             rotate_left
             ·
              simp only [Act.put, l_1, l_2, l_3, i64_w, i32_w]
              rfl
             refine pure_ (i := 11) (N := some 148) (v := undef) (a' := ?_) #[true, true, true, true, true, true, true, true, true, true, true, true, false, false, false, false, false, false, false, false, false, false, false, false, false, false, false] rfl rfl (any_of HT_.out (by kernel_rfl)) (fun _ _ _ h => h) (Or.inr ⟨by rfl, rfl⟩) ?_ ?_
             rotate_left
             ·
              simp only [Act.put, l_1, l_2, l_3, i64_w, i32_w]
              rfl
             refine pure_ (i := 12) (N := some 149) (v := undef) (a' := ?_) #[true, true, true, true, true, true, true, true, true, true, true, true, true, false, false, false, false, false, false, false, false, false, false, false, false, false, false] rfl rfl (any_of HT_.out (by kernel_rfl)) (fun _ _ _ h => h) (Or.inr ⟨by rfl, rfl⟩) ?_ ?_
             rotate_left
             ·
              simp only [Act.put, l_1, l_2, l_3, i64_w, i32_w]
              rfl
             refine pure_ (i := 13) (N := some 150) (v := undef) (a' := ?_) #[true, true, true, true, true, true, true, true, true, true, true, true, true, true, false, false, false, false, false, false, false, false, false, false, false, false, false] rfl rfl (any_of HT_.out (by kernel_rfl)) (fun _ _ _ h => h) (Or.inr ⟨by rfl, rfl⟩) ?_ ?_
             rotate_left
             ·
              simp only [Act.put, l_1, l_2, l_3, i64_w, i32_w]
              rfl
             refine pure_ (i := 14) (N := some 151) (v := undef) (a' := ?_) #[true, true, true, true, true, true, true, true, true, true, true, true, true, true, true, false, false, false, false, false, false, false, false, false, false, false, false] rfl rfl (any_of HT_.out (by kernel_rfl)) (fun _ _ _ h => h) (Or.inr ⟨by rfl, rfl⟩) ?_ ?_
             rotate_left
             ·
              simp only [Act.put, l_1, l_2, l_3, i64_w, i32_w]
              rfl
             refine pure_ (i := 15) (N := some 152) (v := ?_) (a' := ?_) #[true, true, true, true, true, true, true, true, true, true, true, true, true, true, true, true, false, false, false, false, false, false, false, false, false, false, false] rfl rfl (any_of HT_.out (by kernel_rfl)) (fun _ _ _ h => h) (Or.inl ⟨by rfl, ?_⟩) ?_ ?_
             rotate_left
             ·
              intro w'
              go_simp
              with_reducible rfl
             rotate_left
             ·
              simp only [Act.put, l_1, l_2, l_3, i64_w, i32_w]
              rfl
             refine pure_ (i := 16) (N := some 153) (v := ?_) (a' := ?_) #[true, true, true, true, true, true, true, true, true, true, true, true, true, true, true, true, true, false, false, false, false, false, false, false, false, false, false] rfl rfl (any_of HT_.out (by kernel_rfl)) (fun _ _ _ h => h) (Or.inl ⟨by rfl, ?_⟩) ?_ ?_
             rotate_left
             ·
              intro w'
              go_simp
              with_reducible rfl
             rotate_left
             ·
              simp only [Act.put, l_1, l_2, l_3, i64_w, i32_w]
              rfl
             refine pure_ (i := 17) (N := some 154) (v := undef) (a' := ?_) #[true, true, true, true, true, true, true, true, true, true, true, true, true, true, true, true, true, true, false, false, false, false, false, false, false, false, false] rfl rfl (any_of HT_.out (by kernel_rfl)) (fun _ _ _ h => h) (Or.inr ⟨by rfl, rfl⟩) ?_ ?_
             rotate_left
             ·
              simp only [Act.put, l_1, l_2, l_3, i64_w, i32_w]
              rfl
             refine pure_ (i := 18) (N := some 155) (v := undef) (a' := ?_) #[true, true, true, true, true, true, true, true, true, true, true, true, true, true, true, true, true, true, true, false, false, false, false, false, false, false, false] rfl rfl (any_of HT_.out (by kernel_rfl)) (fun _ _ _ h => h) (Or.inr ⟨by rfl, rfl⟩) ?_ ?_
             rotate_left
             ·
              simp only [Act.put, l_1, l_2, l_3, i64_w, i32_w]
              rfl
             refine pure_ (i := 19) (N := some 156) (v := undef) (a' := ?_) #[true, true, true, true, true, true, true, true, true, true, true, true, true, true, true, true, true, true, true, true, false, false, false, false, false, false, false] rfl rfl (any_of HT_.out (by kernel_rfl)) (fun _ _ _ h => h) (Or.inr ⟨by rfl, rfl⟩) ?_ ?_
             rotate_left
             ·
              simp only [Act.put, l_1, l_2, l_3, i64_w, i32_w]
              rfl
             refine pure_ (i := 20) (N := some 157) (v := undef) (a' := ?_) #[true, true, true, true, true, true, true, true, true, true, true, true, true, true, true, true, true, true, true, true, true, false, false, false, false, false, false] rfl rfl (any_of HT_.out (by kernel_rfl)) (fun _ _ _ h => h) (Or.inr ⟨by rfl, rfl⟩) ?_ ?_
             rotate_left
             ·
              simp only [Act.put, l_1, l_2, l_3, i64_w, i32_w]
              rfl
             refine pure_ (i := 21) (N := some 158) (v := undef) (a' := ?_) #[true, true, true, true, true, true, true, true, true, true, true, true, true, true, true, true, true, true, true, true, true, true, false, false, false, false, false] rfl rfl (any_of HT_.out (by kernel_rfl)) (fun _ _ _ h => h) (Or.inr ⟨by rfl, rfl⟩) ?_ ?_
             rotate_left
             ·
              simp only [Act.put, l_1, l_2, l_3, i64_w, i32_w]
              rfl
             refine pure_ (i := 22) (N := some 159) (v := undef) (a' := ?_) #[true, true, true, true, true, true, true, true, true, true, true, true, true, true, true, true, true, true, true, true, true, true, true, false, false, false, false] rfl rfl (any_of HT_.out (by kernel_rfl)) (fun _ _ _ h => h) (Or.inr ⟨by rfl, rfl⟩) ?_ ?_
             rotate_left
             ·
              simp only [Act.put, l_1, l_2, l_3, i64_w, i32_w]
              rfl
             refine pure_ (i := 23) (N := some 160) (v := undef) (a' := ?_) #[true, true, true, true, true, true, true, true, true, true, true, true, true, true, true, true, true, true, true, true, true, true, true, true, false, false, false] rfl rfl (any_of HT_.out (by kernel_rfl)) (fun _ _ _ h => h) (Or.inr ⟨by rfl, rfl⟩) ?_ ?_
             rotate_left
             ·
              simp only [Act.put, l_1, l_2, l_3, i64_w, i32_w]
              rfl
             refine pure_ (i := 24) (N := some 161) (v := undef) (a' := ?_) #[true, true, true, true, true, true, true, true, true, true, true, true, true, true, true, true, true, true, true, true, true, true, true, true, true, false, false] rfl rfl (any_of HT_.out (by kernel_rfl)) (fun _ _ _ h => h) (Or.inr ⟨by rfl, rfl⟩) ?_ ?_
             rotate_left
             ·
              simp only [Act.put, l_1, l_2, l_3, i64_w, i32_w]
              rfl
             refine pure_ (i := 25) (N := some 162) (v := ?_) (a' := ?_) #[true, true, true, true, true, true, true, true, true, true, true, true, true, true, true, true, true, true, true, true, true, true, true, true, true, true, false] rfl rfl (any_of HT_.out (by kernel_rfl)) (fun _ _ _ h => h) (Or.inl ⟨by rfl, ?_⟩) ?_ ?_
             rotate_left
             ·
              intro w'
              go_simp
              with_reducible rfl
             rotate_left
             ·
              simp only [Act.put, l_1, l_2, l_3, i64_w, i32_w]
              rfl
             refine pure_ (i := 26) (N := some 6) (v := ?_) (a' := ?_) #[true, true, true, true, true, true, true, true, true, true, true, true, true, true, true, true, true, true, true, true, true, true, true, true, true, true, true] rfl rfl (any_of HT_.out (by kernel_rfl)) (fun _ _ _ h => h) (Or.inl ⟨by rfl, ?_⟩) ?_ ?_
             rotate_left
             ·
              intro w'
              go_simp
              with_reducible rfl
             rotate_left
             ·
              simp only [Act.put, l_1, l_2, l_3, i64_w, i32_w]
              rfl
             refine done_ (done_of HT_.out (by kernel_rfl)) ?_
             try go_wp2
             go_meet
             case rel => exact ⟨_, (false), (by first | rfl | (simp; done) | (simp [*]; done)), H', ⟨by have := HJ6.out; have := HJ17.out; have := HJ37.out; have := HJ69.out; have := HJ91.out; first | omega | exact Nat.le_refl _⟩, ⟨by (with_reducible repeat (first | refine k_n ?_ _ | refine k_d ?_ | refine k_a ?_ _)); exact BK159.out⟩, ⟨by (with_reducible repeat (first | refine k_n ?_ _ | refine k_d ?_ | refine k_a ?_ _)); exact BK160.out⟩, ⟨by (with_reducible repeat (first | refine k_n ?_ _ | refine k_d ?_ | refine k_a ?_ _)); exact BK168.out⟩, ⟨by (with_reducible repeat (first | refine k_n ?_ _ | refine k_d ?_ | refine k_a ?_ _)); exact BK172.out⟩, ⟨by (with_reducible repeat (first | refine k_n ?_ _ | refine k_d ?_ | refine k_a ?_ _)); exact BK176.out⟩, ⟨by repeat (first | (with_reducible first | exact HB.out | apply b_a | apply b_n | apply b_d | refine b_s ?_ GE159.out | refine b_s ?_ GE160.out | refine b_s ?_ GE168.out | refine b_s ?_ GE172.out | refine b_s ?_ GE176.out) | exact HB.out)⟩⟩
            rw [if_pos c119] at H
            have c119b0 : (t171 == 0) = true := beq_iff_eq.mpr c119
            have c119b1 : (t171 != 0) = false := bne_eq_false_iff_eq.mpr c119
            clear c119
            (first | rw [c119b0] | (simp only [i64_w, i32_w]; rw [c119b0]) | skip)
            by_cases c120 : t175 = 0
            rotate_left
            ·
             rw [if_neg c120] at H
             have c120b0 : (t175 == 0) = false := beq_eq_false_iff_ne.mpr c120
             have c120b1 : (t175 != 0) = true := bne_iff_ne.mpr c120
             have H' := Aside0.mk H
             clear H
             try go_wp2
             have n0_ := Aside0.mk (k_d BK159.out)
             have n1_ := Aside0.mk (k_d BK160.out)
             have n2_ := Aside0.mk (k_d BK168.out)
             have n3_ := Aside0.mk (k_d BK172.out)
             have n4_ := Aside0.mk (k_d BK176.out)
             have n5_ := Aside0.mk (b_d HB.out)
             clear BK159
             clear BK160
             clear BK168
             clear BK172
             clear BK176
             clear HB
             have BK159 := n0_
             have BK160 := n1_
             have BK168 := n2_
             have BK172 := n3_
             have BK176 := n4_
             have HB := n5_
             clear n0_ n1_ n2_ n3_ n4_ n5_
             refine start_ (n := 27) (S := fun w' => True) (ds := []) #[false, false, false, false, false, false, false, false, false, false, false, false, false, false, false, false, false, false, false, false, false, false, false, false, false, false, false] (by kernel_rfl) rfl rfl trivial (fun hHeld => ?_); refine with_tabW pelotonlaw10_SliceCuts.tab21 pelotonlaw10_SliceCuts.bits21 (fun HT_ HW_ => ?_)
             generalize wc.drew = w129 at BK159 BK160 BK168 BK172 BK176 HB hHeld ⊢
             refine pure_ (i := 0) (N := some 137) (v := ?_) (a' := ?_) #[true, false, false, false, false, false, false, false, false, false, false, false, false, false, false, false, false, false, false, false, false, false, false, false, false, false, false] rfl rfl (any_of HT_.out (by kernel_rfl)) (fun _ _ _ h => h) (Or.inl ⟨by rfl, ?_⟩) ?_ ?_
             rotate_left
             ·
              intro w'
              go_simp
              with_reducible rfl
             rotate_left
             ·
              simp only [Act.put, l_1, l_2, l_3, i64_w, i32_w]
              rfl
             refine pure_ (i := 1) (N := some 138) (v := ?_) (a' := ?_) #[true, true, false, false, false, false, false, false, false, false, false, false, false, false, false, false, false, false, false, false, false, false, false, false, false, false, false] rfl rfl (any_of HT_.out (by kernel_rfl)) (fun _ _ _ h => h) (Or.inl ⟨by rfl, ?_⟩) ?_ ?_
             rotate_left
             ·
              intro w'
              go_simp
              with_reducible rfl
             rotate_left
             ·
              simp only [Act.put, l_1, l_2, l_3, i64_w, i32_w]
              rfl
             refine pure_ (i := 2) (N := some 139) (v := ?_) (a' := ?_) #[true, true, true, false, false, false, false, false, false, false, false, false, false, false, false, false, false, false, false, false, false, false, false, false, false, false, false] rfl rfl (any_of HT_.out (by kernel_rfl)) (fun _ _ _ h => h) (Or.inl ⟨by rfl, ?_⟩) ?_ ?_
             rotate_left
             ·
              intro w'
              go_simp
              with_reducible rfl
             rotate_left
             ·
              simp only [Act.put, l_1, l_2, l_3, i64_w, i32_w]
              rfl
             refine pure_ (i := 3) (N := some 140) (v := ?_) (a' := ?_) #[true, true, true, true, false, false, false, false, false, false, false, false, false, false, false, false, false, false, false, false, false, false, false, false, false, false, false] rfl rfl (any_of HT_.out (by kernel_rfl)) (fun _ _ _ h => h) (Or.inl ⟨by rfl, ?_⟩) ?_ ?_
             rotate_left
             ·
              intro w'
              go_simp
              with_reducible rfl
             rotate_left
             ·
              simp only [Act.put, l_1, l_2, l_3, i64_w, i32_w]
              rfl
             refine pure_ (i := 4) (N := some 141) (v := ?_) (a' := ?_) #[true, true, true, true, true, false, false, false, false, false, false, false, false, false, false, false, false, false, false, false, false, false, false, false, false, false, false] rfl rfl (any_of HT_.out (by kernel_rfl)) (fun _ _ _ h => h) (Or.inl ⟨by rfl, ?_⟩) ?_ ?_
             rotate_left
             ·
              intro w'
              go_simp
              with_reducible rfl
             rotate_left
             ·
              simp only [Act.put, l_1, l_2, l_3, i64_w, i32_w]
              rfl
             refine pure_ (i := 5) (N := some 142) (v := ?_) (a' := ?_) #[true, true, true, true, true, true, false, false, false, false, false, false, false, false, false, false, false, false, false, false, false, false, false, false, false, false, false] rfl rfl (any_of HT_.out (by kernel_rfl)) (fun _ _ _ h => h) (Or.inl ⟨by rfl, ?_⟩) ?_ ?_
             rotate_left
             ·
              intro w'
              go_simp
              with_reducible rfl
             rotate_left
             ·
              simp only [Act.put, l_1, l_2, l_3, i64_w, i32_w]
              rfl
             refine pure_ (i := 6) (N := some 143) (v := ?_) (a' := ?_) #[true, true, true, true, true, true, true, false, false, false, false, false, false, false, false, false, false, false, false, false, false, false, false, false, false, false, false] rfl rfl (any_of HT_.out (by kernel_rfl)) (fun _ _ _ h => h) (Or.inl ⟨by rfl, ?_⟩) ?_ ?_
             rotate_left
             ·
              intro w'
              go_simp
              with_reducible rfl
             rotate_left
             ·
              simp only [Act.put, l_1, l_2, l_3, i64_w, i32_w]
              rfl
             refine pure_ (i := 7) (N := some 144) (v := undef) (a' := ?_) #[true, true, true, true, true, true, true, true, false, false, false, false, false, false, false, false, false, false, false, false, false, false, false, false, false, false, false] rfl rfl (any_of HT_.out (by kernel_rfl)) (fun _ _ _ h => h) (Or.inr ⟨by rfl, rfl⟩) ?_ ?_
             rotate_left
             ·
              simp only [Act.put, l_1, l_2, l_3, i64_w, i32_w]
              rfl
             refine pure_ (i := 8) (N := some 145) (v := undef) (a' := ?_) #[true, true, true, true, true, true, true, true, true, false, false, false, false, false, false, false, false, false, false, false, false, false, false, false, false, false, false] rfl rfl (any_of HT_.out (by kernel_rfl)) (fun _ _ _ h => h) (Or.inr ⟨by rfl, rfl⟩) ?_ ?_
             rotate_left
             ·
              simp only [Act.put, l_1, l_2, l_3, i64_w, i32_w]
              rfl
             refine pure_ (i := 9) (N := some 146) (v := undef) (a' := ?_) #[true, true, true, true, true, true, true, true, true, true, false, false, false, false, false, false, false, false, false, false, false, false, false, false, false, false, false] rfl rfl (any_of HT_.out (by kernel_rfl)) (fun _ _ _ h => h) (Or.inr ⟨by rfl, rfl⟩) ?_ ?_
             rotate_left
             ·
              simp only [Act.put, l_1, l_2, l_3, i64_w, i32_w]
              rfl
             refine pure_ (i := 10) (N := some 147) (v := undef) (a' := ?_) #[true, true, true, true, true, true, true, true, true, true, true, false, false, false, false, false, false, false, false, false, false, false, false, false, false, false, false] rfl rfl (any_of HT_.out (by kernel_rfl)) (fun _ _ _ h => h) (Or.inr ⟨by rfl, rfl⟩) ?_ ?_
             rotate_left
             ·
              simp only [Act.put, l_1, l_2, l_3, i64_w, i32_w]
              rfl
             refine pure_ (i := 11) (N := some 148) (v := undef) (a' := ?_) #[true, true, true, true, true, true, true, true, true, true, true, true, false, false, false, false, false, false, false, false, false, false, false, false, false, false, false] rfl rfl (any_of HT_.out (by kernel_rfl)) (fun _ _ _ h => h) (Or.inr ⟨by rfl, rfl⟩) ?_ ?_
             rotate_left
             ·
              simp only [Act.put, l_1, l_2, l_3, i64_w, i32_w]
              rfl
             refine pure_ (i := 12) (N := some 149) (v := undef) (a' := ?_) #[true, true, true, true, true, true, true, true, true, true, true, true, true, false, false, false, false, false, false, false, false, false, false, false, false, false, false] rfl rfl (any_of HT_.out (by kernel_rfl)) (fun _ _ _ h => h) (Or.inr ⟨by rfl, rfl⟩) ?_ ?_
             rotate_left
             ·
              simp only [Act.put, l_1, l_2, l_3, i64_w, i32_w]
              rfl
             refine pure_ (i := 13) (N := some 150) (v := undef) (a' := ?_) #[true, true, true, true, true, true, true, true, true, true, true, true, true, true, false, false, false, false, false, false, false, false, false, false, false, false, false] rfl rfl (any_of HT_.out (by kernel_rfl)) (fun _ _ _ h => h) (Or.inr ⟨by rfl, rfl⟩) ?_ ?_
             rotate_left
             ·
              simp only [Act.put, l_1, l_2, l_3, i64_w, i32_w]
              rfl
             refine pure_ (i := 14) (N := some 151) (v := undef) (a' := ?_) #[true, true, true, true, true, true, true, true, true, true, true, true, true, true, true, false, false, false, false, false, false, false, false, false, false, false, false] rfl rfl (any_of HT_.out (by kernel_rfl)) (fun _ _ _ h => h) (Or.inr ⟨by rfl, rfl⟩) ?_ ?_
             rotate_left
             ·
              simp only [Act.put, l_1, l_2, l_3, i64_w, i32_w]
              rfl
             refine pure_ (i := 15) (N := some 152) (v := ?_) (a' := ?_) #[true, true, true, true, true, true, true, true, true, true, true, true, true, true, true, true, false, false, false, false, false, false, false, false, false, false, false] rfl rfl (any_of HT_.out (by kernel_rfl)) (fun _ _ _ h => h) (Or.inl ⟨by rfl, ?_⟩) ?_ ?_
             rotate_left
             ·
              intro w'
              go_simp
              with_reducible rfl
             rotate_left
             ·
              simp only [Act.put, l_1, l_2, l_3, i64_w, i32_w]
              rfl
             refine pure_ (i := 16) (N := some 153) (v := ?_) (a' := ?_) #[true, true, true, true, true, true, true, true, true, true, true, true, true, true, true, true, true, false, false, false, false, false, false, false, false, false, false] rfl rfl (any_of HT_.out (by kernel_rfl)) (fun _ _ _ h => h) (Or.inl ⟨by rfl, ?_⟩) ?_ ?_
             rotate_left
             ·
              intro w'
              go_simp
              with_reducible rfl
             rotate_left
             ·
              simp only [Act.put, l_1, l_2, l_3, i64_w, i32_w]
              rfl
             refine pure_ (i := 17) (N := some 154) (v := undef) (a' := ?_) #[true, true, true, true, true, true, true, true, true, true, true, true, true, true, true, true, true, true, false, false, false, false, false, false, false, false, false] rfl rfl (any_of HT_.out (by kernel_rfl)) (fun _ _ _ h => h) (Or.inr ⟨by rfl, rfl⟩) ?_ ?_
             rotate_left
             ·
              simp only [Act.put, l_1, l_2, l_3, i64_w, i32_w]
              rfl
             refine pure_ (i := 18) (N := some 155) (v := undef) (a' := ?_) #[true, true, true, true, true, true, true, true, true, true, true, true, true, true, true, true, true, true, true, false, false, false, false, false, false, false, false] rfl rfl (any_of HT_.out (by kernel_rfl)) (fun _ _ _ h => h) (Or.inr ⟨by rfl, rfl⟩) ?_ ?_
             rotate_left
             ·
              simp only [Act.put, l_1, l_2, l_3, i64_w, i32_w]
              rfl
             refine pure_ (i := 19) (N := some 156) (v := undef) (a' := ?_) #[true, true, true, true, true, true, true, true, true, true, true, true, true, true, true, true, true, true, true, true, false, false, false, false, false, false, false] rfl rfl (any_of HT_.out (by kernel_rfl)) (fun _ _ _ h => h) (Or.inr ⟨by rfl, rfl⟩) ?_ ?_
             rotate_left
             ·
              simp only [Act.put, l_1, l_2, l_3, i64_w, i32_w]
              rfl
             refine pure_ (i := 20) (N := some 157) (v := undef) (a' := ?_) #[true, true, true, true, true, true, true, true, true, true, true, true, true, true, true, true, true, true, true, true, true, false, false, false, false, false, false] rfl rfl (any_of HT_.out (by kernel_rfl)) (fun _ _ _ h => h) (Or.inr ⟨by rfl, rfl⟩) ?_ ?_
             rotate_left
             ·
              simp only [Act.put, l_1, l_2, l_3, i64_w, i32_w]
              rfl
             refine pure_ (i := 21) (N := some 158) (v := undef) (a' := ?_) #[true, true, true, true, true, true, true, true, true, true, true, true, true, true, true, true, true, true, true, true, true, true, false, false, false, false, false] rfl rfl (any_of HT_.out (by kernel_rfl)) (fun _ _ _ h => h) (Or.inr ⟨by rfl, rfl⟩) ?_ ?_
             rotate_left
             ·
              simp only [Act.put, l_1, l_2, l_3, i64_w, i32_w]
              rfl
             refine pure_ (i := 22) (N := some 159) (v := undef) (a' := ?_) #[true, true, true, true, true, true, true, true, true, true, true, true, true, true, true, true, true, true, true, true, true, true, true, false, false, false, false] rfl rfl (any_of HT_.out (by kernel_rfl)) (fun _ _ _ h => h) (Or.inr ⟨by rfl, rfl⟩) ?_ ?_
             rotate_left
             ·
              simp only [Act.put, l_1, l_2, l_3, i64_w, i32_w]
              rfl
             refine pure_ (i := 23) (N := some 160) (v := undef) (a' := ?_) #[true, true, true, true, true, true, true, true, true, true, true, true, true, true, true, true, true, true, true, true, true, true, true, true, false, false, false] rfl rfl (any_of HT_.out (by kernel_rfl)) (fun _ _ _ h => h) (Or.inr ⟨by rfl, rfl⟩) ?_ ?_
             rotate_left
             ·
              simp only [Act.put, l_1, l_2, l_3, i64_w, i32_w]
              rfl
             refine pure_ (i := 24) (N := some 161) (v := undef) (a' := ?_) #[true, true, true, true, true, true, true, true, true, true, true, true, true, true, true, true, true, true, true, true, true, true, true, true, true, false, false] rfl rfl (any_of HT_.out (by kernel_rfl)) (fun _ _ _ h => h) (Or.inr ⟨by rfl, rfl⟩) ?_ ?_
             rotate_left
             ·
              simp only [Act.put, l_1, l_2, l_3, i64_w, i32_w]
              rfl
             refine pure_ (i := 25) (N := some 162) (v := ?_) (a' := ?_) #[true, true, true, true, true, true, true, true, true, true, true, true, true, true, true, true, true, true, true, true, true, true, true, true, true, true, false] rfl rfl (any_of HT_.out (by kernel_rfl)) (fun _ _ _ h => h) (Or.inl ⟨by rfl, ?_⟩) ?_ ?_
             rotate_left
             ·
              intro w'
              go_simp
              with_reducible rfl
             rotate_left
             ·
              simp only [Act.put, l_1, l_2, l_3, i64_w, i32_w]
              rfl
             refine pure_ (i := 26) (N := some 6) (v := ?_) (a' := ?_) #[true, true, true, true, true, true, true, true, true, true, true, true, true, true, true, true, true, true, true, true, true, true, true, true, true, true, true] rfl rfl (any_of HT_.out (by kernel_rfl)) (fun _ _ _ h => h) (Or.inl ⟨by rfl, ?_⟩) ?_ ?_
             rotate_left
             ·
              intro w'
              go_simp
              with_reducible rfl
             rotate_left
             ·
              simp only [Act.put, l_1, l_2, l_3, i64_w, i32_w]
              rfl
             refine done_ (done_of HT_.out (by kernel_rfl)) ?_
             try go_wp2
             go_meet
             case rel => exact ⟨_, (false), (by first | rfl | (simp; done) | (simp [*]; done)), H', ⟨by have := HJ6.out; have := HJ17.out; have := HJ37.out; have := HJ69.out; have := HJ91.out; first | omega | exact Nat.le_refl _⟩, ⟨by (with_reducible repeat (first | refine k_n ?_ _ | refine k_d ?_ | refine k_a ?_ _)); exact BK159.out⟩, ⟨by (with_reducible repeat (first | refine k_n ?_ _ | refine k_d ?_ | refine k_a ?_ _)); exact BK160.out⟩, ⟨by (with_reducible repeat (first | refine k_n ?_ _ | refine k_d ?_ | refine k_a ?_ _)); exact BK168.out⟩, ⟨by (with_reducible repeat (first | refine k_n ?_ _ | refine k_d ?_ | refine k_a ?_ _)); exact BK172.out⟩, ⟨by (with_reducible repeat (first | refine k_n ?_ _ | refine k_d ?_ | refine k_a ?_ _)); exact BK176.out⟩, ⟨by repeat (first | (with_reducible first | exact HB.out | apply b_a | apply b_n | apply b_d | refine b_s ?_ GE159.out | refine b_s ?_ GE160.out | refine b_s ?_ GE168.out | refine b_s ?_ GE172.out | refine b_s ?_ GE176.out) | exact HB.out)⟩⟩
            rw [if_pos c120] at H
            have c120b0 : (t175 == 0) = true := beq_iff_eq.mpr c120
            have c120b1 : (t175 != 0) = false := bne_eq_false_iff_eq.mpr c120
            clear c120
            replace H := Option.bind_eq_some_iff.mp H
            obtain ⟨⟨t179, t180⟩, A1210, H⟩ := H
            replace H : (if (t169 == t179 && (t170 == t180)) = true then ((pelotonref10_Span.f a2 a0_3 a1_1).bind fun bt181 => (pelotonlaw10_SliceCuts.j7 kj91 (t173 == bt181.1 && (t174 == bt181.2)))) else (pelotonlaw10_SliceCuts.j7 kj91 false)) = some r := H
            have A121 := Aside0.mk A1210
            clear A1210
            by_cases c122 : (t169 == t179 && (t170 == t180)) = true
            rotate_left
            ·
             rw [if_neg c122] at H
             have c122b0 : (t169 == t179 && (t170 == t180)) = false := by simpa using c122
             (try (have c122b1 : decide (t169 = t179 && (t170 == t180)) = false := by simpa using c122))
             (try (have c122b2 : (t169 == t179 && (t170 == t180)) = false := by simpa using c122))
             (try (have c122b3 : ¬ (t169 = t179 && (t170 == t180)) := by simpa using c122))
             clear c122
             have H' := Aside0.mk H
             clear H
             try go_wp2
             have n0_ := Aside0.mk (k_d BK159.out)
             have n1_ := Aside0.mk (k_d BK160.out)
             have n2_ := Aside0.mk (k_d BK168.out)
             have n3_ := Aside0.mk (k_d BK172.out)
             have n4_ := Aside0.mk (k_d BK176.out)
             have n5_ := Aside0.mk (b_d HB.out)
             clear BK159
             clear BK160
             clear BK168
             clear BK172
             clear BK176
             clear HB
             have BK159 := n0_
             have BK160 := n1_
             have BK168 := n2_
             have BK172 := n3_
             have BK176 := n4_
             have HB := n5_
             clear n0_ n1_ n2_ n3_ n4_ n5_
             refine start_ (n := 27) (S := fun w' => w'.cell? ⟨gb172, 0, none⟩ = some (.int .i64 t169) ∧ w'.cell? ⟨gb172, 1, none⟩ = some (.int .i64 t170) ∧ w'.cell? ⟨gb159, 0, none⟩ = some (.int .i64 a0_0) ∧ w'.cell? ⟨gb159, 1, none⟩ = some (.int .i64 a0_1) ∧ w'.cell? ⟨gb159, 2, none⟩ = some (.int .i64 a0_2) ∧ w'.cell? ⟨gb159, 3, none⟩ = some (.int .i64 a0_3) ∧ w'.cell? ⟨gb159, 4, none⟩ = some (.int .i64 a0_4) ∧ w'.cell? ⟨gb159, 5, none⟩ = some (.int .i64 a0_5) ∧ w'.cell? ⟨gb160, 0, none⟩ = some (.int .i64 a1_0) ∧ w'.cell? ⟨gb160, 1, none⟩ = some (.int .i64 a1_1)) (ds := []) #[false, false, false, false, false, false, false, false, false, false, false, false, false, false, false, false, false, false, false, false, false, false, false, false, false, false, false] (by kernel_rfl) rfl rfl ⟨(blk_cell BK172.out 0).trans rfl, (blk_cell BK172.out 1).trans rfl, (blk_cell BK159.out 0).trans rfl, (blk_cell BK159.out 1).trans rfl, (blk_cell BK159.out 2).trans rfl, (blk_cell BK159.out 3).trans rfl, (blk_cell BK159.out 4).trans rfl, (blk_cell BK159.out 5).trans rfl, (blk_cell BK160.out 0).trans rfl, (blk_cell BK160.out 1).trans rfl⟩ (fun hHeld => ?_); refine with_tabW pelotonlaw10_SliceCuts.tab21 pelotonlaw10_SliceCuts.bits21 (fun HT_ HW_ => ?_)
             generalize wc.drew = w127 at BK159 BK160 BK168 BK172 BK176 HB hHeld ⊢
             refine pure_ (i := 0) (N := some 137) (v := ?_) (a' := ?_) #[true, false, false, false, false, false, false, false, false, false, false, false, false, false, false, false, false, false, false, false, false, false, false, false, false, false, false] rfl rfl (any_of HT_.out (by kernel_rfl)) (fun _ _ _ h => h) (Or.inl ⟨by rfl, ?_⟩) ?_ ?_
             rotate_left
             ·
              intro w'
              go_simp
              with_reducible rfl
             rotate_left
             ·
              simp only [Act.put, l_1, l_2, l_3, i64_w, i32_w]
              rfl
             refine pure_ (i := 1) (N := some 138) (v := ?_) (a' := ?_) #[true, true, false, false, false, false, false, false, false, false, false, false, false, false, false, false, false, false, false, false, false, false, false, false, false, false, false] rfl rfl (any_of HT_.out (by kernel_rfl)) (fun _ _ _ h => h) (Or.inl ⟨by rfl, ?_⟩) ?_ ?_
             rotate_left
             ·
              intro w'
              go_simp
              with_reducible rfl
             rotate_left
             ·
              simp only [Act.put, l_1, l_2, l_3, i64_w, i32_w]
              rfl
             refine pure_ (i := 2) (N := some 139) (v := ?_) (a' := ?_) #[true, true, true, false, false, false, false, false, false, false, false, false, false, false, false, false, false, false, false, false, false, false, false, false, false, false, false] rfl rfl (any_of HT_.out (by kernel_rfl)) (fun _ _ _ h => h) (Or.inl ⟨by rfl, ?_⟩) ?_ ?_
             rotate_left
             ·
              intro w'
              go_simp
              with_reducible rfl
             rotate_left
             ·
              simp only [Act.put, l_1, l_2, l_3, i64_w, i32_w]
              rfl
             refine pure_ (i := 3) (N := some 140) (v := ?_) (a' := ?_) #[true, true, true, true, false, false, false, false, false, false, false, false, false, false, false, false, false, false, false, false, false, false, false, false, false, false, false] rfl rfl (any_of HT_.out (by kernel_rfl)) (fun _ _ _ h => h) (Or.inl ⟨by rfl, ?_⟩) ?_ ?_
             rotate_left
             ·
              intro w'
              go_simp
              with_reducible rfl
             rotate_left
             ·
              simp only [Act.put, l_1, l_2, l_3, i64_w, i32_w]
              rfl
             refine pure_ (i := 4) (N := some 141) (v := ?_) (a' := ?_) #[true, true, true, true, true, false, false, false, false, false, false, false, false, false, false, false, false, false, false, false, false, false, false, false, false, false, false] rfl rfl (any_of HT_.out (by kernel_rfl)) (fun _ _ _ h => h) (Or.inl ⟨by rfl, ?_⟩) ?_ ?_
             rotate_left
             ·
              intro w'
              go_simp
              with_reducible rfl
             rotate_left
             ·
              simp only [Act.put, l_1, l_2, l_3, i64_w, i32_w]
              rfl
             refine pure_ (i := 5) (N := some 142) (v := ?_) (a' := ?_) #[true, true, true, true, true, true, false, false, false, false, false, false, false, false, false, false, false, false, false, false, false, false, false, false, false, false, false] rfl rfl (any_of HT_.out (by kernel_rfl)) (fun _ _ _ h => h) (Or.inl ⟨by rfl, ?_⟩) ?_ ?_
             rotate_left
             ·
              intro w'
              go_simp
              with_reducible rfl
             rotate_left
             ·
              simp only [Act.put, l_1, l_2, l_3, i64_w, i32_w]
              rfl
             refine pure_ (i := 6) (N := some 143) (v := ?_) (a' := ?_) #[true, true, true, true, true, true, true, false, false, false, false, false, false, false, false, false, false, false, false, false, false, false, false, false, false, false, false] rfl rfl (any_of HT_.out (by kernel_rfl)) (fun _ _ _ h => h) (Or.inl ⟨by rfl, ?_⟩) ?_ ?_
             rotate_left
             ·
              intro w'
              go_simp
              with_reducible rfl
             rotate_left
             ·
              simp only [Act.put, l_1, l_2, l_3, i64_w, i32_w]
              rfl
             refine pure_ (i := 8) (N := some 145) (v := ?_) (a' := ?_) #[true, true, true, true, true, true, true, false, true, false, false, false, false, false, false, false, false, false, false, false, false, false, false, false, false, false, false] rfl rfl (any_of HT_.out (by kernel_rfl)) (fun _ _ _ h => h) (Or.inl ⟨by rfl, ?_⟩) ?_ ?_
             rotate_left
             ·
              intro w'
              go_simp
              with_reducible rfl
             rotate_left
             ·
              simp only [Act.put, l_1, l_2, l_3, i64_w, i32_w]
              rfl
             refine pure_ (i := 9) (N := some 146) (v := ?_) (a' := ?_) #[true, true, true, true, true, true, true, false, true, true, false, false, false, false, false, false, false, false, false, false, false, false, false, false, false, false, false] rfl rfl (any_of HT_.out (by kernel_rfl)) (fun _ _ _ h => h) (Or.inl ⟨by rfl, ?_⟩) ?_ ?_
             rotate_left
             ·
              intro w'
              go_simp
              with_reducible rfl
             rotate_left
             ·
              simp only [Act.put, l_1, l_2, l_3, i64_w, i32_w]
              rfl
             refine pure_ (i := 11) (N := some 148) (v := ?_) (a' := ?_) #[true, true, true, true, true, true, true, false, true, true, false, true, false, false, false, false, false, false, false, false, false, false, false, false, false, false, false] rfl rfl (any_of HT_.out (by kernel_rfl)) (fun _ _ _ h => h) (Or.inl ⟨by rfl, ?_⟩) ?_ ?_
             rotate_left
             ·
              intro w'
              go_simp
              with_reducible rfl
             rotate_left
             ·
              simp only [Act.put, l_1, l_2, l_3, i64_w, i32_w]
              rfl
             refine take_ (i := 7) (N := some 144) (v := ?_) (a' := ?_) #[true, true, true, true, true, true, true, true, true, true, false, true, false, false, false, false, false, false, false, false, false, false, false, false, false, false, false] rfl rfl (take_ofW HT_.out HW_.out (by kernel_rfl)) (fun _ _ _ h => h) (Or.inl ⟨by rfl, ?_⟩) hHeld ?_ ?_
             rotate_left
             ·
              rintro w' ⟨s0, s1, s2, s3, s4, s5, s6, s7, s8, s9⟩
              go_simp
              with_reducible rfl
             rotate_left
             ·
              simp only [Act.put, l_1, l_2, l_3, i64_w, i32_w]
              rfl
             refine take_ (i := 10) (N := some 147) (v := ?_) (a' := ?_) #[true, true, true, true, true, true, true, true, true, true, true, true, false, false, false, false, false, false, false, false, false, false, false, false, false, false, false] rfl rfl (take_ofW HT_.out HW_.out (by kernel_rfl)) (fun _ _ _ h => h) (Or.inl ⟨by rfl, ?_⟩) hHeld ?_ ?_
             rotate_left
             ·
              rintro w' ⟨s0, s1, s2, s3, s4, s5, s6, s7, s8, s9⟩
              go_simp
              with_reducible rfl
             rotate_left
             ·
              simp only [Act.put, l_1, l_2, l_3, i64_w, i32_w]
              rfl
             refine take_ (i := 12) (N := some 149) (v := ?_) (a' := ?_) #[true, true, true, true, true, true, true, true, true, true, true, true, true, false, false, false, false, false, false, false, false, false, false, false, false, false, false] rfl rfl (take_ofW HT_.out HW_.out (by kernel_rfl)) (fun _ _ _ h => h) (Or.inl ⟨by rfl, ?_⟩) hHeld ?_ ?_
             rotate_left
             ·
              rintro w' ⟨s0, s1, s2, s3, s4, s5, s6, s7, s8, s9⟩
              go_simp
              with_reducible rfl
             rotate_left
             ·
              simp only [Act.put, l_1, l_2, l_3, i64_w, i32_w]
              rfl
             refine one_ (i := 13) (N := some 150) #[true, true, true, true, true, true, true, true, true, true, true, true, true, true, false, false, false, false, false, false, false, false, false, false, false, false, false] rfl rfl (one_of HT_.out (by kernel_rfl)) (by decide) (fun K hK => ?_)
             refine goes_ Try.func14 (by kernel_rfl) rfl #[.int .i64 a2, .int .i64 a0_2, .int .i64 a1_1] (by rfl) rfl rfl (by (try simp only [l_4, l_5, l_6]); first | done | rfl | (simp only [l_7, l_8]; rfl)) ?_
             with_reducible refine (pelotonref10_Span.calls a2 a0_2 a1_1 t179 t180 _ A121.out).mono ?_
             rintro e w128 ⟨rfl, hb⟩
             refine ⟨_, rfl, ?_⟩
             have n0_ := Aside0.mk (blk_below (g := gb159) (o := .cells #[.int .i64 a0_0, .int .i64 a0_1, .int .i64 a0_2, .int .i64 a0_3, .int .i64 a0_4, .int .i64 a0_5] 23 (0, 0)) (by (with_reducible repeat (first | refine k_n ?_ _ | refine k_d ?_ | refine k_a ?_ _)); exact BK159.out) hb)
             have n1_ := Aside0.mk (blk_below (g := gb160) (o := .cells #[.int .i64 a1_0, .int .i64 a1_1] 25 (0, 0)) (by (with_reducible repeat (first | refine k_n ?_ _ | refine k_d ?_ | refine k_a ?_ _)); exact BK160.out) hb)
             have n2_ := Aside0.mk (blk_below (g := gb168) (o := .cells #[.int .i64 t165, .int .i64 t166] 29 (0, 0)) (by (with_reducible repeat (first | refine k_n ?_ _ | refine k_d ?_ | refine k_a ?_ _)); exact BK168.out) hb)
             have n3_ := Aside0.mk (blk_below (g := gb172) (o := .cells #[.int .i64 t169, .int .i64 t170] 29 (0, 0)) (by (with_reducible repeat (first | refine k_n ?_ _ | refine k_d ?_ | refine k_a ?_ _)); exact BK172.out) hb)
             have n4_ := Aside0.mk (blk_below (g := gb176) (o := .cells #[.int .i64 t173, .int .i64 t174] 29 (0, 0)) (by (with_reducible repeat (first | refine k_n ?_ _ | refine k_d ?_ | refine k_a ?_ _)); exact BK176.out) hb)
             have n5_ := Aside0.mk (below_step (by repeat (first | (with_reducible first | exact HB.out | apply b_a | apply b_n | apply b_d | refine b_s ?_ GE159.out | refine b_s ?_ GE160.out | refine b_s ?_ GE168.out | refine b_s ?_ GE172.out | refine b_s ?_ GE176.out) | exact HB.out)) hb)
             clear BK159
             clear BK160
             clear BK168
             clear BK172
             clear BK176
             clear HB
             have BK159 := n0_
             have BK160 := n1_
             have BK168 := n2_
             have BK172 := n3_
             have BK176 := n4_
             have HB := n5_
             clear n0_ n1_ n2_ n3_ n4_ n5_
             (try clear hb)
             (try clear hb2)
             (try clear hk)
             (try clear hi)
             refine hK.out _ _ ⟨(blk_cell BK172.out 0).trans rfl, (blk_cell BK172.out 1).trans rfl, (blk_cell BK159.out 0).trans rfl, (blk_cell BK159.out 1).trans rfl, (blk_cell BK159.out 2).trans rfl, (blk_cell BK159.out 3).trans rfl, (blk_cell BK159.out 4).trans rfl, (blk_cell BK159.out 5).trans rfl, (blk_cell BK160.out 0).trans rfl, (blk_cell BK160.out 1).trans rfl⟩ (fun hHeld => ?_)
             clear hK K
             refine norm_ (a' := ?_) ?_ ?_
             rotate_left
             ·
              show Act.put _ (some 150) _ = _
              simp only [Act.put, l_1, l_2, l_3, i64_w, i32_w]
              rfl
             refine pure_ (i := 14) (N := some 151) (v := ?_) (a' := ?_) #[true, true, true, true, true, true, true, true, true, true, true, true, true, true, true, false, false, false, false, false, false, false, false, false, false, false, false] rfl rfl (any_of HT_.out (by kernel_rfl)) (fun _ _ _ h => h) (Or.inl ⟨by rfl, ?_⟩) ?_ ?_
             rotate_left
             ·
              intro w'
              go_simp
              with_reducible rfl
             rotate_left
             ·
              simp only [Act.put, l_1, l_2, l_3, i64_w, i32_w]
              rfl
             refine pure_ (i := 15) (N := some 152) (v := ?_) (a' := ?_) #[true, true, true, true, true, true, true, true, true, true, true, true, true, true, true, true, false, false, false, false, false, false, false, false, false, false, false] rfl rfl (any_of HT_.out (by kernel_rfl)) (fun _ _ _ h => h) (Or.inl ⟨by rfl, ?_⟩) ?_ ?_
             rotate_left
             ·
              intro w'
              go_simp
              with_reducible rfl
             rotate_left
             ·
              simp only [Act.put, l_1, l_2, l_3, i64_w, i32_w]
              rfl
             refine pure_ (i := 16) (N := some 153) (v := ?_) (a' := ?_) #[true, true, true, true, true, true, true, true, true, true, true, true, true, true, true, true, true, false, false, false, false, false, false, false, false, false, false] rfl rfl (any_of HT_.out (by kernel_rfl)) (fun _ _ _ h => h) (Or.inl ⟨by rfl, ?_⟩) ?_ ?_
             rotate_left
             ·
              intro w'
              go_simp
              with_reducible rfl
             rotate_left
             ·
              simp only [Act.put, l_1, l_2, l_3, i64_w, i32_w]
              rfl
             refine pure_ (i := 17) (N := some 154) (v := undef) (a' := ?_) #[true, true, true, true, true, true, true, true, true, true, true, true, true, true, true, true, true, true, false, false, false, false, false, false, false, false, false] rfl rfl (any_of HT_.out (by kernel_rfl)) (fun _ _ _ h => h) (Or.inr ⟨by rfl, rfl⟩) ?_ ?_
             rotate_left
             ·
              simp only [Act.put, l_1, l_2, l_3, i64_w, i32_w]
              rfl
             refine pure_ (i := 18) (N := some 155) (v := undef) (a' := ?_) #[true, true, true, true, true, true, true, true, true, true, true, true, true, true, true, true, true, true, true, false, false, false, false, false, false, false, false] rfl rfl (any_of HT_.out (by kernel_rfl)) (fun _ _ _ h => h) (Or.inr ⟨by rfl, rfl⟩) ?_ ?_
             rotate_left
             ·
              simp only [Act.put, l_1, l_2, l_3, i64_w, i32_w]
              rfl
             refine pure_ (i := 19) (N := some 156) (v := undef) (a' := ?_) #[true, true, true, true, true, true, true, true, true, true, true, true, true, true, true, true, true, true, true, true, false, false, false, false, false, false, false] rfl rfl (any_of HT_.out (by kernel_rfl)) (fun _ _ _ h => h) (Or.inr ⟨by rfl, rfl⟩) ?_ ?_
             rotate_left
             ·
              simp only [Act.put, l_1, l_2, l_3, i64_w, i32_w]
              rfl
             refine pure_ (i := 20) (N := some 157) (v := undef) (a' := ?_) #[true, true, true, true, true, true, true, true, true, true, true, true, true, true, true, true, true, true, true, true, true, false, false, false, false, false, false] rfl rfl (any_of HT_.out (by kernel_rfl)) (fun _ _ _ h => h) (Or.inr ⟨by rfl, rfl⟩) ?_ ?_
             rotate_left
             ·
              simp only [Act.put, l_1, l_2, l_3, i64_w, i32_w]
              rfl
             refine pure_ (i := 21) (N := some 158) (v := undef) (a' := ?_) #[true, true, true, true, true, true, true, true, true, true, true, true, true, true, true, true, true, true, true, true, true, true, false, false, false, false, false] rfl rfl (any_of HT_.out (by kernel_rfl)) (fun _ _ _ h => h) (Or.inr ⟨by rfl, rfl⟩) ?_ ?_
             rotate_left
             ·
              simp only [Act.put, l_1, l_2, l_3, i64_w, i32_w]
              rfl
             refine pure_ (i := 22) (N := some 159) (v := undef) (a' := ?_) #[true, true, true, true, true, true, true, true, true, true, true, true, true, true, true, true, true, true, true, true, true, true, true, false, false, false, false] rfl rfl (any_of HT_.out (by kernel_rfl)) (fun _ _ _ h => h) (Or.inr ⟨by rfl, rfl⟩) ?_ ?_
             rotate_left
             ·
              simp only [Act.put, l_1, l_2, l_3, i64_w, i32_w]
              rfl
             refine pure_ (i := 23) (N := some 160) (v := undef) (a' := ?_) #[true, true, true, true, true, true, true, true, true, true, true, true, true, true, true, true, true, true, true, true, true, true, true, true, false, false, false] rfl rfl (any_of HT_.out (by kernel_rfl)) (fun _ _ _ h => h) (Or.inr ⟨by rfl, rfl⟩) ?_ ?_
             rotate_left
             ·
              simp only [Act.put, l_1, l_2, l_3, i64_w, i32_w]
              rfl
             refine pure_ (i := 24) (N := some 161) (v := undef) (a' := ?_) #[true, true, true, true, true, true, true, true, true, true, true, true, true, true, true, true, true, true, true, true, true, true, true, true, true, false, false] rfl rfl (any_of HT_.out (by kernel_rfl)) (fun _ _ _ h => h) (Or.inr ⟨by rfl, rfl⟩) ?_ ?_
             rotate_left
             ·
              simp only [Act.put, l_1, l_2, l_3, i64_w, i32_w]
              rfl
             refine pure_ (i := 25) (N := some 162) (v := ?_) (a' := ?_) #[true, true, true, true, true, true, true, true, true, true, true, true, true, true, true, true, true, true, true, true, true, true, true, true, true, true, false] rfl rfl (any_of HT_.out (by kernel_rfl)) (fun _ _ _ h => h) (Or.inl ⟨by rfl, ?_⟩) ?_ ?_
             rotate_left
             ·
              intro w'
              go_simp
              with_reducible rfl
             rotate_left
             ·
              simp only [Act.put, l_1, l_2, l_3, i64_w, i32_w]
              rfl
             refine pure_ (i := 26) (N := some 6) (v := ?_) (a' := ?_) #[true, true, true, true, true, true, true, true, true, true, true, true, true, true, true, true, true, true, true, true, true, true, true, true, true, true, true] rfl rfl (any_of HT_.out (by kernel_rfl)) (fun _ _ _ h => h) (Or.inl ⟨by rfl, ?_⟩) ?_ ?_
             rotate_left
             ·
              intro w'
              go_simp
              with_reducible rfl
             rotate_left
             ·
              simp only [Act.put, l_1, l_2, l_3, i64_w, i32_w]
              rfl
             refine done_ (done_of HT_.out (by kernel_rfl)) ?_
             try go_wp2
             go_meet
             case rel => exact ⟨_, (false), (by first | rfl | (simp; done) | (simp [*]; done)), H', ⟨by have := HJ6.out; have := HJ17.out; have := HJ37.out; have := HJ69.out; have := HJ91.out; first | omega | exact Nat.le_refl _⟩, ⟨by (with_reducible repeat (first | refine k_n ?_ _ | refine k_d ?_ | refine k_a ?_ _)); exact BK159.out⟩, ⟨by (with_reducible repeat (first | refine k_n ?_ _ | refine k_d ?_ | refine k_a ?_ _)); exact BK160.out⟩, ⟨by (with_reducible repeat (first | refine k_n ?_ _ | refine k_d ?_ | refine k_a ?_ _)); exact BK168.out⟩, ⟨by (with_reducible repeat (first | refine k_n ?_ _ | refine k_d ?_ | refine k_a ?_ _)); exact BK172.out⟩, ⟨by (with_reducible repeat (first | refine k_n ?_ _ | refine k_d ?_ | refine k_a ?_ _)); exact BK176.out⟩, ⟨by repeat (first | (with_reducible first | exact HB.out | apply b_a | apply b_n | apply b_d | refine b_s ?_ GE159.out | refine b_s ?_ GE160.out | refine b_s ?_ GE168.out | refine b_s ?_ GE172.out | refine b_s ?_ GE176.out) | exact HB.out)⟩⟩
            rw [if_pos c122] at H
            have c122b0 : (t169 == t179 && (t170 == t180)) = true := c122
            (try (have c122b1 : decide (t169 = t179 && (t170 == t180)) = true := by simpa using c122))
            (try (have c122b2 : (t169 == t179 && (t170 == t180)) = true := by simpa using c122))
            clear c122
            replace H := Option.bind_eq_some_iff.mp H
            obtain ⟨⟨t181, t182⟩, A1230, H⟩ := H
            replace H : (pelotonlaw10_SliceCuts.j7 kj91 (t173 == t181 && (t174 == t182))) = some r := H
            have A123 := Aside0.mk A1230
            clear A1230
            have H' := Aside0.mk H
            clear H
            try go_wp2
            have n0_ := Aside0.mk (k_d BK159.out)
            have n1_ := Aside0.mk (k_d BK160.out)
            have n2_ := Aside0.mk (k_d BK168.out)
            have n3_ := Aside0.mk (k_d BK172.out)
            have n4_ := Aside0.mk (k_d BK176.out)
            have n5_ := Aside0.mk (b_d HB.out)
            clear BK159
            clear BK160
            clear BK168
            clear BK172
            clear BK176
            clear HB
            have BK159 := n0_
            have BK160 := n1_
            have BK168 := n2_
            have BK172 := n3_
            have BK176 := n4_
            have HB := n5_
            clear n0_ n1_ n2_ n3_ n4_ n5_
            refine start_ (n := 27) (S := fun w' => w'.cell? ⟨gb172, 0, none⟩ = some (.int .i64 t169) ∧ w'.cell? ⟨gb172, 1, none⟩ = some (.int .i64 t170) ∧ w'.cell? ⟨gb159, 0, none⟩ = some (.int .i64 a0_0) ∧ w'.cell? ⟨gb159, 1, none⟩ = some (.int .i64 a0_1) ∧ w'.cell? ⟨gb159, 2, none⟩ = some (.int .i64 a0_2) ∧ w'.cell? ⟨gb159, 3, none⟩ = some (.int .i64 a0_3) ∧ w'.cell? ⟨gb159, 4, none⟩ = some (.int .i64 a0_4) ∧ w'.cell? ⟨gb159, 5, none⟩ = some (.int .i64 a0_5) ∧ w'.cell? ⟨gb160, 0, none⟩ = some (.int .i64 a1_0) ∧ w'.cell? ⟨gb160, 1, none⟩ = some (.int .i64 a1_1) ∧ w'.cell? ⟨gb176, 0, none⟩ = some (.int .i64 t173) ∧ w'.cell? ⟨gb176, 1, none⟩ = some (.int .i64 t174)) (ds := []) #[false, false, false, false, false, false, false, false, false, false, false, false, false, false, false, false, false, false, false, false, false, false, false, false, false, false, false] (by kernel_rfl) rfl rfl ⟨(blk_cell BK172.out 0).trans rfl, (blk_cell BK172.out 1).trans rfl, (blk_cell BK159.out 0).trans rfl, (blk_cell BK159.out 1).trans rfl, (blk_cell BK159.out 2).trans rfl, (blk_cell BK159.out 3).trans rfl, (blk_cell BK159.out 4).trans rfl, (blk_cell BK159.out 5).trans rfl, (blk_cell BK160.out 0).trans rfl, (blk_cell BK160.out 1).trans rfl, (blk_cell BK176.out 0).trans rfl, (blk_cell BK176.out 1).trans rfl⟩ (fun hHeld => ?_); refine with_tabW pelotonlaw10_SliceCuts.tab21 pelotonlaw10_SliceCuts.bits21 (fun HT_ HW_ => ?_)
            generalize wc.drew = w124 at BK159 BK160 BK168 BK172 BK176 HB hHeld ⊢
            refine pure_ (i := 0) (N := some 137) (v := ?_) (a' := ?_) #[true, false, false, false, false, false, false, false, false, false, false, false, false, false, false, false, false, false, false, false, false, false, false, false, false, false, false] rfl rfl (any_of HT_.out (by kernel_rfl)) (fun _ _ _ h => h) (Or.inl ⟨by rfl, ?_⟩) ?_ ?_
            rotate_left
            ·
             intro w'
             go_simp
             with_reducible rfl
            rotate_left
            ·
             simp only [Act.put, l_1, l_2, l_3, i64_w, i32_w]
             rfl
            refine pure_ (i := 1) (N := some 138) (v := ?_) (a' := ?_) #[true, true, false, false, false, false, false, false, false, false, false, false, false, false, false, false, false, false, false, false, false, false, false, false, false, false, false] rfl rfl (any_of HT_.out (by kernel_rfl)) (fun _ _ _ h => h) (Or.inl ⟨by rfl, ?_⟩) ?_ ?_
            rotate_left
            ·
             intro w'
             go_simp
             with_reducible rfl
            rotate_left
            ·
             simp only [Act.put, l_1, l_2, l_3, i64_w, i32_w]
             rfl
            refine pure_ (i := 2) (N := some 139) (v := ?_) (a' := ?_) #[true, true, true, false, false, false, false, false, false, false, false, false, false, false, false, false, false, false, false, false, false, false, false, false, false, false, false] rfl rfl (any_of HT_.out (by kernel_rfl)) (fun _ _ _ h => h) (Or.inl ⟨by rfl, ?_⟩) ?_ ?_
            rotate_left
            ·
             intro w'
             go_simp
             with_reducible rfl
            rotate_left
            ·
             simp only [Act.put, l_1, l_2, l_3, i64_w, i32_w]
             rfl
            refine pure_ (i := 3) (N := some 140) (v := ?_) (a' := ?_) #[true, true, true, true, false, false, false, false, false, false, false, false, false, false, false, false, false, false, false, false, false, false, false, false, false, false, false] rfl rfl (any_of HT_.out (by kernel_rfl)) (fun _ _ _ h => h) (Or.inl ⟨by rfl, ?_⟩) ?_ ?_
            rotate_left
            ·
             intro w'
             go_simp
             with_reducible rfl
            rotate_left
            ·
             simp only [Act.put, l_1, l_2, l_3, i64_w, i32_w]
             rfl
            refine pure_ (i := 4) (N := some 141) (v := ?_) (a' := ?_) #[true, true, true, true, true, false, false, false, false, false, false, false, false, false, false, false, false, false, false, false, false, false, false, false, false, false, false] rfl rfl (any_of HT_.out (by kernel_rfl)) (fun _ _ _ h => h) (Or.inl ⟨by rfl, ?_⟩) ?_ ?_
            rotate_left
            ·
             intro w'
             go_simp
             with_reducible rfl
            rotate_left
            ·
             simp only [Act.put, l_1, l_2, l_3, i64_w, i32_w]
             rfl
            refine pure_ (i := 5) (N := some 142) (v := ?_) (a' := ?_) #[true, true, true, true, true, true, false, false, false, false, false, false, false, false, false, false, false, false, false, false, false, false, false, false, false, false, false] rfl rfl (any_of HT_.out (by kernel_rfl)) (fun _ _ _ h => h) (Or.inl ⟨by rfl, ?_⟩) ?_ ?_
            rotate_left
            ·
             intro w'
             go_simp
             with_reducible rfl
            rotate_left
            ·
             simp only [Act.put, l_1, l_2, l_3, i64_w, i32_w]
             rfl
            refine pure_ (i := 6) (N := some 143) (v := ?_) (a' := ?_) #[true, true, true, true, true, true, true, false, false, false, false, false, false, false, false, false, false, false, false, false, false, false, false, false, false, false, false] rfl rfl (any_of HT_.out (by kernel_rfl)) (fun _ _ _ h => h) (Or.inl ⟨by rfl, ?_⟩) ?_ ?_
            rotate_left
            ·
             intro w'
             go_simp
             with_reducible rfl
            rotate_left
            ·
             simp only [Act.put, l_1, l_2, l_3, i64_w, i32_w]
             rfl
            refine pure_ (i := 8) (N := some 145) (v := ?_) (a' := ?_) #[true, true, true, true, true, true, true, false, true, false, false, false, false, false, false, false, false, false, false, false, false, false, false, false, false, false, false] rfl rfl (any_of HT_.out (by kernel_rfl)) (fun _ _ _ h => h) (Or.inl ⟨by rfl, ?_⟩) ?_ ?_
            rotate_left
            ·
             intro w'
             go_simp
             with_reducible rfl
            rotate_left
            ·
             simp only [Act.put, l_1, l_2, l_3, i64_w, i32_w]
             rfl
            refine pure_ (i := 9) (N := some 146) (v := ?_) (a' := ?_) #[true, true, true, true, true, true, true, false, true, true, false, false, false, false, false, false, false, false, false, false, false, false, false, false, false, false, false] rfl rfl (any_of HT_.out (by kernel_rfl)) (fun _ _ _ h => h) (Or.inl ⟨by rfl, ?_⟩) ?_ ?_
            rotate_left
            ·
             intro w'
             go_simp
             with_reducible rfl
            rotate_left
            ·
             simp only [Act.put, l_1, l_2, l_3, i64_w, i32_w]
             rfl
            refine pure_ (i := 11) (N := some 148) (v := ?_) (a' := ?_) #[true, true, true, true, true, true, true, false, true, true, false, true, false, false, false, false, false, false, false, false, false, false, false, false, false, false, false] rfl rfl (any_of HT_.out (by kernel_rfl)) (fun _ _ _ h => h) (Or.inl ⟨by rfl, ?_⟩) ?_ ?_
            rotate_left
            ·
             intro w'
             go_simp
             with_reducible rfl
            rotate_left
            ·
             simp only [Act.put, l_1, l_2, l_3, i64_w, i32_w]
             rfl
            refine take_ (i := 7) (N := some 144) (v := ?_) (a' := ?_) #[true, true, true, true, true, true, true, true, true, true, false, true, false, false, false, false, false, false, false, false, false, false, false, false, false, false, false] rfl rfl (take_ofW HT_.out HW_.out (by kernel_rfl)) (fun _ _ _ h => h) (Or.inl ⟨by rfl, ?_⟩) hHeld ?_ ?_
            rotate_left
            ·
             rintro w' ⟨s0, s1, s2, s3, s4, s5, s6, s7, s8, s9, s10, s11⟩
             go_simp
             with_reducible rfl
            rotate_left
            ·
             simp only [Act.put, l_1, l_2, l_3, i64_w, i32_w]
             rfl
            refine take_ (i := 10) (N := some 147) (v := ?_) (a' := ?_) #[true, true, true, true, true, true, true, true, true, true, true, true, false, false, false, false, false, false, false, false, false, false, false, false, false, false, false] rfl rfl (take_ofW HT_.out HW_.out (by kernel_rfl)) (fun _ _ _ h => h) (Or.inl ⟨by rfl, ?_⟩) hHeld ?_ ?_
            rotate_left
            ·
             rintro w' ⟨s0, s1, s2, s3, s4, s5, s6, s7, s8, s9, s10, s11⟩
             go_simp
             with_reducible rfl
            rotate_left
            ·
             simp only [Act.put, l_1, l_2, l_3, i64_w, i32_w]
             rfl
            refine take_ (i := 12) (N := some 149) (v := ?_) (a' := ?_) #[true, true, true, true, true, true, true, true, true, true, true, true, true, false, false, false, false, false, false, false, false, false, false, false, false, false, false] rfl rfl (take_ofW HT_.out HW_.out (by kernel_rfl)) (fun _ _ _ h => h) (Or.inl ⟨by rfl, ?_⟩) hHeld ?_ ?_
            rotate_left
            ·
             rintro w' ⟨s0, s1, s2, s3, s4, s5, s6, s7, s8, s9, s10, s11⟩
             go_simp
             with_reducible rfl
            rotate_left
            ·
             simp only [Act.put, l_1, l_2, l_3, i64_w, i32_w]
             rfl
            refine one_ (i := 13) (N := some 150) #[true, true, true, true, true, true, true, true, true, true, true, true, true, true, false, false, false, false, false, false, false, false, false, false, false, false, false] rfl rfl (one_of HT_.out (by kernel_rfl)) (by decide) (fun K hK => ?_)
            refine goes_ Try.func14 (by kernel_rfl) rfl #[.int .i64 a2, .int .i64 a0_2, .int .i64 a1_1] (by rfl) rfl rfl (by (try simp only [l_4, l_5, l_6]); first | done | rfl | (simp only [l_7, l_8]; rfl)) ?_
            with_reducible refine (pelotonref10_Span.calls a2 a0_2 a1_1 t179 t180 _ A121.out).mono ?_
            rintro e w125 ⟨rfl, hb⟩
            refine ⟨_, rfl, ?_⟩
            have n0_ := Aside0.mk (blk_below (g := gb159) (o := .cells #[.int .i64 a0_0, .int .i64 a0_1, .int .i64 a0_2, .int .i64 a0_3, .int .i64 a0_4, .int .i64 a0_5] 23 (0, 0)) (by (with_reducible repeat (first | refine k_n ?_ _ | refine k_d ?_ | refine k_a ?_ _)); exact BK159.out) hb)
            have n1_ := Aside0.mk (blk_below (g := gb160) (o := .cells #[.int .i64 a1_0, .int .i64 a1_1] 25 (0, 0)) (by (with_reducible repeat (first | refine k_n ?_ _ | refine k_d ?_ | refine k_a ?_ _)); exact BK160.out) hb)
            have n2_ := Aside0.mk (blk_below (g := gb168) (o := .cells #[.int .i64 t165, .int .i64 t166] 29 (0, 0)) (by (with_reducible repeat (first | refine k_n ?_ _ | refine k_d ?_ | refine k_a ?_ _)); exact BK168.out) hb)
            have n3_ := Aside0.mk (blk_below (g := gb172) (o := .cells #[.int .i64 t169, .int .i64 t170] 29 (0, 0)) (by (with_reducible repeat (first | refine k_n ?_ _ | refine k_d ?_ | refine k_a ?_ _)); exact BK172.out) hb)
            have n4_ := Aside0.mk (blk_below (g := gb176) (o := .cells #[.int .i64 t173, .int .i64 t174] 29 (0, 0)) (by (with_reducible repeat (first | refine k_n ?_ _ | refine k_d ?_ | refine k_a ?_ _)); exact BK176.out) hb)
            have n5_ := Aside0.mk (below_step (by repeat (first | (with_reducible first | exact HB.out | apply b_a | apply b_n | apply b_d | refine b_s ?_ GE159.out | refine b_s ?_ GE160.out | refine b_s ?_ GE168.out | refine b_s ?_ GE172.out | refine b_s ?_ GE176.out) | exact HB.out)) hb)
            clear BK159
            clear BK160
            clear BK168
            clear BK172
            clear BK176
            clear HB
            have BK159 := n0_
            have BK160 := n1_
            have BK168 := n2_
            have BK172 := n3_
            have BK176 := n4_
            have HB := n5_
            clear n0_ n1_ n2_ n3_ n4_ n5_
            (try clear hb)
            (try clear hb2)
            (try clear hk)
            (try clear hi)
            refine hK.out _ _ ⟨(blk_cell BK172.out 0).trans rfl, (blk_cell BK172.out 1).trans rfl, (blk_cell BK159.out 0).trans rfl, (blk_cell BK159.out 1).trans rfl, (blk_cell BK159.out 2).trans rfl, (blk_cell BK159.out 3).trans rfl, (blk_cell BK159.out 4).trans rfl, (blk_cell BK159.out 5).trans rfl, (blk_cell BK160.out 0).trans rfl, (blk_cell BK160.out 1).trans rfl, (blk_cell BK176.out 0).trans rfl, (blk_cell BK176.out 1).trans rfl⟩ (fun hHeld => ?_)
            clear hK K
            refine norm_ (a' := ?_) ?_ ?_
            rotate_left
            ·
             show Act.put _ (some 150) _ = _
             simp only [Act.put, l_1, l_2, l_3, i64_w, i32_w]
             rfl
            refine pure_ (i := 14) (N := some 151) (v := ?_) (a' := ?_) #[true, true, true, true, true, true, true, true, true, true, true, true, true, true, true, false, false, false, false, false, false, false, false, false, false, false, false] rfl rfl (any_of HT_.out (by kernel_rfl)) (fun _ _ _ h => h) (Or.inl ⟨by rfl, ?_⟩) ?_ ?_
            rotate_left
            ·
             intro w'
             go_simp
             with_reducible rfl
            rotate_left
            ·
             simp only [Act.put, l_1, l_2, l_3, i64_w, i32_w]
             rfl
            refine pure_ (i := 15) (N := some 152) (v := ?_) (a' := ?_) #[true, true, true, true, true, true, true, true, true, true, true, true, true, true, true, true, false, false, false, false, false, false, false, false, false, false, false] rfl rfl (any_of HT_.out (by kernel_rfl)) (fun _ _ _ h => h) (Or.inl ⟨by rfl, ?_⟩) ?_ ?_
            rotate_left
            ·
             intro w'
             go_simp
             with_reducible rfl
            rotate_left
            ·
             simp only [Act.put, l_1, l_2, l_3, i64_w, i32_w]
             rfl
            refine pure_ (i := 16) (N := some 153) (v := ?_) (a' := ?_) #[true, true, true, true, true, true, true, true, true, true, true, true, true, true, true, true, true, false, false, false, false, false, false, false, false, false, false] rfl rfl (any_of HT_.out (by kernel_rfl)) (fun _ _ _ h => h) (Or.inl ⟨by rfl, ?_⟩) ?_ ?_
            rotate_left
            ·
             intro w'
             go_simp
             with_reducible rfl
            rotate_left
            ·
             simp only [Act.put, l_1, l_2, l_3, i64_w, i32_w]
             rfl
            refine pure_ (i := 18) (N := some 155) (v := ?_) (a' := ?_) #[true, true, true, true, true, true, true, true, true, true, true, true, true, true, true, true, true, false, true, false, false, false, false, false, false, false, false] rfl rfl (any_of HT_.out (by kernel_rfl)) (fun _ _ _ h => h) (Or.inl ⟨by rfl, ?_⟩) ?_ ?_
            rotate_left
            ·
             intro w'
             go_simp
             with_reducible rfl
            rotate_left
            ·
             simp only [Act.put, l_1, l_2, l_3, i64_w, i32_w]
             rfl
            refine pure_ (i := 19) (N := some 156) (v := ?_) (a' := ?_) #[true, true, true, true, true, true, true, true, true, true, true, true, true, true, true, true, true, false, true, true, false, false, false, false, false, false, false] rfl rfl (any_of HT_.out (by kernel_rfl)) (fun _ _ _ h => h) (Or.inl ⟨by rfl, ?_⟩) ?_ ?_
            rotate_left
            ·
             intro w'
             go_simp
             with_reducible rfl
            rotate_left
            ·
             simp only [Act.put, l_1, l_2, l_3, i64_w, i32_w]
             rfl
            refine pure_ (i := 21) (N := some 158) (v := ?_) (a' := ?_) #[true, true, true, true, true, true, true, true, true, true, true, true, true, true, true, true, true, false, true, true, false, true, false, false, false, false, false] rfl rfl (any_of HT_.out (by kernel_rfl)) (fun _ _ _ h => h) (Or.inl ⟨by rfl, ?_⟩) ?_ ?_
            rotate_left
            ·
             intro w'
             go_simp
             with_reducible rfl
            rotate_left
            ·
             simp only [Act.put, l_1, l_2, l_3, i64_w, i32_w]
             rfl
            refine take_ (i := 17) (N := some 154) (v := ?_) (a' := ?_) #[true, true, true, true, true, true, true, true, true, true, true, true, true, true, true, true, true, true, true, true, false, true, false, false, false, false, false] rfl rfl (take_ofW HT_.out HW_.out (by kernel_rfl)) (fun _ _ _ h => h) (Or.inl ⟨by rfl, ?_⟩) hHeld ?_ ?_
            rotate_left
            ·
             rintro w' ⟨s0, s1, s2, s3, s4, s5, s6, s7, s8, s9, s10, s11⟩
             go_simp
             with_reducible rfl
            rotate_left
            ·
             simp only [Act.put, l_1, l_2, l_3, i64_w, i32_w]
             rfl
            refine take_ (i := 20) (N := some 157) (v := ?_) (a' := ?_) #[true, true, true, true, true, true, true, true, true, true, true, true, true, true, true, true, true, true, true, true, true, true, false, false, false, false, false] rfl rfl (take_ofW HT_.out HW_.out (by kernel_rfl)) (fun _ _ _ h => h) (Or.inl ⟨by rfl, ?_⟩) hHeld ?_ ?_
            rotate_left
            ·
             rintro w' ⟨s0, s1, s2, s3, s4, s5, s6, s7, s8, s9, s10, s11⟩
             go_simp
             with_reducible rfl
            rotate_left
            ·
             simp only [Act.put, l_1, l_2, l_3, i64_w, i32_w]
             rfl
            refine take_ (i := 22) (N := some 159) (v := ?_) (a' := ?_) #[true, true, true, true, true, true, true, true, true, true, true, true, true, true, true, true, true, true, true, true, true, true, true, false, false, false, false] rfl rfl (take_ofW HT_.out HW_.out (by kernel_rfl)) (fun _ _ _ h => h) (Or.inl ⟨by rfl, ?_⟩) hHeld ?_ ?_
            rotate_left
            ·
             rintro w' ⟨s0, s1, s2, s3, s4, s5, s6, s7, s8, s9, s10, s11⟩
             go_simp
             with_reducible rfl
            rotate_left
            ·
             simp only [Act.put, l_1, l_2, l_3, i64_w, i32_w]
             rfl
            refine one_ (i := 23) (N := some 160) #[true, true, true, true, true, true, true, true, true, true, true, true, true, true, true, true, true, true, true, true, true, true, true, true, false, false, false] rfl rfl (one_of HT_.out (by kernel_rfl)) (by decide) (fun K hK => ?_)
            refine goes_ Try.func14 (by kernel_rfl) rfl #[.int .i64 a2, .int .i64 a0_3, .int .i64 a1_1] (by rfl) rfl rfl (by (try simp only [l_4, l_5, l_6]); first | done | rfl | (simp only [l_7, l_8]; rfl)) ?_
            with_reducible refine (pelotonref10_Span.calls a2 a0_3 a1_1 t181 t182 _ A123.out).mono ?_
            rintro e w126 ⟨rfl, hb⟩
            refine ⟨_, rfl, ?_⟩
            have n0_ := Aside0.mk (blk_below (g := gb159) (o := .cells #[.int .i64 a0_0, .int .i64 a0_1, .int .i64 a0_2, .int .i64 a0_3, .int .i64 a0_4, .int .i64 a0_5] 23 (0, 0)) (by (with_reducible repeat (first | refine k_n ?_ _ | refine k_d ?_ | refine k_a ?_ _)); exact BK159.out) hb)
            have n1_ := Aside0.mk (blk_below (g := gb160) (o := .cells #[.int .i64 a1_0, .int .i64 a1_1] 25 (0, 0)) (by (with_reducible repeat (first | refine k_n ?_ _ | refine k_d ?_ | refine k_a ?_ _)); exact BK160.out) hb)
            have n2_ := Aside0.mk (blk_below (g := gb168) (o := .cells #[.int .i64 t165, .int .i64 t166] 29 (0, 0)) (by (with_reducible repeat (first | refine k_n ?_ _ | refine k_d ?_ | refine k_a ?_ _)); exact BK168.out) hb)
            have n3_ := Aside0.mk (blk_below (g := gb172) (o := .cells #[.int .i64 t169, .int .i64 t170] 29 (0, 0)) (by (with_reducible repeat (first | refine k_n ?_ _ | refine k_d ?_ | refine k_a ?_ _)); exact BK172.out) hb)
            have n4_ := Aside0.mk (blk_below (g := gb176) (o := .cells #[.int .i64 t173, .int .i64 t174] 29 (0, 0)) (by (with_reducible repeat (first | refine k_n ?_ _ | refine k_d ?_ | refine k_a ?_ _)); exact BK176.out) hb)
            have n5_ := Aside0.mk (below_step (by repeat (first | (with_reducible first | exact HB.out | apply b_a | apply b_n | apply b_d | refine b_s ?_ GE159.out | refine b_s ?_ GE160.out | refine b_s ?_ GE168.out | refine b_s ?_ GE172.out | refine b_s ?_ GE176.out) | exact HB.out)) hb)
            clear BK159
            clear BK160
            clear BK168
            clear BK172
            clear BK176
            clear HB
            have BK159 := n0_
            have BK160 := n1_
            have BK168 := n2_
            have BK172 := n3_
            have BK176 := n4_
            have HB := n5_
            clear n0_ n1_ n2_ n3_ n4_ n5_
            (try clear hb)
            (try clear hb2)
            (try clear hk)
            (try clear hi)
            refine hK.out _ _ ⟨(blk_cell BK172.out 0).trans rfl, (blk_cell BK172.out 1).trans rfl, (blk_cell BK159.out 0).trans rfl, (blk_cell BK159.out 1).trans rfl, (blk_cell BK159.out 2).trans rfl, (blk_cell BK159.out 3).trans rfl, (blk_cell BK159.out 4).trans rfl, (blk_cell BK159.out 5).trans rfl, (blk_cell BK160.out 0).trans rfl, (blk_cell BK160.out 1).trans rfl, (blk_cell BK176.out 0).trans rfl, (blk_cell BK176.out 1).trans rfl⟩ (fun hHeld => ?_)
            clear hK K
            refine norm_ (a' := ?_) ?_ ?_
            rotate_left
            ·
             show Act.put _ (some 160) _ = _
             simp only [Act.put, l_1, l_2, l_3, i64_w, i32_w]
             rfl
            refine pure_ (i := 24) (N := some 161) (v := ?_) (a' := ?_) #[true, true, true, true, true, true, true, true, true, true, true, true, true, true, true, true, true, true, true, true, true, true, true, true, true, false, false] rfl rfl (any_of HT_.out (by kernel_rfl)) (fun _ _ _ h => h) (Or.inl ⟨by rfl, ?_⟩) ?_ ?_
            rotate_left
            ·
             intro w'
             go_simp
             with_reducible rfl
            rotate_left
            ·
             simp only [Act.put, l_1, l_2, l_3, i64_w, i32_w]
             rfl
            refine pure_ (i := 25) (N := some 162) (v := ?_) (a' := ?_) #[true, true, true, true, true, true, true, true, true, true, true, true, true, true, true, true, true, true, true, true, true, true, true, true, true, true, false] rfl rfl (any_of HT_.out (by kernel_rfl)) (fun _ _ _ h => h) (Or.inl ⟨by rfl, ?_⟩) ?_ ?_
            rotate_left
            ·
             intro w'
             go_simp
             with_reducible rfl
            rotate_left
            ·
             simp only [Act.put, l_1, l_2, l_3, i64_w, i32_w]
             rfl
            refine pure_ (i := 26) (N := some 6) (v := ?_) (a' := ?_) #[true, true, true, true, true, true, true, true, true, true, true, true, true, true, true, true, true, true, true, true, true, true, true, true, true, true, true] rfl rfl (any_of HT_.out (by kernel_rfl)) (fun _ _ _ h => h) (Or.inl ⟨by rfl, ?_⟩) ?_ ?_
            rotate_left
            ·
             intro w'
             go_simp
             with_reducible rfl
            rotate_left
            ·
             simp only [Act.put, l_1, l_2, l_3, i64_w, i32_w]
             rfl
            refine done_ (done_of HT_.out (by kernel_rfl)) ?_
            try go_wp2
            go_meet
            case rel => exact ⟨_, ((t173 == t181 && (t174 == t182))), (by first | rfl | (simp; done) | (simp [*]; done)), H', ⟨by have := HJ6.out; have := HJ17.out; have := HJ37.out; have := HJ69.out; have := HJ91.out; first | omega | exact Nat.le_refl _⟩, ⟨by (with_reducible repeat (first | refine k_n ?_ _ | refine k_d ?_ | refine k_a ?_ _)); exact BK159.out⟩, ⟨by (with_reducible repeat (first | refine k_n ?_ _ | refine k_d ?_ | refine k_a ?_ _)); exact BK160.out⟩, ⟨by (with_reducible repeat (first | refine k_n ?_ _ | refine k_d ?_ | refine k_a ?_ _)); exact BK168.out⟩, ⟨by (with_reducible repeat (first | refine k_n ?_ _ | refine k_d ?_ | refine k_a ?_ _)); exact BK172.out⟩, ⟨by (with_reducible repeat (first | refine k_n ?_ _ | refine k_d ?_ | refine k_a ?_ _)); exact BK176.out⟩, ⟨by repeat (first | (with_reducible first | exact HB.out | apply b_a | apply b_n | apply b_d | refine b_s ?_ GE159.out | refine b_s ?_ GE160.out | refine b_s ?_ GE168.out | refine b_s ?_ GE172.out | refine b_s ?_ GE176.out) | exact HB.out)⟩⟩
           case rest => as_aux_lemma =>
            clear HC118
            try clear c1
            try clear p2
            try clear c11
            try clear c12
            try clear c14
            try clear c119
            try clear c119b0
            try clear c119b1
            try clear c120
            try clear c120b0
            try clear c120b1
            obtain ⟨kq, x6_117, rfl, HA, HJ117, BK159, BK160, BK168, BK172, BK176, HB⟩ := hcut
            cases kq with
            | zero => exact absurd HA.out (by simp [pelotonlaw10_SliceCuts.j7])
            | succ kj117 =>
             have H := HA.out
             clear HA
             simp only [pelotonlaw10_SliceCuts.j7] at H
             obtain rfl := Option.some.inj H
             go_wp2
             go_ret
             exact ⟨by first | rfl | (simp [errW_none, errW_some] <;> rfl) | (simp [*, errW_none, errW_some] <;> rfl), by repeat (first | (with_reducible first | exact HB.out | apply b_a | apply b_n | apply b_d | refine b_s ?_ GE159.out | refine b_s ?_ GE160.out | refine b_s ?_ GE168.out | refine b_s ?_ GE172.out | refine b_s ?_ GE176.out) | exact HB.out)⟩
/-- THE ONE PURE STATEMENT of pelotonlaw10_SliceCuts. -/
def pelotonlaw10_SliceCuts.Pure : Prop := ∀ (a0_0 : Int) (a0_1 : Int) (a0_2 : Int) (a0_3 : Int) (a0_4 : Int) (a0_5 : Int) (a1_0 : Int) (a1_1 : Int) (a2 : Int), ((Lit.int .i64 a0_0).wf = true ∧ (Lit.int .i64 a0_1).wf = true ∧ (Lit.int .i64 a0_2).wf = true ∧ (Lit.int .i64 a0_3).wf = true ∧ (Lit.int .i64 a0_4).wf = true ∧ (Lit.int .i64 a0_5).wf = true) → ((Lit.int .i64 a1_0).wf = true ∧ (Lit.int .i64 a1_1).wf = true) → ((Lit.int .i64 a2).wf = true) → ∃ k, pelotonlaw10_SliceCuts.f k a0_0 a0_1 a0_2 a0_3 a0_4 a0_5 a1_0 a1_1 a2 = some true

end Go.Proofs.Ytijkcjlkfjeedaa.QSliceCuts
