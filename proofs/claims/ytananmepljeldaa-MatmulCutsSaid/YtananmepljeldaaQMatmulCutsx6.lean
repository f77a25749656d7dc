-- Written by a program of this session (a turned copy of the print) out of the translation. Lean checks it.
import Derived.Test.YtananmepljeldaaQMatmulCutsx0
import Derived.Test.YtananmepljeldaaQMatmulCutsx2
import Derived.Test.YtananmepljeldaaQMatmulCutsx3
import Derived.Test.YtananmepljeldaaQMatmulCutsx4
import Derived.Test.YtananmepljeldaaQMatmulCutsx5
namespace Go.Proofs.Ytananmepljeldaa.QMatmulCuts
open Go.RowKit Go.Proofs.YtananmepljeldaaW.PrintWords Go.Proofs.YtananmepljeldaaW.PrintLast Go.Proofs.YtananmepljeldaaW.PrintMore
attribute [local go_sem] max2_int min2_int max_two min_two max_three min_three max_four min_four   -- for this text's walks alone
open Go.Proofs.YtananmepljeldaaW.PrintWords renaming below_alloc → b_a, pw_below_drewN → b_n, below_drew1 → b_d, below_set → b_s, blk_drewN → k_n, blk_drew → k_d, blk_alloc → k_a
open List renaming setIfInBounds_toArray → l_1, set_cons_zero → l_2, set_cons_succ → l_3, map_toArray → l_4, map_cons → l_5, map_nil → l_6, length_drop → l_7, length_take → l_8
set_option linter.unusedVariables false
set_option linter.unusedSimpArgs false

/-! ### pelotonlaw04_MatmulCuts: function 8 -/
mutual
def pelotonlaw04_MatmulCuts.j0 : Nat → Int → Int → Bool → Int → Int → List Int → Option (Bool)
 | 0, _, _, _, _, _, _ => none
 | k + 1, x1, x2, x21, x188000, x188001, x188002 => if x21 = true then ((pelotonlaw04_awake.f k).bind fun t190 => (some t190)) else ((matmul_Rows.f x188000 x188001 x188002 x1 x2).bind fun bt191 => ((matmul_Cols.f k x188000 x188001 x188002 x1 x2).bind fun bt198 => ((matmul_Wide.f k x188000 x188001 x188002).bind fun bt205 => ((pelotonref04_Right.f x188000 x188001 x188002).bind fun t212 => (if t212 = true then (if bt205.2.2.2 = 0 then (if bt205.1 = x188000 then (if bt205.2.1 = x188001 then (pelotonlaw04_MatmulCuts.j2 k x1 x2 bt191.2.2.2 bt198.2.2.2 ((bt205.2.2.1.length : Int) != (x188002.length : Int)) x188000 x188001 x188002 bt191.1 bt191.2.1 bt191.2.2.1 bt198.1 bt198.2.1 bt198.2.2.1 bt205.1 bt205.2.1 bt205.2.2.1) else (pelotonlaw04_MatmulCuts.j2 k x1 x2 bt191.2.2.2 bt198.2.2.2 true x188000 x188001 x188002 bt191.1 bt191.2.1 bt191.2.2.1 bt198.1 bt198.2.1 bt198.2.2.1 bt205.1 bt205.2.1 bt205.2.2.1)) else (pelotonlaw04_MatmulCuts.j2 k x1 x2 bt191.2.2.2 bt198.2.2.2 true x188000 x188001 x188002 bt191.1 bt191.2.1 bt191.2.2.1 bt198.1 bt198.2.1 bt198.2.2.1 bt205.1 bt205.2.1 bt205.2.2.1)) else (pelotonlaw04_MatmulCuts.j2 k x1 x2 bt191.2.2.2 bt198.2.2.2 true x188000 x188001 x188002 bt191.1 bt191.2.1 bt191.2.2.1 bt198.1 bt198.2.1 bt198.2.2.1 bt205.1 bt205.2.1 bt205.2.2.1)) else (if bt191.2.2.2 = 30 then (if bt198.2.2.2 = 30 then (if bt205.2.2.2 = 30 then ((pelotonref04_Same.f k bt191.1 bt191.2.1 bt191.2.2.1 0 0 ([] : List Int)).bind fun t213 => (if t213 = true then ((pelotonref04_Same.f k bt198.1 bt198.2.1 bt198.2.2.1 0 0 ([] : List Int)).bind fun t214 => (pelotonlaw04_MatmulCuts.j1 k t214)) else (pelotonlaw04_MatmulCuts.j1 k false))) else (pelotonlaw04_MatmulCuts.j1 k false)) else (pelotonlaw04_MatmulCuts.j1 k false)) else (pelotonlaw04_MatmulCuts.j1 k false)))))))
def pelotonlaw04_MatmulCuts.j2 : Nat → Int → Int → Int → Int → Bool → Int → Int → List Int → Int → Int → List Int → Int → Int → List Int → Int → Int → List Int → Option (Bool)
 | 0, _, _, _, _, _, _, _, _, _, _, _, _, _, _, _, _, _ => none
 | k + 1, x1, x2, x8, x10, x89, x188000, x188001, x188002, x198000, x198001, x198002, x205000, x205001, x205002, x212000, x212001, x212002 => if x89 = true then (some false) else (pelotonlaw04_MatmulCuts.l0 k x1 x2 x8 x10 0 x188000 x188001 x188002 x198000 x198001 x198002 x205000 x205001 x205002 x212000 x212001 x212002)
def pelotonlaw04_MatmulCuts.l0 : Nat → Int → Int → Int → Int → Int → Int → Int → List Int → Int → Int → List Int → Int → Int → List Int → Int → Int → List Int → Option (Bool)
 | 0, _, _, _, _, _, _, _, _, _, _, _, _, _, _, _, _, _ => none
 | k + 1, x1, x2, x8, x10, x13, x188000, x188001, x188002, x198000, x198001, x198002, x205000, x205001, x205002, x212000, x212001, x212002 => if x13 < (x212002.length : Int) then (if 0 ≤ x13 then (if x13 < (x188002.length : Int) then (if (rd x212002 x13) = (wrap32 (rd x188002 x13)) then (pelotonlaw04_MatmulCuts.l0 k x1 x2 x8 x10 (wrap64 (x13 + 1)) x188000 x188001 x188002 x198000 x198001 x198002 x205000 x205001 x205002 x212000 x212001 x212002) else (some false)) else (none)) else (none)) else (if x1 ≥ 0 then (pelotonlaw04_MatmulCuts.j4 k x1 x2 x8 x10 (decide (x1 ≤ x2)) x188000 x188001 x188002 x198000 x198001 x198002 x205000 x205001 x205002) else (pelotonlaw04_MatmulCuts.j4 k x1 x2 x8 x10 false x188000 x188001 x188002 x198000 x198001 x198002 x205000 x205001 x205002))
def pelotonlaw04_MatmulCuts.j4 : Nat → Int → Int → Int → Int → Bool → Int → Int → List Int → Int → Int → List Int → Int → Int → List Int → Option (Bool)
 | 0, _, _, _, _, _, _, _, _, _, _, _, _, _, _ => none
 | k + 1, x1, x2, x8, x10, x14, x188000, x188001, x188002, x198000, x198001, x198002, x205000, x205001, x205002 => if x14 = true then (pelotonlaw04_MatmulCuts.j5 k x1 x2 x8 x10 x14 (decide (x2 ≤ x188000)) x188000 x188001 x188002 x198000 x198001 x198002 x205000 x205001 x205002) else (pelotonlaw04_MatmulCuts.j5 k x1 x2 x8 x10 x14 false x188000 x188001 x188002 x198000 x198001 x198002 x205000 x205001 x205002)
def pelotonlaw04_MatmulCuts.j5 : Nat → Int → Int → Int → Int → Bool → Bool → Int → Int → List Int → Int → Int → List Int → Int → Int → List Int → Option (Bool)
 | 0, _, _, _, _, _, _, _, _, _, _, _, _, _, _, _ => none
 | k + 1, x1, x2, x8, x10, x14, x122, x188000, x188001, x188002, x198000, x198001, x198002, x205000, x205001, x205002 => if x122 = true then (if x8 = 0 then ((pelotonref04_Part.f k x188000 x188001 x188002 x1 x2 0 x188001).bind fun bt217 => ((pelotonref04_Same.f k x198000 x198001 x198002 bt217.1 bt217.2.1 bt217.2.2).bind fun t222 => (if t222 = true then (pelotonlaw04_MatmulCuts.j6 k x1 x2 x10 x14 x188000 x188001 x188002 x205000 x205001 x205002) else (some false)))) else (some false)) else (if x8 = 2 then ((pelotonref04_Same.f k x198000 x198001 x198002 0 0 ([] : List Int)).bind fun t223 => (if t223 = true then (pelotonlaw04_MatmulCuts.j6 k x1 x2 x10 x14 x188000 x188001 x188002 x205000 x205001 x205002) else (some false))) else (some false))
def pelotonlaw04_MatmulCuts.j6 : Nat → Int → Int → Int → Bool → Int → Int → List Int → Int → Int → List Int → Option (Bool)
 | 0, _, _, _, _, _, _, _, _, _, _ => none
 | k + 1, x1, x2, x10, x14, x188000, x188001, x188002, x205000, x205001, x205002 => if x14 = true then (pelotonlaw04_MatmulCuts.j7 k x1 x2 x10 (decide (x2 ≤ x188001)) x188000 x188001 x188002 x205000 x205001 x205002) else (pelotonlaw04_MatmulCuts.j7 k x1 x2 x10 false x188000 x188001 x188002 x205000 x205001 x205002)
def pelotonlaw04_MatmulCuts.j7 : Nat → Int → Int → Int → Bool → Int → Int → List Int → Int → Int → List Int → Option (Bool)
 | 0, _, _, _, _, _, _, _, _, _, _ => none
 | k + 1, x1, x2, x10, x150, x188000, x188001, x188002, x205000, x205001, x205002 => if x150 = true then (if x10 = 0 then ((pelotonref04_Part.f k x188000 x188001 x188002 0 x188000 x1 x2).bind fun bt224 => ((pelotonref04_Same.f k x205000 x205001 x205002 bt224.1 bt224.2.1 bt224.2.2).bind fun t229 => (some t229))) else (some false)) else (if x10 = 2 then ((pelotonref04_Same.f k x205000 x205001 x205002 0 0 ([] : List Int)).bind fun t230 => (some t230)) else (some false))
def pelotonlaw04_MatmulCuts.j1 : Nat → Bool → Option (Bool)
 | 0, _ => none
 | k + 1, x6 => some x6
end
def pelotonlaw04_MatmulCuts.f (k : Nat) (a0_0 : Int) (a0_1 : Int) (l0_2 : List Int) (a1 : Int) (a2 : Int) : Option (Bool) := (pelotonlaw04_awake.f k).bind fun t188 => (if t188 = true then ((pelotonlaw04_small.f a0_0 a0_1 l0_2).bind fun t189 => (pelotonlaw04_MatmulCuts.j0 k a1 a2 (!t189) a0_0 a0_1 l0_2)) else (pelotonlaw04_MatmulCuts.j0 k a1 a2 true a0_0 a0_1 l0_2))
theorem pelotonlaw04_MatmulCuts.mono_l : ∀ k, (∀ y0 y1 y2 y3 y4 y5, LeO (pelotonlaw04_MatmulCuts.j0 k y0 y1 y2 y3 y4 y5) (pelotonlaw04_MatmulCuts.j0 (k + 1) y0 y1 y2 y3 y4 y5)) ∧ (∀ y0 y1 y2 y3 y4 y5 y6 y7 y8 y9 y10 y11 y12 y13 y14 y15 y16, LeO (pelotonlaw04_MatmulCuts.j2 k y0 y1 y2 y3 y4 y5 y6 y7 y8 y9 y10 y11 y12 y13 y14 y15 y16) (pelotonlaw04_MatmulCuts.j2 (k + 1) y0 y1 y2 y3 y4 y5 y6 y7 y8 y9 y10 y11 y12 y13 y14 y15 y16)) ∧ (∀ y0 y1 y2 y3 y4 y5 y6 y7 y8 y9 y10 y11 y12 y13 y14 y15 y16, LeO (pelotonlaw04_MatmulCuts.l0 k y0 y1 y2 y3 y4 y5 y6 y7 y8 y9 y10 y11 y12 y13 y14 y15 y16) (pelotonlaw04_MatmulCuts.l0 (k + 1) y0 y1 y2 y3 y4 y5 y6 y7 y8 y9 y10 y11 y12 y13 y14 y15 y16)) ∧ (∀ y0 y1 y2 y3 y4 y5 y6 y7 y8 y9 y10 y11 y12 y13, LeO (pelotonlaw04_MatmulCuts.j4 k y0 y1 y2 y3 y4 y5 y6 y7 y8 y9 y10 y11 y12 y13) (pelotonlaw04_MatmulCuts.j4 (k + 1) y0 y1 y2 y3 y4 y5 y6 y7 y8 y9 y10 y11 y12 y13)) ∧ (∀ y0 y1 y2 y3 y4 y5 y6 y7 y8 y9 y10 y11 y12 y13 y14, LeO (pelotonlaw04_MatmulCuts.j5 k y0 y1 y2 y3 y4 y5 y6 y7 y8 y9 y10 y11 y12 y13 y14) (pelotonlaw04_MatmulCuts.j5 (k + 1) y0 y1 y2 y3 y4 y5 y6 y7 y8 y9 y10 y11 y12 y13 y14)) ∧ (∀ y0 y1 y2 y3 y4 y5 y6 y7 y8 y9, LeO (pelotonlaw04_MatmulCuts.j6 k y0 y1 y2 y3 y4 y5 y6 y7 y8 y9) (pelotonlaw04_MatmulCuts.j6 (k + 1) y0 y1 y2 y3 y4 y5 y6 y7 y8 y9)) ∧ (∀ y0 y1 y2 y3 y4 y5 y6 y7 y8 y9, LeO (pelotonlaw04_MatmulCuts.j7 k y0 y1 y2 y3 y4 y5 y6 y7 y8 y9) (pelotonlaw04_MatmulCuts.j7 (k + 1) y0 y1 y2 y3 y4 y5 y6 y7 y8 y9)) ∧ (∀ y0, LeO (pelotonlaw04_MatmulCuts.j1 k y0) (pelotonlaw04_MatmulCuts.j1 (k + 1) y0))
 | 0 => ⟨fun _ _ _ _ _ _ r h => by simp [pelotonlaw04_MatmulCuts.j0] at h, fun _ _ _ _ _ _ _ _ _ _ _ _ _ _ _ _ _ r h => by simp [pelotonlaw04_MatmulCuts.j2] at h, fun _ _ _ _ _ _ _ _ _ _ _ _ _ _ _ _ _ r h => by simp [pelotonlaw04_MatmulCuts.l0] at h, fun _ _ _ _ _ _ _ _ _ _ _ _ _ _ r h => by simp [pelotonlaw04_MatmulCuts.j4] at h, fun _ _ _ _ _ _ _ _ _ _ _ _ _ _ _ r h => by simp [pelotonlaw04_MatmulCuts.j5] at h, fun _ _ _ _ _ _ _ _ _ _ r h => by simp [pelotonlaw04_MatmulCuts.j6] at h, fun _ _ _ _ _ _ _ _ _ _ r h => by simp [pelotonlaw04_MatmulCuts.j7] at h, fun _ r h => by simp [pelotonlaw04_MatmulCuts.j1] at h⟩
 | k + 1 => by
  obtain ⟨ih0, ih1, ih2, ih3, ih4, ih5, ih6, ih7⟩ := pelotonlaw04_MatmulCuts.mono_l k
  refine ⟨?_, ?_, ?_, ?_, ?_, ?_, ?_, ?_⟩
  ·
   intro y0 y1 y2 y3 y4 y5
   unfold pelotonlaw04_MatmulCuts.j0
   repeat' first
   | (with_reducible exact ih0 _ _ _ _ _ _)
   | (with_reducible exact ih1 _ _ _ _ _ _ _ _ _ _ _ _ _ _ _ _ _)
   | (with_reducible exact ih2 _ _ _ _ _ _ _ _ _ _ _ _ _ _ _ _ _)
   | (with_reducible exact ih3 _ _ _ _ _ _ _ _ _ _ _ _ _ _)
   | (with_reducible exact ih4 _ _ _ _ _ _ _ _ _ _ _ _ _ _ _)
   | (with_reducible exact ih5 _ _ _ _ _ _ _ _ _ _)
   | (with_reducible exact ih6 _ _ _ _ _ _ _ _ _ _)
   | (with_reducible exact ih7 _)
   | (with_reducible exact matmul_Cols.mono _ _ _ _ _ _)
   | (with_reducible exact matmul_Wide.mono _ _ _ _)
   | (with_reducible exact pelotonlaw04_awake.mono _)
   | (with_reducible exact pelotonref04_Part.mono _ _ _ _ _ _ _ _)
   | (with_reducible exact pelotonref04_Same.mono _ _ _ _ _ _ _)
   | (with_reducible exact LeO.refl _)
   | (with_reducible exact LeO.none _)
   | (with_reducible refine LeO.ite ?_ ?_)
   | (with_reducible refine LeO.bind ?_ (fun _ => ?_))
   | exact ih0 _ _ _ _ _ _
   | exact ih1 _ _ _ _ _ _ _ _ _ _ _ _ _ _ _ _ _
   | exact ih2 _ _ _ _ _ _ _ _ _ _ _ _ _ _ _ _ _
   | exact ih3 _ _ _ _ _ _ _ _ _ _ _ _ _ _
   | exact ih4 _ _ _ _ _ _ _ _ _ _ _ _ _ _ _
   | exact ih5 _ _ _ _ _ _ _ _ _ _
   | exact ih6 _ _ _ _ _ _ _ _ _ _
   | exact ih7 _
   | exact matmul_Cols.mono _ _ _ _ _ _
   | exact matmul_Wide.mono _ _ _ _
   | exact pelotonlaw04_awake.mono _
   | exact pelotonref04_Part.mono _ _ _ _ _ _ _ _
   | exact pelotonref04_Same.mono _ _ _ _ _ _ _
   | exact LeO.none _
   | refine LeO.ite ?_ ?_
   | refine LeO.bind ?_ (fun _ => ?_)
  ·
   intro y0 y1 y2 y3 y4 y5 y6 y7 y8 y9 y10 y11 y12 y13 y14 y15 y16
   unfold pelotonlaw04_MatmulCuts.j2
   repeat' first
   | (with_reducible exact ih0 _ _ _ _ _ _)
   | (with_reducible exact ih1 _ _ _ _ _ _ _ _ _ _ _ _ _ _ _ _ _)
   | (with_reducible exact ih2 _ _ _ _ _ _ _ _ _ _ _ _ _ _ _ _ _)
   | (with_reducible exact ih3 _ _ _ _ _ _ _ _ _ _ _ _ _ _)
   | (with_reducible exact ih4 _ _ _ _ _ _ _ _ _ _ _ _ _ _ _)
   | (with_reducible exact ih5 _ _ _ _ _ _ _ _ _ _)
   | (with_reducible exact ih6 _ _ _ _ _ _ _ _ _ _)
   | (with_reducible exact ih7 _)
   | (with_reducible exact matmul_Cols.mono _ _ _ _ _ _)
   | (with_reducible exact matmul_Wide.mono _ _ _ _)
   | (with_reducible exact pelotonlaw04_awake.mono _)
   | (with_reducible exact pelotonref04_Part.mono _ _ _ _ _ _ _ _)
   | (with_reducible exact pelotonref04_Same.mono _ _ _ _ _ _ _)
   | (with_reducible exact LeO.refl _)
   | (with_reducible exact LeO.none _)
   | (with_reducible refine LeO.ite ?_ ?_)
   | (with_reducible refine LeO.bind ?_ (fun _ => ?_))
   | exact ih0 _ _ _ _ _ _
   | exact ih1 _ _ _ _ _ _ _ _ _ _ _ _ _ _ _ _ _
   | exact ih2 _ _ _ _ _ _ _ _ _ _ _ _ _ _ _ _ _
   | exact ih3 _ _ _ _ _ _ _ _ _ _ _ _ _ _
   | exact ih4 _ _ _ _ _ _ _ _ _ _ _ _ _ _ _
   | exact ih5 _ _ _ _ _ _ _ _ _ _
   | exact ih6 _ _ _ _ _ _ _ _ _ _
   | exact ih7 _
   | exact matmul_Cols.mono _ _ _ _ _ _
   | exact matmul_Wide.mono _ _ _ _
   | exact pelotonlaw04_awake.mono _
   | exact pelotonref04_Part.mono _ _ _ _ _ _ _ _
   | exact pelotonref04_Same.mono _ _ _ _ _ _ _
   | exact LeO.none _
   | refine LeO.ite ?_ ?_
   | refine LeO.bind ?_ (fun _ => ?_)
  ·
   intro y0 y1 y2 y3 y4 y5 y6 y7 y8 y9 y10 y11 y12 y13 y14 y15 y16
   unfold pelotonlaw04_MatmulCuts.l0
   repeat' first
   | (with_reducible exact ih0 _ _ _ _ _ _)
   | (with_reducible exact ih1 _ _ _ _ _ _ _ _ _ _ _ _ _ _ _ _ _)
   | (with_reducible exact ih2 _ _ _ _ _ _ _ _ _ _ _ _ _ _ _ _ _)
   | (with_reducible exact ih3 _ _ _ _ _ _ _ _ _ _ _ _ _ _)
   | (with_reducible exact ih4 _ _ _ _ _ _ _ _ _ _ _ _ _ _ _)
   | (with_reducible exact ih5 _ _ _ _ _ _ _ _ _ _)
   | (with_reducible exact ih6 _ _ _ _ _ _ _ _ _ _)
   | (with_reducible exact ih7 _)
   | (with_reducible exact matmul_Cols.mono _ _ _ _ _ _)
   | (with_reducible exact matmul_Wide.mono _ _ _ _)
   | (with_reducible exact pelotonlaw04_awake.mono _)
   | (with_reducible exact pelotonref04_Part.mono _ _ _ _ _ _ _ _)
   | (with_reducible exact pelotonref04_Same.mono _ _ _ _ _ _ _)
   | (with_reducible exact LeO.refl _)
   | (with_reducible exact LeO.none _)
   | (with_reducible refine LeO.ite ?_ ?_)
   | (with_reducible refine LeO.bind ?_ (fun _ => ?_))
   | exact ih0 _ _ _ _ _ _
   | exact ih1 _ _ _ _ _ _ _ _ _ _ _ _ _ _ _ _ _
   | exact ih2 _ _ _ _ _ _ _ _ _ _ _ _ _ _ _ _ _
   | exact ih3 _ _ _ _ _ _ _ _ _ _ _ _ _ _
   | exact ih4 _ _ _ _ _ _ _ _ _ _ _ _ _ _ _
   | exact ih5 _ _ _ _ _ _ _ _ _ _
   | exact ih6 _ _ _ _ _ _ _ _ _ _
   | exact ih7 _
   | exact matmul_Cols.mono _ _ _ _ _ _
   | exact matmul_Wide.mono _ _ _ _
   | exact pelotonlaw04_awake.mono _
   | exact pelotonref04_Part.mono _ _ _ _ _ _ _ _
   | exact pelotonref04_Same.mono _ _ _ _ _ _ _
   | exact LeO.none _
   | refine LeO.ite ?_ ?_
   | refine LeO.bind ?_ (fun _ => ?_)
  ·
   intro y0 y1 y2 y3 y4 y5 y6 y7 y8 y9 y10 y11 y12 y13
   unfold pelotonlaw04_MatmulCuts.j4
   repeat' first
   | (with_reducible exact ih0 _ _ _ _ _ _)
   | (with_reducible exact ih1 _ _ _ _ _ _ _ _ _ _ _ _ _ _ _ _ _)
   | (with_reducible exact ih2 _ _ _ _ _ _ _ _ _ _ _ _ _ _ _ _ _)
   | (with_reducible exact ih3 _ _ _ _ _ _ _ _ _ _ _ _ _ _)
   | (with_reducible exact ih4 _ _ _ _ _ _ _ _ _ _ _ _ _ _ _)
   | (with_reducible exact ih5 _ _ _ _ _ _ _ _ _ _)
   | (with_reducible exact ih6 _ _ _ _ _ _ _ _ _ _)
   | (with_reducible exact ih7 _)
   | (with_reducible exact matmul_Cols.mono _ _ _ _ _ _)
   | (with_reducible exact matmul_Wide.mono _ _ _ _)
   | (with_reducible exact pelotonlaw04_awake.mono _)
   | (with_reducible exact pelotonref04_Part.mono _ _ _ _ _ _ _ _)
   | (with_reducible exact pelotonref04_Same.mono _ _ _ _ _ _ _)
   | (with_reducible exact LeO.refl _)
   | (with_reducible exact LeO.none _)
   | (with_reducible refine LeO.ite ?_ ?_)
   | (with_reducible refine LeO.bind ?_ (fun _ => ?_))
   | exact ih0 _ _ _ _ _ _
   | exact ih1 _ _ _ _ _ _ _ _ _ _ _ _ _ _ _ _ _
   | exact ih2 _ _ _ _ _ _ _ _ _ _ _ _ _ _ _ _ _
   | exact ih3 _ _ _ _ _ _ _ _ _ _ _ _ _ _
   | exact ih4 _ _ _ _ _ _ _ _ _ _ _ _ _ _ _
   | exact ih5 _ _ _ _ _ _ _ _ _ _
   | exact ih6 _ _ _ _ _ _ _ _ _ _
   | exact ih7 _
   | exact matmul_Cols.mono _ _ _ _ _ _
   | exact matmul_Wide.mono _ _ _ _
   | exact pelotonlaw04_awake.mono _
   | exact pelotonref04_Part.mono _ _ _ _ _ _ _ _
   | exact pelotonref04_Same.mono _ _ _ _ _ _ _
   | exact LeO.none _
   | refine LeO.ite ?_ ?_
   | refine LeO.bind ?_ (fun _ => ?_)
  ·
   intro y0 y1 y2 y3 y4 y5 y6 y7 y8 y9 y10 y11 y12 y13 y14
   unfold pelotonlaw04_MatmulCuts.j5
   repeat' first
   | (with_reducible exact ih0 _ _ _ _ _ _)
   | (with_reducible exact ih1 _ _ _ _ _ _ _ _ _ _ _ _ _ _ _ _ _)
   | (with_reducible exact ih2 _ _ _ _ _ _ _ _ _ _ _ _ _ _ _ _ _)
   | (with_reducible exact ih3 _ _ _ _ _ _ _ _ _ _ _ _ _ _)
   | (with_reducible exact ih4 _ _ _ _ _ _ _ _ _ _ _ _ _ _ _)
   | (with_reducible exact ih5 _ _ _ _ _ _ _ _ _ _)
   | (with_reducible exact ih6 _ _ _ _ _ _ _ _ _ _)
   | (with_reducible exact ih7 _)
   | (with_reducible exact matmul_Cols.mono _ _ _ _ _ _)
   | (with_reducible exact matmul_Wide.mono _ _ _ _)
   | (with_reducible exact pelotonlaw04_awake.mono _)
   | (with_reducible exact pelotonref04_Part.mono _ _ _ _ _ _ _ _)
   | (with_reducible exact pelotonref04_Same.mono _ _ _ _ _ _ _)
   | (with_reducible exact LeO.refl _)
   | (with_reducible exact LeO.none _)
   | (with_reducible refine LeO.ite ?_ ?_)
   | (with_reducible refine LeO.bind ?_ (fun _ => ?_))
   | exact ih0 _ _ _ _ _ _
   | exact ih1 _ _ _ _ _ _ _ _ _ _ _ _ _ _ _ _ _
   | exact ih2 _ _ _ _ _ _ _ _ _ _ _ _ _ _ _ _ _
   | exact ih3 _ _ _ _ _ _ _ _ _ _ _ _ _ _
   | exact ih4 _ _ _ _ _ _ _ _ _ _ _ _ _ _ _
   | exact ih5 _ _ _ _ _ _ _ _ _ _
   | exact ih6 _ _ _ _ _ _ _ _ _ _
   | exact ih7 _
   | exact matmul_Cols.mono _ _ _ _ _ _
   | exact matmul_Wide.mono _ _ _ _
   | exact pelotonlaw04_awake.mono _
   | exact pelotonref04_Part.mono _ _ _ _ _ _ _ _
   | exact pelotonref04_Same.mono _ _ _ _ _ _ _
   | exact LeO.none _
   | refine LeO.ite ?_ ?_
   | refine LeO.bind ?_ (fun _ => ?_)
  ·
   intro y0 y1 y2 y3 y4 y5 y6 y7 y8 y9
   unfold pelotonlaw04_MatmulCuts.j6
   repeat' first
   | (with_reducible exact ih0 _ _ _ _ _ _)
   | (with_reducible exact ih1 _ _ _ _ _ _ _ _ _ _ _ _ _ _ _ _ _)
   | (with_reducible exact ih2 _ _ _ _ _ _ _ _ _ _ _ _ _ _ _ _ _)
   | (with_reducible exact ih3 _ _ _ _ _ _ _ _ _ _ _ _ _ _)
   | (with_reducible exact ih4 _ _ _ _ _ _ _ _ _ _ _ _ _ _ _)
   | (with_reducible exact ih5 _ _ _ _ _ _ _ _ _ _)
   | (with_reducible exact ih6 _ _ _ _ _ _ _ _ _ _)
   | (with_reducible exact ih7 _)
   | (with_reducible exact matmul_Cols.mono _ _ _ _ _ _)
   | (with_reducible exact matmul_Wide.mono _ _ _ _)
   | (with_reducible exact pelotonlaw04_awake.mono _)
   | (with_reducible exact pelotonref04_Part.mono _ _ _ _ _ _ _ _)
   | (with_reducible exact pelotonref04_Same.mono _ _ _ _ _ _ _)
   | (with_reducible exact LeO.refl _)
   | (with_reducible exact LeO.none _)
   | (with_reducible refine LeO.ite ?_ ?_)
   | (with_reducible refine LeO.bind ?_ (fun _ => ?_))
   | exact ih0 _ _ _ _ _ _
   | exact ih1 _ _ _ _ _ _ _ _ _ _ _ _ _ _ _ _ _
   | exact ih2 _ _ _ _ _ _ _ _ _ _ _ _ _ _ _ _ _
   | exact ih3 _ _ _ _ _ _ _ _ _ _ _ _ _ _
   | exact ih4 _ _ _ _ _ _ _ _ _ _ _ _ _ _ _
   | exact ih5 _ _ _ _ _ _ _ _ _ _
   | exact ih6 _ _ _ _ _ _ _ _ _ _
   | exact ih7 _
   | exact matmul_Cols.mono _ _ _ _ _ _
   | exact matmul_Wide.mono _ _ _ _
   | exact pelotonlaw04_awake.mono _
   | exact pelotonref04_Part.mono _ _ _ _ _ _ _ _
   | exact pelotonref04_Same.mono _ _ _ _ _ _ _
   | exact LeO.none _
   | refine LeO.ite ?_ ?_
   | refine LeO.bind ?_ (fun _ => ?_)
  ·
   intro y0 y1 y2 y3 y4 y5 y6 y7 y8 y9
   unfold pelotonlaw04_MatmulCuts.j7
   repeat' first
   | (with_reducible exact ih0 _ _ _ _ _ _)
   | (with_reducible exact ih1 _ _ _ _ _ _ _ _ _ _ _ _ _ _ _ _ _)
   | (with_reducible exact ih2 _ _ _ _ _ _ _ _ _ _ _ _ _ _ _ _ _)
   | (with_reducible exact ih3 _ _ _ _ _ _ _ _ _ _ _ _ _ _)
   | (with_reducible exact ih4 _ _ _ _ _ _ _ _ _ _ _ _ _ _ _)
   | (with_reducible exact ih5 _ _ _ _ _ _ _ _ _ _)
   | (with_reducible exact ih6 _ _ _ _ _ _ _ _ _ _)
   | (with_reducible exact ih7 _)
   | (with_reducible exact matmul_Cols.mono _ _ _ _ _ _)
   | (with_reducible exact matmul_Wide.mono _ _ _ _)
   | (with_reducible exact pelotonlaw04_awake.mono _)
   | (with_reducible exact pelotonref04_Part.mono _ _ _ _ _ _ _ _)
   | (with_reducible exact pelotonref04_Same.mono _ _ _ _ _ _ _)
   | (with_reducible exact LeO.refl _)
   | (with_reducible exact LeO.none _)
   | (with_reducible refine LeO.ite ?_ ?_)
   | (with_reducible refine LeO.bind ?_ (fun _ => ?_))
   | exact ih0 _ _ _ _ _ _
   | exact ih1 _ _ _ _ _ _ _ _ _ _ _ _ _ _ _ _ _
   | exact ih2 _ _ _ _ _ _ _ _ _ _ _ _ _ _ _ _ _
   | exact ih3 _ _ _ _ _ _ _ _ _ _ _ _ _ _
   | exact ih4 _ _ _ _ _ _ _ _ _ _ _ _ _ _ _
   | exact ih5 _ _ _ _ _ _ _ _ _ _
   | exact ih6 _ _ _ _ _ _ _ _ _ _
   | exact ih7 _
   | exact matmul_Cols.mono _ _ _ _ _ _
   | exact matmul_Wide.mono _ _ _ _
   | exact pelotonlaw04_awake.mono _
   | exact pelotonref04_Part.mono _ _ _ _ _ _ _ _
   | exact pelotonref04_Same.mono _ _ _ _ _ _ _
   | exact LeO.none _
   | refine LeO.ite ?_ ?_
   | refine LeO.bind ?_ (fun _ => ?_)
  ·
   intro y0
   unfold pelotonlaw04_MatmulCuts.j1
   repeat' first
   | (with_reducible exact ih0 _ _ _ _ _ _)
   | (with_reducible exact ih1 _ _ _ _ _ _ _ _ _ _ _ _ _ _ _ _ _)
   | (with_reducible exact ih2 _ _ _ _ _ _ _ _ _ _ _ _ _ _ _ _ _)
   | (with_reducible exact ih3 _ _ _ _ _ _ _ _ _ _ _ _ _ _)
   | (with_reducible exact ih4 _ _ _ _ _ _ _ _ _ _ _ _ _ _ _)
   | (with_reducible exact ih5 _ _ _ _ _ _ _ _ _ _)
   | (with_reducible exact ih6 _ _ _ _ _ _ _ _ _ _)
   | (with_reducible exact ih7 _)
   | (with_reducible exact matmul_Cols.mono _ _ _ _ _ _)
   | (with_reducible exact matmul_Wide.mono _ _ _ _)
   | (with_reducible exact pelotonlaw04_awake.mono _)
   | (with_reducible exact pelotonref04_Part.mono _ _ _ _ _ _ _ _)
   | (with_reducible exact pelotonref04_Same.mono _ _ _ _ _ _ _)
   | (with_reducible exact LeO.refl _)
   | (with_reducible exact LeO.none _)
   | (with_reducible refine LeO.ite ?_ ?_)
   | (with_reducible refine LeO.bind ?_ (fun _ => ?_))
   | exact ih0 _ _ _ _ _ _
   | exact ih1 _ _ _ _ _ _ _ _ _ _ _ _ _ _ _ _ _
   | exact ih2 _ _ _ _ _ _ _ _ _ _ _ _ _ _ _ _ _
   | exact ih3 _ _ _ _ _ _ _ _ _ _ _ _ _ _
   | exact ih4 _ _ _ _ _ _ _ _ _ _ _ _ _ _ _
   | exact ih5 _ _ _ _ _ _ _ _ _ _
   | exact ih6 _ _ _ _ _ _ _ _ _ _
   | exact ih7 _
   | exact matmul_Cols.mono _ _ _ _ _ _
   | exact matmul_Wide.mono _ _ _ _
   | exact pelotonlaw04_awake.mono _
   | exact pelotonref04_Part.mono _ _ _ _ _ _ _ _
   | exact pelotonref04_Same.mono _ _ _ _ _ _ _
   | exact LeO.none _
   | refine LeO.ite ?_ ?_
   | refine LeO.bind ?_ (fun _ => ?_)
theorem pelotonlaw04_MatmulCuts.mono : ∀ a0 a1 a2 a3 a4 k, LeO (pelotonlaw04_MatmulCuts.f k a0 a1 a2 a3 a4) (pelotonlaw04_MatmulCuts.f (k + 1) a0 a1 a2 a3 a4) := by
 intro a0 a1 a2 a3 a4 k
 obtain ⟨ih0, ih1, ih2, ih3, ih4, ih5, ih6, ih7⟩ := pelotonlaw04_MatmulCuts.mono_l k
 unfold pelotonlaw04_MatmulCuts.f
 repeat' first
   | (with_reducible exact ih0 _ _ _ _ _ _)
   | (with_reducible exact ih1 _ _ _ _ _ _ _ _ _ _ _ _ _ _ _ _ _)
   | (with_reducible exact ih2 _ _ _ _ _ _ _ _ _ _ _ _ _ _ _ _ _)
   | (with_reducible exact ih3 _ _ _ _ _ _ _ _ _ _ _ _ _ _)
   | (with_reducible exact ih4 _ _ _ _ _ _ _ _ _ _ _ _ _ _ _)
   | (with_reducible exact ih5 _ _ _ _ _ _ _ _ _ _)
   | (with_reducible exact ih6 _ _ _ _ _ _ _ _ _ _)
   | (with_reducible exact ih7 _)
   | (with_reducible exact matmul_Cols.mono _ _ _ _ _ _)
   | (with_reducible exact matmul_Wide.mono _ _ _ _)
   | (with_reducible exact pelotonlaw04_awake.mono _)
   | (with_reducible exact pelotonref04_Part.mono _ _ _ _ _ _ _ _)
   | (with_reducible exact pelotonref04_Same.mono _ _ _ _ _ _ _)
   | (with_reducible exact LeO.refl _)
   | (with_reducible exact LeO.none _)
   | (with_reducible refine LeO.ite ?_ ?_)
   | (with_reducible refine LeO.bind ?_ (fun _ => ?_))
   | exact ih0 _ _ _ _ _ _
   | exact ih1 _ _ _ _ _ _ _ _ _ _ _ _ _ _ _ _ _
   | exact ih2 _ _ _ _ _ _ _ _ _ _ _ _ _ _ _ _ _
   | exact ih3 _ _ _ _ _ _ _ _ _ _ _ _ _ _
   | exact ih4 _ _ _ _ _ _ _ _ _ _ _ _ _ _ _
   | exact ih5 _ _ _ _ _ _ _ _ _ _
   | exact ih6 _ _ _ _ _ _ _ _ _ _
   | exact ih7 _
   | exact matmul_Cols.mono _ _ _ _ _ _
   | exact matmul_Wide.mono _ _ _ _
   | exact pelotonlaw04_awake.mono _
   | exact pelotonref04_Part.mono _ _ _ _ _ _ _ _
   | exact pelotonref04_Same.mono _ _ _ _ _ _ _
   | exact LeO.none _
   | refine LeO.ite ?_ ?_
   | refine LeO.bind ?_ (fun _ => ?_)
def pelotonlaw04_MatmulCuts.T13 : Bool × List (List Nat × List Nat) := (true, [([], []), ([0], [0]), ([], []), ([1, 2], [1, 2]), ([3], [3]), ([], []), ([5], [5]), ([], []), ([6, 7], [6, 7]), ([8], [8]), ([9], [9]), ([4, 10], [4, 10])])
def pelotonlaw04_MatmulCuts.B13 : List Nat := [0, 1, 0, 7, 15, 0, 32, 0, 224, 480, 992, 2047]
theorem pelotonlaw04_MatmulCuts.tab13 : rtab .any (opsOf Try.f8 13) = pelotonlaw04_MatmulCuts.T13 := by kernel_rfl
theorem pelotonlaw04_MatmulCuts.bits13 : waitsOk pelotonlaw04_MatmulCuts.T13.2 pelotonlaw04_MatmulCuts.B13 = true := by kernel_rfl
def pelotonlaw04_MatmulCuts.T17 : Bool × List (List Nat × List Nat) := (true, [([], []), ([0], [0]), ([1], [1]), ([2], [2]), ([2], [2]), ([2], [2]), ([2], [2]), ([2], [2]), ([7, 2], [2, 7]), ([4, 5, 6, 8, 2, 2], [2, 4, 5, 6, 8]), ([3, 9, 9, 2], [2, 3, 9]), ([10, 2], [2, 10]), ([2, 11], [2, 11])])
def pelotonlaw04_MatmulCuts.B17 : List Nat := [0, 1, 3, 7, 7, 7, 7, 7, 135, 503, 1023, 2047, 4095]
theorem pelotonlaw04_MatmulCuts.tab17 : rtab .any (opsOf Try.f8 17) = pelotonlaw04_MatmulCuts.T17 := by kernel_rfl
theorem pelotonlaw04_MatmulCuts.bits17 : waitsOk pelotonlaw04_MatmulCuts.T17.2 pelotonlaw04_MatmulCuts.B17 = true := by kernel_rfl
def pelotonlaw04_MatmulCuts.T22 : Bool × List (List Nat × List Nat) := (true, [([], []), ([0], [0]), ([1], [1]), ([2], [2]), ([2], [2]), ([2], [2]), ([5, 2], [2, 5]), ([2], [2]), ([2], [2]), ([4, 6, 7, 8, 2, 2], [2, 4, 6, 7, 8]), ([3, 9, 9, 2], [2, 3, 9]), ([2, 10], [2, 10]), ([11, 10, 0, 1, 2, 3, 4, 5, 6, 7, 8, 9, 10, 11], [11])])
def pelotonlaw04_MatmulCuts.B22 : List Nat := [0, 1, 3, 7, 7, 7, 39, 7, 7, 503, 1023, 2047, 4095]
theorem pelotonlaw04_MatmulCuts.tab22 : rtab .any (opsOf Try.f8 22) = pelotonlaw04_MatmulCuts.T22 := by kernel_rfl
theorem pelotonlaw04_MatmulCuts.bits22 : waitsOk pelotonlaw04_MatmulCuts.T22.2 pelotonlaw04_MatmulCuts.B22 = true := by kernel_rfl
set_option maxHeartbeats 60000000 in
set_option maxRecDepth 100000 in
theorem pelotonlaw04_MatmulCuts.calls (k : Nat) (a0_0 : Int) (a0_1 : Int) (A0_2 : Option Addr) (c0_2 : Nat) (l0_2 : List Int) (a1 : Int) (a2 : Int) (r : Bool) (w : World) (hr0_2 : Kd.C (Kd.int .i8) w A0_2 l0_2.length l0_2) (hc0_2 : l0_2.length ≤ c0_2) (h : pelotonlaw04_MatmulCuts.f k a0_0 a0_1 l0_2 a1 a2 = some r) :
  Calls Try.prog 8 #[.agg #[.int .i64 a0_0, .int .i64 a0_1, .slice A0_2 l0_2.length c0_2], .int .i64 a1, .int .i64 a2] w fun e w' => e = .returned (.bool r) ∧ Below w.heap.size w w' := by
 have hu30 := Try.underlying30
 have hu51 := Try.underlying51
 have HR0_2 := Aside0.mk hr0_2
 have HC0_2 := Aside0.mk hc0_2
 clear hr0_2 hc0_2
 have HB := Aside0.mk (Below.refl w.heap.size w)
 have H : ((pelotonlaw04_awake.f k).bind fun t188 => (if t188 = true then ((pelotonlaw04_small.f a0_0 a0_1 l0_2).bind fun t189 => (pelotonlaw04_MatmulCuts.j0 k a1 a2 (!t189) a0_0 a0_1 l0_2)) else (pelotonlaw04_MatmulCuts.j0 k a1 a2 true a0_0 a0_1 l0_2))) = some r := h
 clear h
 have HC4 := Aside0.mk H
 clear H
 go_enter Try.func8, Try.ntmps8
 go_upto_region 1 with (first | ((with_reducible refine gate_dst (N := 3) rfl ?_); (try (refine gate_guard (by rfl) ?_; dsimp only)); refine box_event ?hg (N := 3) ?hd (cs := #[.int .i64 a0_0, .int .i64 a0_1, .slice A0_2 l0_2.length c0_2]) (t := 30) ?hr ?_; (case hd => rfl); (case hg => rfl); (case hr => first | (go_simp; done) | (go_simp; rfl)); intro gb187 hg w5 hbox hb; have n0_ := Aside0.mk (below_step (by repeat (first | (with_reducible first | exact HB.out | apply b_a | apply b_n | apply b_d) | exact HB.out)) hb); have n1_ := Aside0.mk (hbox); have n2_ := Aside0.mk ((by rw [hg]; exact (below_size (by repeat (first | (with_reducible first | exact HB.out | apply b_a | apply b_n | apply b_d) | exact HB.out))) : w.heap.size ≤ gb187)); have n3_ := Aside0.mk ((by rw [hg]; exact (below_size (by repeat (first | (with_reducible first | exact HB.out | apply b_a | apply b_n | apply b_d) | exact HB.out))) : w.heap.size ≤ gb187)); clear HB; have HB := n0_; have BK187 := n1_; have GW187 := n2_; have GE187 := n3_; clear n0_ n1_ n2_ n3_; clear hb hbox hg))
 (try simp only [Act.put, l_1, l_2, l_3])
 go_cut [21] (fun v21 wc => ∃ (kq : Nat) (x21_3 : Bool), v21 = .bool x21_3 ∧ Aside0 (pelotonlaw04_MatmulCuts.j0 kq a1 a2 x21_3 a0_0 a0_1 l0_2 = some r) ∧ Aside0 (kq ≤ k) ∧ Aside0 (wc.heap[gb187]? = some (.cells #[.int .i64 a0_0, .int .i64 a0_1, (.slice A0_2 l0_2.length c0_2)] 30 (0, 0))) ∧ Aside0 (Below w.heap.size w wc))
 case first =>
  have H := HC4.out
  clear HC4
  replace H := Option.bind_eq_some_iff.mp H
  obtain ⟨t188, A60, H⟩ := H
  replace H : (if t188 = true then ((pelotonlaw04_small.f a0_0 a0_1 l0_2).bind fun t189 => (pelotonlaw04_MatmulCuts.j0 k a1 a2 (!t189) a0_0 a0_1 l0_2)) else (pelotonlaw04_MatmulCuts.j0 k a1 a2 true a0_0 a0_1 l0_2)) = some r := H
  have A6 := Aside0.mk A60
  clear A60
  by_cases c7 : t188 = true
  rotate_left
  ·
   replace c7 := Bool.eq_false_iff.mpr c7
   subst c7
   have H1 : (pelotonlaw04_MatmulCuts.j0 k a1 a2 true a0_0 a0_1 l0_2) = some r := by rw [if_neg (show ¬ (false = true) by decide)] at H; exact H
   clear H
   have H := H1
   clear H1
   have H' := Aside0.mk H
   clear H
   go_wp2_with (first | ((with_reducible refine gate_callee (f := 10) rfl ?_); refine goesL_ (some 15) rfl rfl Try.func10 (by kernel_rfl) rfl #[] rfl (by (try simp only [l_4, l_5, l_6]); first | done | rfl | (simp only [l_7, l_8]; rfl)) ?_; (with_reducible refine (pelotonlaw04_awake.calls k  false _ A6.out).mono ?_); rintro e w12 ⟨rfl, hb⟩; (try clear A6); refine ⟨_, rfl, ?_⟩; have n0_ := Aside0.mk (blk_below (g := gb187) (o := .cells #[.int .i64 a0_0, .int .i64 a0_1, .slice A0_2 l0_2.length c0_2] 30 (0, 0)) (by (with_reducible repeat (first | refine k_n ?_ _ | refine k_d ?_ | refine k_a ?_ _)); exact BK187.out) hb); have n1_ := Aside0.mk (below_step (by repeat (first | (with_reducible first | exact HB.out | apply b_a | apply b_n | apply b_d | refine b_s ?_ GE187.out) | exact HB.out)) hb); clear BK187; clear HB; have BK187 := n0_; have HB := n1_; clear n0_ n1_; (try clear hb); (try clear hb2); (try clear hk); (try clear hi)))
   go_meet
   case rel => exact ⟨_, (true), (by first | rfl | (simp; done) | (simp [*]; done)), H', ⟨by first | omega | exact Nat.le_refl _⟩, ⟨by (with_reducible repeat (first | refine k_n ?_ _ | refine k_d ?_ | refine k_a ?_ _)); exact BK187.out⟩, ⟨by repeat (first | (with_reducible first | exact HB.out | apply b_a | apply b_n | apply b_d | refine b_s ?_ GE187.out) | exact HB.out)⟩⟩
  subst c7
  have H1 : ((pelotonlaw04_small.f a0_0 a0_1 l0_2).bind fun t189 => (pelotonlaw04_MatmulCuts.j0 k a1 a2 (!t189) a0_0 a0_1 l0_2)) = some r := by rw [if_pos rfl] at H; exact H
  clear H
  have H := H1
  clear H1
  replace H := Option.bind_eq_some_iff.mp H
  obtain ⟨t189, A80, H⟩ := H
  replace H : (pelotonlaw04_MatmulCuts.j0 k a1 a2 (!t189) a0_0 a0_1 l0_2) = some r := H
  have A8 := Aside0.mk A80
  clear A80
  have H' := Aside0.mk H
  clear H
  go_wp2_with (first | ((with_reducible refine gate_callee (f := 10) rfl ?_); refine goesL_ (some 15) rfl rfl Try.func10 (by kernel_rfl) rfl #[] rfl (by (try simp only [l_4, l_5, l_6]); first | done | rfl | (simp only [l_7, l_8]; rfl)) ?_; (with_reducible refine (pelotonlaw04_awake.calls k  true _ A6.out).mono ?_); rintro e w9 ⟨rfl, hb⟩; (try clear A6); refine ⟨_, rfl, ?_⟩; have n0_ := Aside0.mk (blk_below (g := gb187) (o := .cells #[.int .i64 a0_0, .int .i64 a0_1, .slice A0_2 l0_2.length c0_2] 30 (0, 0)) (by (with_reducible repeat (first | refine k_n ?_ _ | refine k_d ?_ | refine k_a ?_ _)); exact BK187.out) hb); have n1_ := Aside0.mk (below_step (by repeat (first | (with_reducible first | exact HB.out | apply b_a | apply b_n | apply b_d | refine b_s ?_ GE187.out) | exact HB.out)) hb); clear BK187; clear HB; have BK187 := n0_; have HB := n1_; clear n0_ n1_; (try clear hb); (try clear hb2); (try clear hk); (try clear hi); have hcz10_0 : w9.cell? ⟨gb187, 0, none⟩ = some (.int .i64 a0_0) := (blk_cell BK187.out 0).trans rfl; have hcz10_1 : w9.cell? ⟨gb187, 1, none⟩ = some (.int .i64 a0_1) := (blk_cell BK187.out 1).trans rfl; have hcz10_2 : w9.cell? ⟨gb187, 2, none⟩ = some (.slice A0_2 l0_2.length c0_2) := (blk_cell BK187.out 2).trans rfl; have hfz10_0 := blk_frozen BK187.out 0; have hfz10_1 := blk_frozen BK187.out 1; have hfz10_2 := blk_frozen BK187.out 2) | (go_at_call 12; (with_reducible refine (pelotonlaw04_small.calls a0_0 a0_1 _ _ l0_2 t189 _ ?side1 ?side2 A8.out).mono ?_); (case side1 => repeat (first | exact (Kd.C_below HR0_2.out HB.out) | (with_reducible refine Kd.C_alloc ?_ _) | (with_reducible refine Kd.C_drewN ?_ _) | (with_reducible refine Kd.C_drew ?_))); (case side2 => exact HC0_2.out); rintro e w11 ⟨rfl, hb⟩; (try clear A8); have n0_ := Aside0.mk (blk_below (g := gb187) (o := .cells #[.int .i64 a0_0, .int .i64 a0_1, .slice A0_2 l0_2.length c0_2] 30 (0, 0)) (by (with_reducible repeat (first | refine k_n ?_ _ | refine k_d ?_ | refine k_a ?_ _)); exact BK187.out) hb); have n1_ := Aside0.mk (below_step (by repeat (first | (with_reducible first | exact HB.out | apply b_a | apply b_n | apply b_d | refine b_s ?_ GE187.out) | exact HB.out)) hb); clear BK187; clear HB; have BK187 := n0_; have HB := n1_; clear n0_ n1_; (try clear hb); (try clear hb2); (try clear hk); (try clear hi)))
  go_meet
  case rel => exact ⟨_, (!t189), (by first | rfl | (simp; done) | (simp [*]; done)), H', ⟨by first | omega | exact Nat.le_refl _⟩, ⟨by (with_reducible repeat (first | refine k_n ?_ _ | refine k_d ?_ | refine k_a ?_ _)); exact BK187.out⟩, ⟨by repeat (first | (with_reducible first | exact HB.out | apply b_a | apply b_n | apply b_d | refine b_s ?_ GE187.out) | exact HB.out)⟩⟩
 case rest => as_aux_lemma =>
  clear HC4
  try clear c1
  try clear p2
  try clear c7
  try clear c8
  try clear c10
  try clear hcz10_0
  try clear hcz10_1
  try clear hcz10_2
  try clear hfz10_0
  try clear hfz10_1
  try clear hfz10_2
  obtain ⟨kq, x21_3, rfl, HA, HJ3, BK187, HB⟩ := hcut
  cases kq with
  | zero => exact absurd HA.out (by simp [pelotonlaw04_MatmulCuts.j0])
  | succ kj3 =>
   have H := HA.out
   clear HA
   simp only [pelotonlaw04_MatmulCuts.j0] at H
   by_cases c13 : x21_3 = true
   ·
    subst c13
    have H1 : ((pelotonlaw04_awake.f kj3).bind fun t190 => (some t190)) = some r := by rw [if_pos rfl] at H; exact H
    clear H
    have H := H1
    clear H1
    replace H := Option.bind_eq_some_iff.mp H
    obtain ⟨t190, A140, H⟩ := H
    replace H : (some t190) = some r := H
    have A14 := Aside0.mk A140
    clear A140
    obtain rfl := Option.some.inj H
    go_wp2_with (first | ((with_reducible refine gate_callee (f := 10) rfl ?_); refine goesL_ (some 22) rfl rfl Try.func10 (by kernel_rfl) rfl #[] rfl (by (try simp only [l_4, l_5, l_6]); first | done | rfl | (simp only [l_7, l_8]; rfl)) ?_; (with_reducible refine (pelotonlaw04_awake.calls kj3  t190 _ A14.out).mono ?_); rintro e w15 ⟨rfl, hb⟩; (try clear A14); refine ⟨_, rfl, ?_⟩; have n0_ := Aside0.mk (blk_below (g := gb187) (o := .cells #[.int .i64 a0_0, .int .i64 a0_1, .slice A0_2 l0_2.length c0_2] 30 (0, 0)) (by (with_reducible repeat (first | refine k_n ?_ _ | refine k_d ?_ | refine k_a ?_ _)); exact BK187.out) hb); have n1_ := Aside0.mk (below_step (by repeat (first | (with_reducible first | exact HB.out | apply b_a | apply b_n | apply b_d | refine b_s ?_ GE187.out) | exact HB.out)) hb); clear BK187; clear HB; have BK187 := n0_; have HB := n1_; clear n0_ n1_; (try clear hb); (try clear hb2); (try clear hk); (try clear hi)))
    go_ret
    exact ⟨by first | rfl | (simp [errW_none, errW_some] <;> rfl) | (simp [*, errW_none, errW_some] <;> rfl), by repeat (first | (with_reducible first | exact HB.out | apply b_a | apply b_n | apply b_d | refine b_s ?_ GE187.out) | exact HB.out)⟩
   replace c13 := Bool.eq_false_iff.mpr c13
   subst c13
   have H1 : ((matmul_Rows.f a0_0 a0_1 l0_2 a1 a2).bind fun bt191 => ((matmul_Cols.f kj3 a0_0 a0_1 l0_2 a1 a2).bind fun bt198 => ((matmul_Wide.f kj3 a0_0 a0_1 l0_2).bind fun bt205 => ((pelotonref04_Right.f a0_0 a0_1 l0_2).bind fun t212 => (if t212 = true then (if bt205.2.2.2 = 0 then (if bt205.1 = a0_0 then (if bt205.2.1 = a0_1 then (pelotonlaw04_MatmulCuts.j2 kj3 a1 a2 bt191.2.2.2 bt198.2.2.2 ((bt205.2.2.1.length : Int) != (l0_2.length : Int)) a0_0 a0_1 l0_2 bt191.1 bt191.2.1 bt191.2.2.1 bt198.1 bt198.2.1 bt198.2.2.1 bt205.1 bt205.2.1 bt205.2.2.1) else (pelotonlaw04_MatmulCuts.j2 kj3 a1 a2 bt191.2.2.2 bt198.2.2.2 true a0_0 a0_1 l0_2 bt191.1 bt191.2.1 bt191.2.2.1 bt198.1 bt198.2.1 bt198.2.2.1 bt205.1 bt205.2.1 bt205.2.2.1)) else (pelotonlaw04_MatmulCuts.j2 kj3 a1 a2 bt191.2.2.2 bt198.2.2.2 true a0_0 a0_1 l0_2 bt191.1 bt191.2.1 bt191.2.2.1 bt198.1 bt198.2.1 bt198.2.2.1 bt205.1 bt205.2.1 bt205.2.2.1)) else (pelotonlaw04_MatmulCuts.j2 kj3 a1 a2 bt191.2.2.2 bt198.2.2.2 true a0_0 a0_1 l0_2 bt191.1 bt191.2.1 bt191.2.2.1 bt198.1 bt198.2.1 bt198.2.2.1 bt205.1 bt205.2.1 bt205.2.2.1)) else (if bt191.2.2.2 = 30 then (if bt198.2.2.2 = 30 then (if bt205.2.2.2 = 30 then ((pelotonref04_Same.f kj3 bt191.1 bt191.2.1 bt191.2.2.1 0 0 ([] : List Int)).bind fun t213 => (if t213 = true then ((pelotonref04_Same.f kj3 bt198.1 bt198.2.1 bt198.2.2.1 0 0 ([] : List Int)).bind fun t214 => (pelotonlaw04_MatmulCuts.j1 kj3 t214)) else (pelotonlaw04_MatmulCuts.j1 kj3 false))) else (pelotonlaw04_MatmulCuts.j1 kj3 false)) else (pelotonlaw04_MatmulCuts.j1 kj3 false)) else (pelotonlaw04_MatmulCuts.j1 kj3 false))))))) = some r := by rw [if_neg (show ¬ (false = true) by decide)] at H; exact H
   clear H
   have H := H1
   clear H1
   replace H := Option.bind_eq_some_iff.mp H
   obtain ⟨⟨t191, t192, t193, t196⟩, A160, H⟩ := H
   replace H : ((matmul_Cols.f kj3 a0_0 a0_1 l0_2 a1 a2).bind fun bt198 => ((matmul_Wide.f kj3 a0_0 a0_1 l0_2).bind fun bt205 => ((pelotonref04_Right.f a0_0 a0_1 l0_2).bind fun t212 => (if t212 = true then (if bt205.2.2.2 = 0 then (if bt205.1 = a0_0 then (if bt205.2.1 = a0_1 then (pelotonlaw04_MatmulCuts.j2 kj3 a1 a2 t196 bt198.2.2.2 ((bt205.2.2.1.length : Int) != (l0_2.length : Int)) a0_0 a0_1 l0_2 t191 t192 t193 bt198.1 bt198.2.1 bt198.2.2.1 bt205.1 bt205.2.1 bt205.2.2.1) else (pelotonlaw04_MatmulCuts.j2 kj3 a1 a2 t196 bt198.2.2.2 true a0_0 a0_1 l0_2 t191 t192 t193 bt198.1 bt198.2.1 bt198.2.2.1 bt205.1 bt205.2.1 bt205.2.2.1)) else (pelotonlaw04_MatmulCuts.j2 kj3 a1 a2 t196 bt198.2.2.2 true a0_0 a0_1 l0_2 t191 t192 t193 bt198.1 bt198.2.1 bt198.2.2.1 bt205.1 bt205.2.1 bt205.2.2.1)) else (pelotonlaw04_MatmulCuts.j2 kj3 a1 a2 t196 bt198.2.2.2 true a0_0 a0_1 l0_2 t191 t192 t193 bt198.1 bt198.2.1 bt198.2.2.1 bt205.1 bt205.2.1 bt205.2.2.1)) else (if t196 = 30 then (if bt198.2.2.2 = 30 then (if bt205.2.2.2 = 30 then ((pelotonref04_Same.f kj3 t191 t192 t193 0 0 ([] : List Int)).bind fun t213 => (if t213 = true then ((pelotonref04_Same.f kj3 bt198.1 bt198.2.1 bt198.2.2.1 0 0 ([] : List Int)).bind fun t214 => (pelotonlaw04_MatmulCuts.j1 kj3 t214)) else (pelotonlaw04_MatmulCuts.j1 kj3 false))) else (pelotonlaw04_MatmulCuts.j1 kj3 false)) else (pelotonlaw04_MatmulCuts.j1 kj3 false)) else (pelotonlaw04_MatmulCuts.j1 kj3 false)))))) = some r := H
   have A16 := Aside0.mk A160
   clear A160
   replace H := Option.bind_eq_some_iff.mp H
   obtain ⟨⟨t198, t199, t200, t203⟩, A170, H⟩ := H
   replace H : ((matmul_Wide.f kj3 a0_0 a0_1 l0_2).bind fun bt205 => ((pelotonref04_Right.f a0_0 a0_1 l0_2).bind fun t212 => (if t212 = true then (if bt205.2.2.2 = 0 then (if bt205.1 = a0_0 then (if bt205.2.1 = a0_1 then (pelotonlaw04_MatmulCuts.j2 kj3 a1 a2 t196 t203 ((bt205.2.2.1.length : Int) != (l0_2.length : Int)) a0_0 a0_1 l0_2 t191 t192 t193 t198 t199 t200 bt205.1 bt205.2.1 bt205.2.2.1) else (pelotonlaw04_MatmulCuts.j2 kj3 a1 a2 t196 t203 true a0_0 a0_1 l0_2 t191 t192 t193 t198 t199 t200 bt205.1 bt205.2.1 bt205.2.2.1)) else (pelotonlaw04_MatmulCuts.j2 kj3 a1 a2 t196 t203 true a0_0 a0_1 l0_2 t191 t192 t193 t198 t199 t200 bt205.1 bt205.2.1 bt205.2.2.1)) else (pelotonlaw04_MatmulCuts.j2 kj3 a1 a2 t196 t203 true a0_0 a0_1 l0_2 t191 t192 t193 t198 t199 t200 bt205.1 bt205.2.1 bt205.2.2.1)) else (if t196 = 30 then (if t203 = 30 then (if bt205.2.2.2 = 30 then ((pelotonref04_Same.f kj3 t191 t192 t193 0 0 ([] : List Int)).bind fun t213 => (if t213 = true then ((pelotonref04_Same.f kj3 t198 t199 t200 0 0 ([] : List Int)).bind fun t214 => (pelotonlaw04_MatmulCuts.j1 kj3 t214)) else (pelotonlaw04_MatmulCuts.j1 kj3 false))) else (pelotonlaw04_MatmulCuts.j1 kj3 false)) else (pelotonlaw04_MatmulCuts.j1 kj3 false)) else (pelotonlaw04_MatmulCuts.j1 kj3 false))))) = some r := H
   have A17 := Aside0.mk A170
   clear A170
   replace H := Option.bind_eq_some_iff.mp H
   obtain ⟨⟨t205, t206, t207, t210⟩, A180, H⟩ := H
   replace H : ((pelotonref04_Right.f a0_0 a0_1 l0_2).bind fun t212 => (if t212 = true then (if t210 = 0 then (if t205 = a0_0 then (if t206 = a0_1 then (pelotonlaw04_MatmulCuts.j2 kj3 a1 a2 t196 t203 ((t207.length : Int) != (l0_2.length : Int)) a0_0 a0_1 l0_2 t191 t192 t193 t198 t199 t200 t205 t206 t207) else (pelotonlaw04_MatmulCuts.j2 kj3 a1 a2 t196 t203 true a0_0 a0_1 l0_2 t191 t192 t193 t198 t199 t200 t205 t206 t207)) else (pelotonlaw04_MatmulCuts.j2 kj3 a1 a2 t196 t203 true a0_0 a0_1 l0_2 t191 t192 t193 t198 t199 t200 t205 t206 t207)) else (pelotonlaw04_MatmulCuts.j2 kj3 a1 a2 t196 t203 true a0_0 a0_1 l0_2 t191 t192 t193 t198 t199 t200 t205 t206 t207)) else (if t196 = 30 then (if t203 = 30 then (if t210 = 30 then ((pelotonref04_Same.f kj3 t191 t192 t193 0 0 ([] : List Int)).bind fun t213 => (if t213 = true then ((pelotonref04_Same.f kj3 t198 t199 t200 0 0 ([] : List Int)).bind fun t214 => (pelotonlaw04_MatmulCuts.j1 kj3 t214)) else (pelotonlaw04_MatmulCuts.j1 kj3 false))) else (pelotonlaw04_MatmulCuts.j1 kj3 false)) else (pelotonlaw04_MatmulCuts.j1 kj3 false)) else (pelotonlaw04_MatmulCuts.j1 kj3 false)))) = some r := H
   have A18 := Aside0.mk A180
   clear A180
   replace H := Option.bind_eq_some_iff.mp H
   obtain ⟨t212, A190, H⟩ := H
   replace H : (if t212 = true then (if t210 = 0 then (if t205 = a0_0 then (if t206 = a0_1 then (pelotonlaw04_MatmulCuts.j2 kj3 a1 a2 t196 t203 ((t207.length : Int) != (l0_2.length : Int)) a0_0 a0_1 l0_2 t191 t192 t193 t198 t199 t200 t205 t206 t207) else (pelotonlaw04_MatmulCuts.j2 kj3 a1 a2 t196 t203 true a0_0 a0_1 l0_2 t191 t192 t193 t198 t199 t200 t205 t206 t207)) else (pelotonlaw04_MatmulCuts.j2 kj3 a1 a2 t196 t203 true a0_0 a0_1 l0_2 t191 t192 t193 t198 t199 t200 t205 t206 t207)) else (pelotonlaw04_MatmulCuts.j2 kj3 a1 a2 t196 t203 true a0_0 a0_1 l0_2 t191 t192 t193 t198 t199 t200 t205 t206 t207)) else (if t196 = 30 then (if t203 = 30 then (if t210 = 30 then ((pelotonref04_Same.f kj3 t191 t192 t193 0 0 ([] : List Int)).bind fun t213 => (if t213 = true then ((pelotonref04_Same.f kj3 t198 t199 t200 0 0 ([] : List Int)).bind fun t214 => (pelotonlaw04_MatmulCuts.j1 kj3 t214)) else (pelotonlaw04_MatmulCuts.j1 kj3 false))) else (pelotonlaw04_MatmulCuts.j1 kj3 false)) else (pelotonlaw04_MatmulCuts.j1 kj3 false)) else (pelotonlaw04_MatmulCuts.j1 kj3 false))) = some r := H
   have A19 := Aside0.mk A190
   clear A190
   by_cases c20 : t212 = true
   rotate_left
   ·
    replace c20 := Bool.eq_false_iff.mpr c20
    subst c20
    have H1 : (if t196 = 30 then (if t203 = 30 then (if t210 = 30 then ((pelotonref04_Same.f kj3 t191 t192 t193 0 0 ([] : List Int)).bind fun t213 => (if t213 = true then ((pelotonref04_Same.f kj3 t198 t199 t200 0 0 ([] : List Int)).bind fun t214 => (pelotonlaw04_MatmulCuts.j1 kj3 t214)) else (pelotonlaw04_MatmulCuts.j1 kj3 false))) else (pelotonlaw04_MatmulCuts.j1 kj3 false)) else (pelotonlaw04_MatmulCuts.j1 kj3 false)) else (pelotonlaw04_MatmulCuts.j1 kj3 false)) = some r := by rw [if_neg (show ¬ (false = true) by decide)] at H; exact H
    clear H
    have H := H1
    clear H1
    have HC146 := Aside0.mk H
    clear H
    have hcz147_0 : wc.cell? ⟨gb187, 0, none⟩ = some (.int .i64 a0_0) := (blk_cell BK187.out 0).trans rfl
    have hcz147_1 : wc.cell? ⟨gb187, 1, none⟩ = some (.int .i64 a0_1) := (blk_cell BK187.out 1).trans rfl
    have hcz147_2 : wc.cell? ⟨gb187, 2, none⟩ = some (.slice A0_2 l0_2.length c0_2) := (blk_cell BK187.out 2).trans rfl
    have hfz147_0 := blk_frozen BK187.out 0
    have hfz147_1 := blk_frozen BK187.out 1
    have hfz147_2 := blk_frozen BK187.out 2
    go_upto_region 7 with (first | ((with_reducible refine gate_callee (f := 20) rfl ?_); refine goesL_ (some 27) rfl rfl Try.func20 (by kernel_rfl) rfl #[.agg #[.int .i64 a0_0, .int .i64 a0_1, .slice A0_2 l0_2.length c0_2], .int .i64 a1, .int .i64 a2] rfl (by (try simp only [l_4, l_5, l_6]); first | done | rfl | (simp only [l_7, l_8]; rfl)) ?_; (with_reducible refine (matmul_Rows.calls a0_0 a0_1 _ _ l0_2 a1 a2 t191 t192 t193 t196 _ ?side1 ?side2 A16.out).mono ?_); (case side1 => repeat (first | exact (Kd.C_below HR0_2.out HB.out) | (with_reducible refine Kd.C_alloc ?_ _) | (with_reducible refine Kd.C_drewN ?_ _) | (with_reducible refine Kd.C_drew ?_))); (case side2 => exact HC0_2.out); rintro e w148 ⟨v194, rfl, ho0, hb⟩; (try clear A16); refine ⟨_, rfl, ?_⟩; have n0_ := Aside0.mk (Kd.R_lower ho0 (below_size (by repeat (first | (with_reducible first | exact HB.out | apply b_a | apply b_n | apply b_d | refine b_s ?_ GE187.out) | exact HB.out)))); have n1_ := Aside0.mk (blk_below (g := gb187) (o := .cells #[.int .i64 a0_0, .int .i64 a0_1, .slice A0_2 l0_2.length c0_2] 30 (0, 0)) (by (with_reducible repeat (first | refine k_n ?_ _ | refine k_d ?_ | refine k_a ?_ _)); exact BK187.out) hb); have n2_ := Aside0.mk (below_step (by repeat (first | (with_reducible first | exact HB.out | apply b_a | apply b_n | apply b_d | refine b_s ?_ GE187.out) | exact HB.out)) hb); clear BK187; clear HB; have HO195 := n0_; have BK187 := n1_; have HB := n2_; clear n0_ n1_ n2_; (try clear hb); (try clear hb2); (try clear hk); (try clear hi); (try clear ho0)) | ((with_reducible refine gate_dst (N := 7) rfl ?_); (try (refine gate_guard (by rfl) ?_; dsimp only)); refine box_event ?hg (N := 7) ?hd (cs := #[.int .i64 0, .int .i64 0, .slice none 0 0]) (t := 30) ?hr ?_; (case hd => rfl); (case hg => rfl); (case hr => first | (go_simp; done) | (go_simp; rfl)); intro gb197 hg w149 hbox hb; have n0_ := Aside0.mk (Kd.R_below (by (with_reducible repeat (first | apply Kd.R_alloc | apply Kd.R_drewN | apply Kd.R_drew)); exact HO195.out) hb); have n1_ := Aside0.mk (blk_below (g := gb187) (o := .cells #[.int .i64 a0_0, .int .i64 a0_1, .slice A0_2 l0_2.length c0_2] 30 (0, 0)) (by (with_reducible repeat (first | refine k_n ?_ _ | refine k_d ?_ | refine k_a ?_ _)); exact BK187.out) hb); have n2_ := Aside0.mk (below_step (by repeat (first | (with_reducible first | exact HB.out | apply b_a | apply b_n | apply b_d | refine b_s ?_ GE187.out) | exact HB.out)) hb); have n3_ := Aside0.mk (hbox); have n4_ := Aside0.mk ((by rw [hg]; exact (below_size (by repeat (first | (with_reducible first | exact HB.out | apply b_a | apply b_n | apply b_d | refine b_s ?_ GE187.out) | exact HB.out))) : w.heap.size ≤ gb197)); have n5_ := Aside0.mk ((by rw [hg]; exact (below_size (by repeat (first | (with_reducible first | exact HB.out | apply b_a | apply b_n | apply b_d | refine b_s ?_ GE187.out) | exact HB.out))) : w.heap.size ≤ gb197)); have n6_ := Aside0.mk ((by rw [hg]; exact Nat.ne_of_lt (blk_lt (g := gb187) (o := .cells #[.int .i64 a0_0, .int .i64 a0_1, .slice A0_2 l0_2.length c0_2] 30 (0, 0)) (by (with_reducible repeat (first | refine k_n ?_ _ | refine k_d ?_ | refine k_a ?_ _)); exact BK187.out)) : gb187 ≠ gb197)); have n7_ := Aside0.mk ((by rw [hg]; exact Nat.ne_of_gt (blk_lt (g := gb187) (o := .cells #[.int .i64 a0_0, .int .i64 a0_1, .slice A0_2 l0_2.length c0_2] 30 (0, 0)) (by (with_reducible repeat (first | refine k_n ?_ _ | refine k_d ?_ | refine k_a ?_ _)); exact BK187.out)) : gb197 ≠ gb187)); clear HO195; clear BK187; clear HB; have HO195 := n0_; have BK187 := n1_; have HB := n2_; have BK197 := n3_; have GW197 := n4_; have GE197 := n5_; have NB187_197 := n6_; have NB197_187 := n7_; clear n0_ n1_ n2_ n3_ n4_ n5_ n6_ n7_; clear hb hbox hg; have hnb150 := NB197_187.out; have hnc150 := NB187_197.out; have hcz151_0 : w149.cell? ⟨gb197, 0, none⟩ = some (.int .i64 0) := (blk_cell BK197.out 0).trans rfl; have hcz151_1 : w149.cell? ⟨gb197, 1, none⟩ = some (.int .i64 0) := (blk_cell BK197.out 1).trans rfl; have hcz151_2 : w149.cell? ⟨gb197, 2, none⟩ = some (.slice none 0 0) := (blk_cell BK197.out 2).trans rfl; have hfz151_0 := blk_frozen BK197.out 0; have hfz151_1 := blk_frozen BK197.out 1; have hfz151_2 := blk_frozen BK197.out 2; obtain ⟨Ao152, co152, eo152⟩ := Kd.R_slice HO195.out; subst eo152; have hcz153_0 : w149.cell? ⟨gb187, 0, none⟩ = some (.int .i64 a0_0) := (blk_cell BK187.out 0).trans rfl; have hcz153_1 : w149.cell? ⟨gb187, 1, none⟩ = some (.int .i64 a0_1) := (blk_cell BK187.out 1).trans rfl; have hcz153_2 : w149.cell? ⟨gb187, 2, none⟩ = some (.slice A0_2 l0_2.length c0_2) := (blk_cell BK187.out 2).trans rfl; have hfz153_0 := blk_frozen BK187.out 0; have hfz153_1 := blk_frozen BK187.out 1; have hfz153_2 := blk_frozen BK187.out 2) | ((with_reducible refine gate_callee (f := 21) rfl ?_); refine goesL_ (some 34) rfl rfl Try.func21 (by kernel_rfl) rfl #[.agg #[.int .i64 a0_0, .int .i64 a0_1, .slice A0_2 l0_2.length c0_2], .int .i64 a1, .int .i64 a2] rfl (by (try simp only [l_4, l_5, l_6]); first | done | rfl | (simp only [l_7, l_8]; rfl)) ?_; (with_reducible refine (matmul_Cols.calls kj3 a0_0 a0_1 _ _ l0_2 a1 a2 t198 t199 t200 t203 _ ?side1 ?side2 A17.out).mono ?_); (case side1 => exact Kd.C_below HR0_2.out (by repeat (first | (with_reducible first | exact HB.out | apply b_a | apply b_n | apply b_d | refine b_s ?_ GE187.out | refine b_s ?_ GE197.out) | exact HB.out))); (case side2 => exact HC0_2.out); rintro e w154 ⟨v201, rfl, ho0, hb⟩; (try clear A17); refine ⟨_, rfl, ?_⟩; have n0_ := Aside0.mk (Kd.R_elder' (by (with_reducible repeat (first | apply Kd.R_alloc | apply Kd.R_drewN | apply Kd.R_drew)); exact (Kd.R_mono (Kd.R_far (p := ⟨gb197, 2, none⟩) (Kd.R_far (p := ⟨gb197, 1, none⟩) (Kd.R_far (p := ⟨gb197, 0, none⟩) (Kd.R_types HO195.out BK197.out (by decide)) (fun _ hk => hk.2) (.int .i64 t191)) (fun _ hk => hk.2) (.int .i64 t192)) (fun _ hk => hk.2) (.slice Ao152 t193.length co152)) (fun _ h_ => h_.1))) (Kd.R_base ho0) hb); have n1_ := Aside0.mk (Kd.R_lower (Kd.R_new' ho0 (Kd.R_lt (by (with_reducible repeat (first | apply Kd.R_alloc | apply Kd.R_drewN | apply Kd.R_drew)); exact (Kd.R_mono (Kd.R_far (p := ⟨gb197, 2, none⟩) (Kd.R_far (p := ⟨gb197, 1, none⟩) (Kd.R_far (p := ⟨gb197, 0, none⟩) (Kd.R_types HO195.out BK197.out (by decide)) (fun _ hk => hk.2) (.int .i64 t191)) (fun _ hk => hk.2) (.int .i64 t192)) (fun _ hk => hk.2) (.slice Ao152 t193.length co152)) (fun _ h_ => h_.1))))) (below_size (by repeat (first | (with_reducible first | exact HB.out | apply b_a | apply b_n | apply b_d | refine b_s ?_ GE187.out | refine b_s ?_ GE197.out) | exact HB.out)))); have n2_ := Aside0.mk (blk_below (g := gb187) (o := .cells #[.int .i64 a0_0, .int .i64 a0_1, .slice A0_2 l0_2.length c0_2] 30 (0, 0)) (by (with_reducible repeat (first | refine k_n ?_ _ | refine k_d ?_ | refine k_a ?_ _)); refine blk_far ?_ NB187_197.out _; (with_reducible repeat (first | refine k_n ?_ _ | refine k_d ?_ | refine k_a ?_ _)); refine blk_far ?_ NB187_197.out _; (with_reducible repeat (first | refine k_n ?_ _ | refine k_d ?_ | refine k_a ?_ _)); refine blk_far ?_ NB187_197.out _; (with_reducible repeat (first | refine k_n ?_ _ | refine k_d ?_ | refine k_a ?_ _)); exact BK187.out) hb); have n3_ := Aside0.mk (blk_below (g := gb197) (o := .cells #[.int .i64 t191, .int .i64 t192, .slice Ao152 t193.length co152] 30 (0, 0)) (by (with_reducible repeat (first | refine k_n ?_ _ | refine k_d ?_ | refine k_a ?_ _)); refine blk_put (cs := #[.int .i64 t191, .int .i64 t192, .slice none 0 0]) ?_ 2 _ rfl; (with_reducible repeat (first | refine k_n ?_ _ | refine k_d ?_ | refine k_a ?_ _)); refine blk_put (cs := #[.int .i64 t191, .int .i64 0, .slice none 0 0]) ?_ 1 _ rfl; (with_reducible repeat (first | refine k_n ?_ _ | refine k_d ?_ | refine k_a ?_ _)); refine blk_put (cs := #[.int .i64 0, .int .i64 0, .slice none 0 0]) ?_ 0 _ rfl; (with_reducible repeat (first | refine k_n ?_ _ | refine k_d ?_ | refine k_a ?_ _)); exact BK197.out) hb); have n4_ := Aside0.mk (below_step (by repeat (first | (with_reducible first | exact HB.out | apply b_a | apply b_n | apply b_d | refine b_s ?_ GE187.out | refine b_s ?_ GE197.out) | exact HB.out)) hb); clear HO195; clear BK187; clear BK197; clear HB; have HO195 := n0_; have HO202 := n1_; have BK187 := n2_; have BK197 := n3_; have HB := n4_; clear n0_ n1_ n2_ n3_ n4_; (try clear hb); (try clear hb2); (try clear hk); (try clear hi); (try clear ho0)) | ((with_reducible refine gate_dst (N := 9) rfl ?_); (try (refine gate_guard (by rfl) ?_; dsimp only)); refine box_event ?hg (N := 9) ?hd (cs := #[.int .i64 0, .int .i64 0, .slice none 0 0]) (t := 30) ?hr ?_; (case hd => rfl); (case hg => rfl); (case hr => first | (go_simp; done) | (go_simp; rfl)); intro gb204 hg w155 hbox hb; have n0_ := Aside0.mk (Kd.R_below (by (with_reducible repeat (first | apply Kd.R_alloc | apply Kd.R_drewN | apply Kd.R_drew)); exact HO195.out) hb); have n1_ := Aside0.mk (Kd.R_below (by (with_reducible repeat (first | apply Kd.R_alloc | apply Kd.R_drewN | apply Kd.R_drew)); exact HO202.out) hb); have n2_ := Aside0.mk (blk_below (g := gb187) (o := .cells #[.int .i64 a0_0, .int .i64 a0_1, .slice A0_2 l0_2.length c0_2] 30 (0, 0)) (by (with_reducible repeat (first | refine k_n ?_ _ | refine k_d ?_ | refine k_a ?_ _)); exact BK187.out) hb); have n3_ := Aside0.mk (blk_below (g := gb197) (o := .cells #[.int .i64 t191, .int .i64 t192, .slice Ao152 t193.length co152] 30 (0, 0)) (by (with_reducible repeat (first | refine k_n ?_ _ | refine k_d ?_ | refine k_a ?_ _)); exact BK197.out) hb); have n4_ := Aside0.mk (below_step (by repeat (first | (with_reducible first | exact HB.out | apply b_a | apply b_n | apply b_d | refine b_s ?_ GE187.out | refine b_s ?_ GE197.out) | exact HB.out)) hb); have n5_ := Aside0.mk (hbox); have n6_ := Aside0.mk ((by rw [hg]; exact (below_size (by repeat (first | (with_reducible first | exact HB.out | apply b_a | apply b_n | apply b_d | refine b_s ?_ GE187.out | refine b_s ?_ GE197.out) | exact HB.out))) : w.heap.size ≤ gb204)); have n7_ := Aside0.mk ((by rw [hg]; exact (below_size (by repeat (first | (with_reducible first | exact HB.out | apply b_a | apply b_n | apply b_d | refine b_s ?_ GE187.out | refine b_s ?_ GE197.out) | exact HB.out))) : w.heap.size ≤ gb204)); have n8_ := Aside0.mk ((by rw [hg]; exact Nat.ne_of_lt (blk_lt (g := gb187) (o := .cells #[.int .i64 a0_0, .int .i64 a0_1, .slice A0_2 l0_2.length c0_2] 30 (0, 0)) (by (with_reducible repeat (first | refine k_n ?_ _ | refine k_d ?_ | refine k_a ?_ _)); exact BK187.out)) : gb187 ≠ gb204)); have n9_ := Aside0.mk ((by rw [hg]; exact Nat.ne_of_gt (blk_lt (g := gb187) (o := .cells #[.int .i64 a0_0, .int .i64 a0_1, .slice A0_2 l0_2.length c0_2] 30 (0, 0)) (by (with_reducible repeat (first | refine k_n ?_ _ | refine k_d ?_ | refine k_a ?_ _)); exact BK187.out)) : gb204 ≠ gb187)); have n10_ := Aside0.mk ((by rw [hg]; exact Nat.ne_of_lt (blk_lt (g := gb197) (o := .cells #[.int .i64 t191, .int .i64 t192, .slice Ao152 t193.length co152] 30 (0, 0)) (by (with_reducible repeat (first | refine k_n ?_ _ | refine k_d ?_ | refine k_a ?_ _)); exact BK197.out)) : gb197 ≠ gb204)); have n11_ := Aside0.mk ((by rw [hg]; exact Nat.ne_of_gt (blk_lt (g := gb197) (o := .cells #[.int .i64 t191, .int .i64 t192, .slice Ao152 t193.length co152] 30 (0, 0)) (by (with_reducible repeat (first | refine k_n ?_ _ | refine k_d ?_ | refine k_a ?_ _)); exact BK197.out)) : gb204 ≠ gb197)); clear HO195; clear HO202; clear BK187; clear BK197; clear HB; have HO195 := n0_; have HO202 := n1_; have BK187 := n2_; have BK197 := n3_; have HB := n4_; have BK204 := n5_; have GW204 := n6_; have GE204 := n7_; have NB187_204 := n8_; have NB204_187 := n9_; have NB197_204 := n10_; have NB204_197 := n11_; clear n0_ n1_ n2_ n3_ n4_ n5_ n6_ n7_ n8_ n9_ n10_ n11_; clear hb hbox hg; have hnb156 := NB204_187.out; have hnc156 := NB187_204.out; have hnb157 := NB204_197.out; have hnc157 := NB197_204.out; have hcz158_0 : w155.cell? ⟨gb204, 0, none⟩ = some (.int .i64 0) := (blk_cell BK204.out 0).trans rfl; have hcz158_1 : w155.cell? ⟨gb204, 1, none⟩ = some (.int .i64 0) := (blk_cell BK204.out 1).trans rfl; have hcz158_2 : w155.cell? ⟨gb204, 2, none⟩ = some (.slice none 0 0) := (blk_cell BK204.out 2).trans rfl; have hfz158_0 := blk_frozen BK204.out 0; have hfz158_1 := blk_frozen BK204.out 1; have hfz158_2 := blk_frozen BK204.out 2; obtain ⟨Ao159, co159, eo159⟩ := Kd.R_slice HO202.out; subst eo159; have hcz160_0 : w155.cell? ⟨gb187, 0, none⟩ = some (.int .i64 a0_0) := (blk_cell BK187.out 0).trans rfl; have hcz160_1 : w155.cell? ⟨gb187, 1, none⟩ = some (.int .i64 a0_1) := (blk_cell BK187.out 1).trans rfl; have hcz160_2 : w155.cell? ⟨gb187, 2, none⟩ = some (.slice A0_2 l0_2.length c0_2) := (blk_cell BK187.out 2).trans rfl; have hfz160_0 := blk_frozen BK187.out 0; have hfz160_1 := blk_frozen BK187.out 1; have hfz160_2 := blk_frozen BK187.out 2) | ((with_reducible refine gate_callee (f := 26) rfl ?_); refine goesL_ (some 39) rfl rfl Try.func26 (by kernel_rfl) rfl #[.agg #[.int .i64 a0_0, .int .i64 a0_1, .slice A0_2 l0_2.length c0_2]] rfl (by (try simp only [l_4, l_5, l_6]); first | done | rfl | (simp only [l_7, l_8]; rfl)) ?_; (with_reducible refine (matmul_Wide.calls kj3 a0_0 a0_1 _ _ l0_2 t205 t206 t207 t210 _ ?side1 ?side2 A18.out).mono ?_); (case side1 => exact Kd.C_below HR0_2.out (by repeat (first | (with_reducible first | exact HB.out | apply b_a | apply b_n | apply b_d | refine b_s ?_ GE187.out | refine b_s ?_ GE197.out | refine b_s ?_ GE204.out) | exact HB.out))); (case side2 => exact HC0_2.out); rintro e w161 ⟨v208, rfl, ho0, hb⟩; (try clear A18); refine ⟨_, rfl, ?_⟩; have n0_ := Aside0.mk (Kd.R_below (by (with_reducible repeat (first | apply Kd.R_alloc | apply Kd.R_drewN | apply Kd.R_drew)); exact (Kd.R_mono (Kd.R_far (p := ⟨gb204, 2, none⟩) (Kd.R_far (p := ⟨gb204, 1, none⟩) (Kd.R_far (p := ⟨gb204, 0, none⟩) (Kd.R_types HO195.out BK204.out (by decide)) (fun _ hk => hk.2) (.int .i64 t198)) (fun _ hk => hk.2) (.int .i64 t199)) (fun _ hk => hk.2) (.slice Ao159 t200.length co159)) (fun _ h_ => h_.1))) hb); have n1_ := Aside0.mk (Kd.R_below (by (with_reducible repeat (first | apply Kd.R_alloc | apply Kd.R_drewN | apply Kd.R_drew)); exact (Kd.R_mono (Kd.R_far (p := ⟨gb204, 2, none⟩) (Kd.R_far (p := ⟨gb204, 1, none⟩) (Kd.R_far (p := ⟨gb204, 0, none⟩) (Kd.R_types HO202.out BK204.out (by decide)) (fun _ hk => hk.2) (.int .i64 t198)) (fun _ hk => hk.2) (.int .i64 t199)) (fun _ hk => hk.2) (.slice Ao159 t200.length co159)) (fun _ h_ => h_.1))) hb); have n2_ := Aside0.mk (Kd.R_lower ho0 (below_size (by repeat (first | (with_reducible first | exact HB.out | apply b_a | apply b_n | apply b_d | refine b_s ?_ GE187.out | refine b_s ?_ GE197.out | refine b_s ?_ GE204.out) | exact HB.out)))); have n3_ := Aside0.mk (blk_below (g := gb187) (o := .cells #[.int .i64 a0_0, .int .i64 a0_1, .slice A0_2 l0_2.length c0_2] 30 (0, 0)) (by (with_reducible repeat (first | refine k_n ?_ _ | refine k_d ?_ | refine k_a ?_ _)); refine blk_far ?_ NB187_204.out _; (with_reducible repeat (first | refine k_n ?_ _ | refine k_d ?_ | refine k_a ?_ _)); refine blk_far ?_ NB187_204.out _; (with_reducible repeat (first | refine k_n ?_ _ | refine k_d ?_ | refine k_a ?_ _)); refine blk_far ?_ NB187_204.out _; (with_reducible repeat (first | refine k_n ?_ _ | refine k_d ?_ | refine k_a ?_ _)); exact BK187.out) hb); have n4_ := Aside0.mk (blk_below (g := gb197) (o := .cells #[.int .i64 t191, .int .i64 t192, .slice Ao152 t193.length co152] 30 (0, 0)) (by (with_reducible repeat (first | refine k_n ?_ _ | refine k_d ?_ | refine k_a ?_ _)); refine blk_far ?_ NB197_204.out _; (with_reducible repeat (first | refine k_n ?_ _ | refine k_d ?_ | refine k_a ?_ _)); refine blk_far ?_ NB197_204.out _; (with_reducible repeat (first | refine k_n ?_ _ | refine k_d ?_ | refine k_a ?_ _)); refine blk_far ?_ NB197_204.out _; (with_reducible repeat (first | refine k_n ?_ _ | refine k_d ?_ | refine k_a ?_ _)); exact BK197.out) hb); have n5_ := Aside0.mk (blk_below (g := gb204) (o := .cells #[.int .i64 t198, .int .i64 t199, .slice Ao159 t200.length co159] 30 (0, 0)) (by (with_reducible repeat (first | refine k_n ?_ _ | refine k_d ?_ | refine k_a ?_ _)); refine blk_put (cs := #[.int .i64 t198, .int .i64 t199, .slice none 0 0]) ?_ 2 _ rfl; (with_reducible repeat (first | refine k_n ?_ _ | refine k_d ?_ | refine k_a ?_ _)); refine blk_put (cs := #[.int .i64 t198, .int .i64 0, .slice none 0 0]) ?_ 1 _ rfl; (with_reducible repeat (first | refine k_n ?_ _ | refine k_d ?_ | refine k_a ?_ _)); refine blk_put (cs := #[.int .i64 0, .int .i64 0, .slice none 0 0]) ?_ 0 _ rfl; (with_reducible repeat (first | refine k_n ?_ _ | refine k_d ?_ | refine k_a ?_ _)); exact BK204.out) hb); have n6_ := Aside0.mk (below_step (by repeat (first | (with_reducible first | exact HB.out | apply b_a | apply b_n | apply b_d | refine b_s ?_ GE187.out | refine b_s ?_ GE197.out | refine b_s ?_ GE204.out) | exact HB.out)) hb); clear HO195; clear HO202; clear BK187; clear BK197; clear BK204; clear HB; have HO195 := n0_; have HO202 := n1_; have HO209 := n2_; have BK187 := n3_; have BK197 := n4_; have BK204 := n5_; have HB := n6_; clear n0_ n1_ n2_ n3_ n4_ n5_ n6_; (try clear hb); (try clear hb2); (try clear hk); (try clear hi); (try clear ho0)) | ((with_reducible refine gate_dst (N := 11) rfl ?_); (try (refine gate_guard (by rfl) ?_; dsimp only)); refine box_event ?hg (N := 11) ?hd (cs := #[.int .i64 0, .int .i64 0, .slice none 0 0]) (t := 51) ?hr ?_; (case hd => rfl); (case hg => rfl); (case hr => first | (go_simp; done) | (go_simp; rfl)); intro gb211 hg w162 hbox hb; have n0_ := Aside0.mk (Kd.R_below (by (with_reducible repeat (first | apply Kd.R_alloc | apply Kd.R_drewN | apply Kd.R_drew)); exact HO195.out) hb); have n1_ := Aside0.mk (Kd.R_below (by (with_reducible repeat (first | apply Kd.R_alloc | apply Kd.R_drewN | apply Kd.R_drew)); exact HO202.out) hb); have n2_ := Aside0.mk (Kd.R_below (by (with_reducible repeat (first | apply Kd.R_alloc | apply Kd.R_drewN | apply Kd.R_drew)); exact HO209.out) hb); have n3_ := Aside0.mk (blk_below (g := gb187) (o := .cells #[.int .i64 a0_0, .int .i64 a0_1, .slice A0_2 l0_2.length c0_2] 30 (0, 0)) (by (with_reducible repeat (first | refine k_n ?_ _ | refine k_d ?_ | refine k_a ?_ _)); exact BK187.out) hb); have n4_ := Aside0.mk (blk_below (g := gb197) (o := .cells #[.int .i64 t191, .int .i64 t192, .slice Ao152 t193.length co152] 30 (0, 0)) (by (with_reducible repeat (first | refine k_n ?_ _ | refine k_d ?_ | refine k_a ?_ _)); exact BK197.out) hb); have n5_ := Aside0.mk (blk_below (g := gb204) (o := .cells #[.int .i64 t198, .int .i64 t199, .slice Ao159 t200.length co159] 30 (0, 0)) (by (with_reducible repeat (first | refine k_n ?_ _ | refine k_d ?_ | refine k_a ?_ _)); exact BK204.out) hb); have n6_ := Aside0.mk (below_step (by repeat (first | (with_reducible first | exact HB.out | apply b_a | apply b_n | apply b_d | refine b_s ?_ GE187.out | refine b_s ?_ GE197.out | refine b_s ?_ GE204.out) | exact HB.out)) hb); have n7_ := Aside0.mk (hbox); have n8_ := Aside0.mk ((by rw [hg]; exact (below_size (by repeat (first | (with_reducible first | exact HB.out | apply b_a | apply b_n | apply b_d | refine b_s ?_ GE187.out | refine b_s ?_ GE197.out | refine b_s ?_ GE204.out) | exact HB.out))) : w.heap.size ≤ gb211)); have n9_ := Aside0.mk ((by rw [hg]; exact (below_size (by repeat (first | (with_reducible first | exact HB.out | apply b_a | apply b_n | apply b_d | refine b_s ?_ GE187.out | refine b_s ?_ GE197.out | refine b_s ?_ GE204.out) | exact HB.out))) : w.heap.size ≤ gb211)); have n10_ := Aside0.mk ((by rw [hg]; exact Nat.ne_of_lt (blk_lt (g := gb187) (o := .cells #[.int .i64 a0_0, .int .i64 a0_1, .slice A0_2 l0_2.length c0_2] 30 (0, 0)) (by (with_reducible repeat (first | refine k_n ?_ _ | refine k_d ?_ | refine k_a ?_ _)); exact BK187.out)) : gb187 ≠ gb211)); have n11_ := Aside0.mk ((by rw [hg]; exact Nat.ne_of_gt (blk_lt (g := gb187) (o := .cells #[.int .i64 a0_0, .int .i64 a0_1, .slice A0_2 l0_2.length c0_2] 30 (0, 0)) (by (with_reducible repeat (first | refine k_n ?_ _ | refine k_d ?_ | refine k_a ?_ _)); exact BK187.out)) : gb211 ≠ gb187)); have n12_ := Aside0.mk ((by rw [hg]; exact Nat.ne_of_lt (blk_lt (g := gb197) (o := .cells #[.int .i64 t191, .int .i64 t192, .slice Ao152 t193.length co152] 30 (0, 0)) (by (with_reducible repeat (first | refine k_n ?_ _ | refine k_d ?_ | refine k_a ?_ _)); exact BK197.out)) : gb197 ≠ gb211)); have n13_ := Aside0.mk ((by rw [hg]; exact Nat.ne_of_gt (blk_lt (g := gb197) (o := .cells #[.int .i64 t191, .int .i64 t192, .slice Ao152 t193.length co152] 30 (0, 0)) (by (with_reducible repeat (first | refine k_n ?_ _ | refine k_d ?_ | refine k_a ?_ _)); exact BK197.out)) : gb211 ≠ gb197)); have n14_ := Aside0.mk ((by rw [hg]; exact Nat.ne_of_lt (blk_lt (g := gb204) (o := .cells #[.int .i64 t198, .int .i64 t199, .slice Ao159 t200.length co159] 30 (0, 0)) (by (with_reducible repeat (first | refine k_n ?_ _ | refine k_d ?_ | refine k_a ?_ _)); exact BK204.out)) : gb204 ≠ gb211)); have n15_ := Aside0.mk ((by rw [hg]; exact Nat.ne_of_gt (blk_lt (g := gb204) (o := .cells #[.int .i64 t198, .int .i64 t199, .slice Ao159 t200.length co159] 30 (0, 0)) (by (with_reducible repeat (first | refine k_n ?_ _ | refine k_d ?_ | refine k_a ?_ _)); exact BK204.out)) : gb211 ≠ gb204)); clear HO195; clear HO202; clear HO209; clear BK187; clear BK197; clear BK204; clear HB; have HO195 := n0_; have HO202 := n1_; have HO209 := n2_; have BK187 := n3_; have BK197 := n4_; have BK204 := n5_; have HB := n6_; have BK211 := n7_; have GW211 := n8_; have GE211 := n9_; have NB187_211 := n10_; have NB211_187 := n11_; have NB197_211 := n12_; have NB211_197 := n13_; have NB204_211 := n14_; have NB211_204 := n15_; clear n0_ n1_ n2_ n3_ n4_ n5_ n6_ n7_ n8_ n9_ n10_ n11_ n12_ n13_ n14_ n15_; clear hb hbox hg; have hnb163 := NB211_187.out; have hnc163 := NB187_211.out; have hnb164 := NB211_197.out; have hnc164 := NB197_211.out; have hnb165 := NB211_204.out; have hnc165 := NB204_211.out; have hcz166_0 : w162.cell? ⟨gb211, 0, none⟩ = some (.int .i64 0) := (blk_cell BK211.out 0).trans rfl; have hcz166_1 : w162.cell? ⟨gb211, 1, none⟩ = some (.int .i64 0) := (blk_cell BK211.out 1).trans rfl; have hcz166_2 : w162.cell? ⟨gb211, 2, none⟩ = some (.slice none 0 0) := (blk_cell BK211.out 2).trans rfl; have hfz166_0 := blk_frozen BK211.out 0; have hfz166_1 := blk_frozen BK211.out 1; have hfz166_2 := blk_frozen BK211.out 2; obtain ⟨Ao167, co167, eo167⟩ := Kd.R_slice HO209.out; subst eo167; have hcz168_0 : w162.cell? ⟨gb187, 0, none⟩ = some (.int .i64 a0_0) := (blk_cell BK187.out 0).trans rfl; have hcz168_1 : w162.cell? ⟨gb187, 1, none⟩ = some (.int .i64 a0_1) := (blk_cell BK187.out 1).trans rfl; have hcz168_2 : w162.cell? ⟨gb187, 2, none⟩ = some (.slice A0_2 l0_2.length c0_2) := (blk_cell BK187.out 2).trans rfl; have hfz168_0 := blk_frozen BK187.out 0; have hfz168_1 := blk_frozen BK187.out 1; have hfz168_2 := blk_frozen BK187.out 2) | ((with_reducible refine gate_callee (f := 13) rfl ?_); refine goesL_ (some 43) rfl rfl Try.func13 (by kernel_rfl) rfl #[.agg #[.int .i64 a0_0, .int .i64 a0_1, .slice A0_2 l0_2.length c0_2]] rfl (by (try simp only [l_4, l_5, l_6]); first | done | rfl | (simp only [l_7, l_8]; rfl)) ?_; (with_reducible refine (pelotonref04_Right.calls a0_0 a0_1 _ _ l0_2 false _ ?side1 ?side2 A19.out).mono ?_); (case side1 => exact Kd.C_below HR0_2.out (by repeat (first | (with_reducible first | exact HB.out | apply b_a | apply b_n | apply b_d | refine b_s ?_ GE187.out | refine b_s ?_ GE197.out | refine b_s ?_ GE204.out | refine b_s ?_ GE211.out) | exact HB.out))); (case side2 => exact HC0_2.out); rintro e w169 ⟨rfl, hb⟩; (try clear A19); refine ⟨_, rfl, ?_⟩; have n0_ := Aside0.mk (Kd.R_below (by (with_reducible repeat (first | apply Kd.R_alloc | apply Kd.R_drewN | apply Kd.R_drew)); exact (Kd.R_mono (Kd.R_far (p := ⟨gb211, 2, none⟩) (Kd.R_far (p := ⟨gb211, 1, none⟩) (Kd.R_far (p := ⟨gb211, 0, none⟩) (Kd.R_types HO195.out BK211.out (by decide)) (fun _ hk => hk.2) (.int .i64 t205)) (fun _ hk => hk.2) (.int .i64 t206)) (fun _ hk => hk.2) (.slice Ao167 t207.length co167)) (fun _ h_ => h_.1))) hb); have n1_ := Aside0.mk (Kd.R_below (by (with_reducible repeat (first | apply Kd.R_alloc | apply Kd.R_drewN | apply Kd.R_drew)); exact (Kd.R_mono (Kd.R_far (p := ⟨gb211, 2, none⟩) (Kd.R_far (p := ⟨gb211, 1, none⟩) (Kd.R_far (p := ⟨gb211, 0, none⟩) (Kd.R_types HO202.out BK211.out (by decide)) (fun _ hk => hk.2) (.int .i64 t205)) (fun _ hk => hk.2) (.int .i64 t206)) (fun _ hk => hk.2) (.slice Ao167 t207.length co167)) (fun _ h_ => h_.1))) hb); have n2_ := Aside0.mk (Kd.R_below (by (with_reducible repeat (first | apply Kd.R_alloc | apply Kd.R_drewN | apply Kd.R_drew)); exact (Kd.R_mono (Kd.R_far (p := ⟨gb211, 2, none⟩) (Kd.R_far (p := ⟨gb211, 1, none⟩) (Kd.R_far (p := ⟨gb211, 0, none⟩) (Kd.R_types HO209.out BK211.out (by decide)) (fun _ hk => hk.2) (.int .i64 t205)) (fun _ hk => hk.2) (.int .i64 t206)) (fun _ hk => hk.2) (.slice Ao167 t207.length co167)) (fun _ h_ => h_.1))) hb); have n3_ := Aside0.mk (blk_below (g := gb187) (o := .cells #[.int .i64 a0_0, .int .i64 a0_1, .slice A0_2 l0_2.length c0_2] 30 (0, 0)) (by (with_reducible repeat (first | refine k_n ?_ _ | refine k_d ?_ | refine k_a ?_ _)); refine blk_far ?_ NB187_211.out _; (with_reducible repeat (first | refine k_n ?_ _ | refine k_d ?_ | refine k_a ?_ _)); refine blk_far ?_ NB187_211.out _; (with_reducible repeat (first | refine k_n ?_ _ | refine k_d ?_ | refine k_a ?_ _)); refine blk_far ?_ NB187_211.out _; (with_reducible repeat (first | refine k_n ?_ _ | refine k_d ?_ | refine k_a ?_ _)); exact BK187.out) hb); have n4_ := Aside0.mk (blk_below (g := gb197) (o := .cells #[.int .i64 t191, .int .i64 t192, .slice Ao152 t193.length co152] 30 (0, 0)) (by (with_reducible repeat (first | refine k_n ?_ _ | refine k_d ?_ | refine k_a ?_ _)); refine blk_far ?_ NB197_211.out _; (with_reducible repeat (first | refine k_n ?_ _ | refine k_d ?_ | refine k_a ?_ _)); refine blk_far ?_ NB197_211.out _; (with_reducible repeat (first | refine k_n ?_ _ | refine k_d ?_ | refine k_a ?_ _)); refine blk_far ?_ NB197_211.out _; (with_reducible repeat (first | refine k_n ?_ _ | refine k_d ?_ | refine k_a ?_ _)); exact BK197.out) hb); have n5_ := Aside0.mk (blk_below (g := gb204) (o := .cells #[.int .i64 t198, .int .i64 t199, .slice Ao159 t200.length co159] 30 (0, 0)) (by (with_reducible repeat (first | refine k_n ?_ _ | refine k_d ?_ | refine k_a ?_ _)); refine blk_far ?_ NB204_211.out _; (with_reducible repeat (first | refine k_n ?_ _ | refine k_d ?_ | refine k_a ?_ _)); refine blk_far ?_ NB204_211.out _; (with_reducible repeat (first | refine k_n ?_ _ | refine k_d ?_ | refine k_a ?_ _)); refine blk_far ?_ NB204_211.out _; (with_reducible repeat (first | refine k_n ?_ _ | refine k_d ?_ | refine k_a ?_ _)); exact BK204.out) hb); have n6_ := Aside0.mk (blk_below (g := gb211) (o := .cells #[.int .i64 t205, .int .i64 t206, .slice Ao167 t207.length co167] 51 (0, 0)) (by (with_reducible repeat (first | refine k_n ?_ _ | refine k_d ?_ | refine k_a ?_ _)); refine blk_put (cs := #[.int .i64 t205, .int .i64 t206, .slice none 0 0]) ?_ 2 _ rfl; (with_reducible repeat (first | refine k_n ?_ _ | refine k_d ?_ | refine k_a ?_ _)); refine blk_put (cs := #[.int .i64 t205, .int .i64 0, .slice none 0 0]) ?_ 1 _ rfl; (with_reducible repeat (first | refine k_n ?_ _ | refine k_d ?_ | refine k_a ?_ _)); refine blk_put (cs := #[.int .i64 0, .int .i64 0, .slice none 0 0]) ?_ 0 _ rfl; (with_reducible repeat (first | refine k_n ?_ _ | refine k_d ?_ | refine k_a ?_ _)); exact BK211.out) hb); have n7_ := Aside0.mk (below_step (by repeat (first | (with_reducible first | exact HB.out | apply b_a | apply b_n | apply b_d | refine b_s ?_ GE187.out | refine b_s ?_ GE197.out | refine b_s ?_ GE204.out | refine b_s ?_ GE211.out) | exact HB.out)) hb); clear HO195; clear HO202; clear HO209; clear BK187; clear BK197; clear BK204; clear BK211; clear HB; have HO195 := n0_; have HO202 := n1_; have HO209 := n2_; have BK187 := n3_; have BK197 := n4_; have BK204 := n5_; have BK211 := n6_; have HB := n7_; clear n0_ n1_ n2_ n3_ n4_ n5_ n6_ n7_; (try clear hb); (try clear hb2); (try clear hk); (try clear hi)))
    (try simp only [Act.put, l_1, l_2, l_3])
    go_cut [6] (fun v6 wc => ∃ (kq : Nat) (x6_145 : Bool), v6 = .bool x6_145 ∧ Aside0 (pelotonlaw04_MatmulCuts.j1 kq x6_145 = some r) ∧ Aside0 (kq ≤ kj3) ∧ Aside0 (Kd.R (Kd.int .i8) 35 wc w.heap.size (fun k_ => some k_ ≠ ((.slice Ao159 t200.length co159) : Value).ownBlock) (.slice Ao152 t193.length co152) t193) ∧ Aside0 (Kd.R (Kd.int .i8) 35 wc w.heap.size (fun k_ => some k_ ≠ ((.slice Ao152 t193.length co152) : Value).ownBlock) (.slice Ao159 t200.length co159) t200) ∧ Aside0 (Kd.R (Kd.int .i32) 21 wc w.heap.size (fun _ => True) (.slice Ao167 t207.length co167) t207) ∧ Aside0 (wc.heap[gb187]? = some (.cells #[.int .i64 a0_0, .int .i64 a0_1, (.slice A0_2 l0_2.length c0_2)] 30 (0, 0))) ∧ Aside0 (wc.heap[gb197]? = some (.cells #[.int .i64 t191, .int .i64 t192, (.slice Ao152 t193.length co152)] 30 (0, 0))) ∧ Aside0 (wc.heap[gb204]? = some (.cells #[.int .i64 t198, .int .i64 t199, (.slice Ao159 t200.length co159)] 30 (0, 0))) ∧ Aside0 (wc.heap[gb211]? = some (.cells #[.int .i64 t205, .int .i64 t206, (.slice Ao167 t207.length co167)] 51 (0, 0))) ∧ Aside0 (Below w.heap.size w wc))
    case first =>
     have H := HC146.out
     clear HC146
     by_cases c170 : t196 = 30
     rotate_left
     ·
      rw [if_neg c170] at H
      have c170b0 : (t196 == 30) = false := beq_eq_false_iff_ne.mpr c170
      have c170b1 : (t196 != 30) = true := bne_iff_ne.mpr c170
      (first | rw [c170b0] | (simp only [i64_w, i32_w]; rw [c170b0]) | skip)
      have H' := Aside0.mk H
      clear H
      go_wp2
      go_meet
      case rel => exact ⟨_, (false), (by first | rfl | (simp; done) | (simp [*]; done)), H', ⟨by have := HJ3.out; first | omega | exact Nat.le_refl _⟩, ⟨by (with_reducible repeat (first | apply Kd.R_alloc | apply Kd.R_drewN | apply Kd.R_drew)); exact Kd.R_mono HO195.out (fun _ hk => hk.2)⟩, ⟨by (with_reducible repeat (first | apply Kd.R_alloc | apply Kd.R_drewN | apply Kd.R_drew)); exact Kd.R_mono HO202.out (fun _ hk => hk.2)⟩, ⟨by (with_reducible repeat (first | apply Kd.R_alloc | apply Kd.R_drewN | apply Kd.R_drew)); exact HO209.out⟩, ⟨by (with_reducible repeat (first | refine k_n ?_ _ | refine k_d ?_ | refine k_a ?_ _)); exact BK187.out⟩, ⟨by (with_reducible repeat (first | refine k_n ?_ _ | refine k_d ?_ | refine k_a ?_ _)); exact BK197.out⟩, ⟨by (with_reducible repeat (first | refine k_n ?_ _ | refine k_d ?_ | refine k_a ?_ _)); exact BK204.out⟩, ⟨by (with_reducible repeat (first | refine k_n ?_ _ | refine k_d ?_ | refine k_a ?_ _)); exact BK211.out⟩, ⟨by repeat (first | (with_reducible first | exact HB.out | apply b_a | apply b_n | apply b_d | refine b_s ?_ GE187.out | refine b_s ?_ GE197.out | refine b_s ?_ GE204.out | refine b_s ?_ GE211.out) | exact HB.out)⟩⟩
     rw [if_pos c170] at H
     have c170b0 : (t196 == 30) = true := beq_iff_eq.mpr c170
     have c170b1 : (t196 != 30) = false := bne_eq_false_iff_eq.mpr c170
     clear c170
     (first | rw [c170b0] | (simp only [i64_w, i32_w]; rw [c170b0]) | skip)
     by_cases c171 : t203 = 30
     rotate_left
     ·
      rw [if_neg c171] at H
      have c171b0 : (t203 == 30) = false := beq_eq_false_iff_ne.mpr c171
      have c171b1 : (t203 != 30) = true := bne_iff_ne.mpr c171
      have H' := Aside0.mk H
      clear H
      go_wp2
      go_meet
      case rel => exact ⟨_, (false), (by first | rfl | (simp; done) | (simp [*]; done)), H', ⟨by have := HJ3.out; first | omega | exact Nat.le_refl _⟩, ⟨by (with_reducible repeat (first | apply Kd.R_alloc | apply Kd.R_drewN | apply Kd.R_drew)); exact Kd.R_mono HO195.out (fun _ hk => hk.2)⟩, ⟨by (with_reducible repeat (first | apply Kd.R_alloc | apply Kd.R_drewN | apply Kd.R_drew)); exact Kd.R_mono HO202.out (fun _ hk => hk.2)⟩, ⟨by (with_reducible repeat (first | apply Kd.R_alloc | apply Kd.R_drewN | apply Kd.R_drew)); exact HO209.out⟩, ⟨by (with_reducible repeat (first | refine k_n ?_ _ | refine k_d ?_ | refine k_a ?_ _)); exact BK187.out⟩, ⟨by (with_reducible repeat (first | refine k_n ?_ _ | refine k_d ?_ | refine k_a ?_ _)); exact BK197.out⟩, ⟨by (with_reducible repeat (first | refine k_n ?_ _ | refine k_d ?_ | refine k_a ?_ _)); exact BK204.out⟩, ⟨by (with_reducible repeat (first | refine k_n ?_ _ | refine k_d ?_ | refine k_a ?_ _)); exact BK211.out⟩, ⟨by repeat (first | (with_reducible first | exact HB.out | apply b_a | apply b_n | apply b_d | refine b_s ?_ GE187.out | refine b_s ?_ GE197.out | refine b_s ?_ GE204.out | refine b_s ?_ GE211.out) | exact HB.out)⟩⟩
     rw [if_pos c171] at H
     have c171b0 : (t203 == 30) = true := beq_iff_eq.mpr c171
     have c171b1 : (t203 != 30) = false := bne_eq_false_iff_eq.mpr c171
     clear c171
     by_cases c172 : t210 = 30
     rotate_left
     ·
      rw [if_neg c172] at H
      have c172b0 : (t210 == 30) = false := beq_eq_false_iff_ne.mpr c172
      have c172b1 : (t210 != 30) = true := bne_iff_ne.mpr c172
      have H' := Aside0.mk H
      clear H
      go_wp2
      go_meet
      case rel => exact ⟨_, (false), (by first | rfl | (simp; done) | (simp [*]; done)), H', ⟨by have := HJ3.out; first | omega | exact Nat.le_refl _⟩, ⟨by (with_reducible repeat (first | apply Kd.R_alloc | apply Kd.R_drewN | apply Kd.R_drew)); exact Kd.R_mono HO195.out (fun _ hk => hk.2)⟩, ⟨by (with_reducible repeat (first | apply Kd.R_alloc | apply Kd.R_drewN | apply Kd.R_drew)); exact Kd.R_mono HO202.out (fun _ hk => hk.2)⟩, ⟨by (with_reducible repeat (first | apply Kd.R_alloc | apply Kd.R_drewN | apply Kd.R_drew)); exact HO209.out⟩, ⟨by (with_reducible repeat (first | refine k_n ?_ _ | refine k_d ?_ | refine k_a ?_ _)); exact BK187.out⟩, ⟨by (with_reducible repeat (first | refine k_n ?_ _ | refine k_d ?_ | refine k_a ?_ _)); exact BK197.out⟩, ⟨by (with_reducible repeat (first | refine k_n ?_ _ | refine k_d ?_ | refine k_a ?_ _)); exact BK204.out⟩, ⟨by (with_reducible repeat (first | refine k_n ?_ _ | refine k_d ?_ | refine k_a ?_ _)); exact BK211.out⟩, ⟨by repeat (first | (with_reducible first | exact HB.out | apply b_a | apply b_n | apply b_d | refine b_s ?_ GE187.out | refine b_s ?_ GE197.out | refine b_s ?_ GE204.out | refine b_s ?_ GE211.out) | exact HB.out)⟩⟩
     rw [if_pos c172] at H
     have c172b0 : (t210 == 30) = true := beq_iff_eq.mpr c172
     have c172b1 : (t210 != 30) = false := bne_eq_false_iff_eq.mpr c172
     clear c172
     replace H := Option.bind_eq_some_iff.mp H
     obtain ⟨t213, A1730, H⟩ := H
     replace H : (if t213 = true then ((pelotonref04_Same.f kj3 t198 t199 t200 0 0 ([] : List Int)).bind fun t214 => (pelotonlaw04_MatmulCuts.j1 kj3 t214)) else (pelotonlaw04_MatmulCuts.j1 kj3 false)) = some r := H
     have A173 := Aside0.mk A1730
     clear A1730
     by_cases c174 : t213 = true
     rotate_left
     ·
      replace c174 := Bool.eq_false_iff.mpr c174
      subst c174
      have H1 : (pelotonlaw04_MatmulCuts.j1 kj3 false) = some r := by rw [if_neg (show ¬ (false = true) by decide)] at H; exact H
      clear H
      have H := H1
      clear H1
      have H' := Aside0.mk H
      clear H
      have hnb185 := NB197_187.out
      have hnc185 := NB187_197.out
      have hnb186 := NB197_204.out
      have hnc186 := NB204_197.out
      have hnb187 := NB197_211.out
      have hnc187 := NB211_197.out
      have hcz188_0 : w169.cell? ⟨gb197, 0, none⟩ = some (.int .i64 t191) := (blk_cell BK197.out 0).trans rfl
      have hcz188_1 : w169.cell? ⟨gb197, 1, none⟩ = some (.int .i64 t192) := (blk_cell BK197.out 1).trans rfl
      have hcz188_2 : w169.cell? ⟨gb197, 2, none⟩ = some (.slice Ao152 t193.length co152) := (blk_cell BK197.out 2).trans rfl
      have hfz188_0 := blk_frozen BK197.out 0
      have hfz188_1 := blk_frozen BK197.out 1
      have hfz188_2 := blk_frozen BK197.out 2
      go_wp2_with (first | (go_at_call 18; (refine (pelotonref04_Same.calls kj3 t191 t192 _ _ t193 0 0 _ _ ([] : List Int) false _ ?side1 ?side2 ?side3 ?side4 A173.out).mono ?_); (case side1 => repeat (first | exact (Kd.R_reads' HO195.out).2.2 | (with_reducible refine Kd.C_alloc ?_ _) | (with_reducible refine Kd.C_drewN ?_ _) | (with_reducible refine Kd.C_drew ?_))); (case side2 => exact (Kd.R_reads' HO195.out).2.1); (case side3 => exact Kd.C_nil _ _); (case side4 => exact Nat.le_refl _); rintro e w189 ⟨rfl, hb⟩; (try clear A173); have n0_ := Aside0.mk (Kd.R_below (by (with_reducible repeat (first | apply Kd.R_alloc | apply Kd.R_drewN | apply Kd.R_drew)); exact HO195.out) hb); have n1_ := Aside0.mk (Kd.R_below (by (with_reducible repeat (first | apply Kd.R_alloc | apply Kd.R_drewN | apply Kd.R_drew)); exact HO202.out) hb); have n2_ := Aside0.mk (Kd.R_below (by (with_reducible repeat (first | apply Kd.R_alloc | apply Kd.R_drewN | apply Kd.R_drew)); exact HO209.out) hb); have n3_ := Aside0.mk (blk_below (g := gb187) (o := .cells #[.int .i64 a0_0, .int .i64 a0_1, .slice A0_2 l0_2.length c0_2] 30 (0, 0)) (by (with_reducible repeat (first | refine k_n ?_ _ | refine k_d ?_ | refine k_a ?_ _)); exact BK187.out) hb); have n4_ := Aside0.mk (blk_below (g := gb197) (o := .cells #[.int .i64 t191, .int .i64 t192, .slice Ao152 t193.length co152] 30 (0, 0)) (by (with_reducible repeat (first | refine k_n ?_ _ | refine k_d ?_ | refine k_a ?_ _)); exact BK197.out) hb); have n5_ := Aside0.mk (blk_below (g := gb204) (o := .cells #[.int .i64 t198, .int .i64 t199, .slice Ao159 t200.length co159] 30 (0, 0)) (by (with_reducible repeat (first | refine k_n ?_ _ | refine k_d ?_ | refine k_a ?_ _)); exact BK204.out) hb); have n6_ := Aside0.mk (blk_below (g := gb211) (o := .cells #[.int .i64 t205, .int .i64 t206, .slice Ao167 t207.length co167] 51 (0, 0)) (by (with_reducible repeat (first | refine k_n ?_ _ | refine k_d ?_ | refine k_a ?_ _)); exact BK211.out) hb); have n7_ := Aside0.mk (below_step (by repeat (first | (with_reducible first | exact HB.out | apply b_a | apply b_n | apply b_d | refine b_s ?_ GE187.out | refine b_s ?_ GE197.out | refine b_s ?_ GE204.out | refine b_s ?_ GE211.out) | exact HB.out)) hb); clear HO195; clear HO202; clear HO209; clear BK187; clear BK197; clear BK204; clear BK211; clear HB; have HO195 := n0_; have HO202 := n1_; have HO209 := n2_; have BK187 := n3_; have BK197 := n4_; have BK204 := n5_; have BK211 := n6_; have HB := n7_; clear n0_ n1_ n2_ n3_ n4_ n5_ n6_ n7_; (try clear hb); (try clear hb2); (try clear hk); (try clear hi)))
      go_meet
      case rel => exact ⟨_, (false), (by first | rfl | (simp; done) | (simp [*]; done)), H', ⟨by have := HJ3.out; first | omega | exact Nat.le_refl _⟩, ⟨by (with_reducible repeat (first | apply Kd.R_alloc | apply Kd.R_drewN | apply Kd.R_drew)); exact Kd.R_mono HO195.out (fun _ hk => hk.2)⟩, ⟨by (with_reducible repeat (first | apply Kd.R_alloc | apply Kd.R_drewN | apply Kd.R_drew)); exact Kd.R_mono HO202.out (fun _ hk => hk.2)⟩, ⟨by (with_reducible repeat (first | apply Kd.R_alloc | apply Kd.R_drewN | apply Kd.R_drew)); exact HO209.out⟩, ⟨by (with_reducible repeat (first | refine k_n ?_ _ | refine k_d ?_ | refine k_a ?_ _)); exact BK187.out⟩, ⟨by (with_reducible repeat (first | refine k_n ?_ _ | refine k_d ?_ | refine k_a ?_ _)); exact BK197.out⟩, ⟨by (with_reducible repeat (first | refine k_n ?_ _ | refine k_d ?_ | refine k_a ?_ _)); exact BK204.out⟩, ⟨by (with_reducible repeat (first | refine k_n ?_ _ | refine k_d ?_ | refine k_a ?_ _)); exact BK211.out⟩, ⟨by repeat (first | (with_reducible first | exact HB.out | apply b_a | apply b_n | apply b_d | refine b_s ?_ GE187.out | refine b_s ?_ GE197.out | refine b_s ?_ GE204.out | refine b_s ?_ GE211.out) | exact HB.out)⟩⟩
     subst c174
     have H1 : ((pelotonref04_Same.f kj3 t198 t199 t200 0 0 ([] : List Int)).bind fun t214 => (pelotonlaw04_MatmulCuts.j1 kj3 t214)) = some r := by rw [if_pos rfl] at H; exact H
     clear H
     have H := H1
     clear H1
     replace H := Option.bind_eq_some_iff.mp H
     obtain ⟨t214, A1750, H⟩ := H
     replace H : (pelotonlaw04_MatmulCuts.j1 kj3 t214) = some r := H
     have A175 := Aside0.mk A1750
     clear A1750
     have H' := Aside0.mk H
     clear H
     have hnb176 := NB197_187.out
     have hnc176 := NB187_197.out
     have hnb177 := NB197_204.out
     have hnc177 := NB204_197.out
     have hnb178 := NB197_211.out
     have hnc178 := NB211_197.out
     have hcz179_0 : w169.cell? ⟨gb197, 0, none⟩ = some (.int .i64 t191) := (blk_cell BK197.out 0).trans rfl
     have hcz179_1 : w169.cell? ⟨gb197, 1, none⟩ = some (.int .i64 t192) := (blk_cell BK197.out 1).trans rfl
     have hcz179_2 : w169.cell? ⟨gb197, 2, none⟩ = some (.slice Ao152 t193.length co152) := (blk_cell BK197.out 2).trans rfl
     have hfz179_0 := blk_frozen BK197.out 0
     have hfz179_1 := blk_frozen BK197.out 1
     have hfz179_2 := blk_frozen BK197.out 2
     go_wp2_with (first | (go_at_call 18; (refine (pelotonref04_Same.calls kj3 t191 t192 _ _ t193 0 0 _ _ ([] : List Int) true _ ?side1 ?side2 ?side3 ?side4 A173.out).mono ?_); (case side1 => repeat (first | exact (Kd.R_reads' HO195.out).2.2 | (with_reducible refine Kd.C_alloc ?_ _) | (with_reducible refine Kd.C_drewN ?_ _) | (with_reducible refine Kd.C_drew ?_))); (case side2 => exact (Kd.R_reads' HO195.out).2.1); (case side3 => exact Kd.C_nil _ _); (case side4 => exact Nat.le_refl _); rintro e w180 ⟨rfl, hb⟩; (try clear A173); have n0_ := Aside0.mk (Kd.R_below (by (with_reducible repeat (first | apply Kd.R_alloc | apply Kd.R_drewN | apply Kd.R_drew)); exact HO195.out) hb); have n1_ := Aside0.mk (Kd.R_below (by (with_reducible repeat (first | apply Kd.R_alloc | apply Kd.R_drewN | apply Kd.R_drew)); exact HO202.out) hb); have n2_ := Aside0.mk (Kd.R_below (by (with_reducible repeat (first | apply Kd.R_alloc | apply Kd.R_drewN | apply Kd.R_drew)); exact HO209.out) hb); have n3_ := Aside0.mk (blk_below (g := gb187) (o := .cells #[.int .i64 a0_0, .int .i64 a0_1, .slice A0_2 l0_2.length c0_2] 30 (0, 0)) (by (with_reducible repeat (first | refine k_n ?_ _ | refine k_d ?_ | refine k_a ?_ _)); exact BK187.out) hb); have n4_ := Aside0.mk (blk_below (g := gb197) (o := .cells #[.int .i64 t191, .int .i64 t192, .slice Ao152 t193.length co152] 30 (0, 0)) (by (with_reducible repeat (first | refine k_n ?_ _ | refine k_d ?_ | refine k_a ?_ _)); exact BK197.out) hb); have n5_ := Aside0.mk (blk_below (g := gb204) (o := .cells #[.int .i64 t198, .int .i64 t199, .slice Ao159 t200.length co159] 30 (0, 0)) (by (with_reducible repeat (first | refine k_n ?_ _ | refine k_d ?_ | refine k_a ?_ _)); exact BK204.out) hb); have n6_ := Aside0.mk (blk_below (g := gb211) (o := .cells #[.int .i64 t205, .int .i64 t206, .slice Ao167 t207.length co167] 51 (0, 0)) (by (with_reducible repeat (first | refine k_n ?_ _ | refine k_d ?_ | refine k_a ?_ _)); exact BK211.out) hb); have n7_ := Aside0.mk (below_step (by repeat (first | (with_reducible first | exact HB.out | apply b_a | apply b_n | apply b_d | refine b_s ?_ GE187.out | refine b_s ?_ GE197.out | refine b_s ?_ GE204.out | refine b_s ?_ GE211.out) | exact HB.out)) hb); clear HO195; clear HO202; clear HO209; clear BK187; clear BK197; clear BK204; clear BK211; clear HB; have HO195 := n0_; have HO202 := n1_; have HO209 := n2_; have BK187 := n3_; have BK197 := n4_; have BK204 := n5_; have BK211 := n6_; have HB := n7_; clear n0_ n1_ n2_ n3_ n4_ n5_ n6_ n7_; (try clear hb); (try clear hb2); (try clear hk); (try clear hi); have hnb181 := NB204_187.out; have hnc181 := NB187_204.out; have hnb182 := NB204_211.out; have hnc182 := NB211_204.out; have hcz183_0 : w180.cell? ⟨gb204, 0, none⟩ = some (.int .i64 t198) := (blk_cell BK204.out 0).trans rfl; have hcz183_1 : w180.cell? ⟨gb204, 1, none⟩ = some (.int .i64 t199) := (blk_cell BK204.out 1).trans rfl; have hcz183_2 : w180.cell? ⟨gb204, 2, none⟩ = some (.slice Ao159 t200.length co159) := (blk_cell BK204.out 2).trans rfl; have hfz183_0 := blk_frozen BK204.out 0; have hfz183_1 := blk_frozen BK204.out 1; have hfz183_2 := blk_frozen BK204.out 2) | (go_at_call 18; (refine (pelotonref04_Same.calls kj3 t198 t199 _ _ t200 0 0 _ _ ([] : List Int) t214 _ ?side1 ?side2 ?side3 ?side4 A175.out).mono ?_); (case side1 => repeat (first | exact (Kd.R_reads' HO202.out).2.2 | (with_reducible refine Kd.C_alloc ?_ _) | (with_reducible refine Kd.C_drewN ?_ _) | (with_reducible refine Kd.C_drew ?_))); (case side2 => exact (Kd.R_reads' HO202.out).2.1); (case side3 => exact Kd.C_nil _ _); (case side4 => exact Nat.le_refl _); rintro e w184 ⟨rfl, hb⟩; (try clear A175); have n0_ := Aside0.mk (Kd.R_below (by (with_reducible repeat (first | apply Kd.R_alloc | apply Kd.R_drewN | apply Kd.R_drew)); exact HO195.out) hb); have n1_ := Aside0.mk (Kd.R_below (by (with_reducible repeat (first | apply Kd.R_alloc | apply Kd.R_drewN | apply Kd.R_drew)); exact HO202.out) hb); have n2_ := Aside0.mk (Kd.R_below (by (with_reducible repeat (first | apply Kd.R_alloc | apply Kd.R_drewN | apply Kd.R_drew)); exact HO209.out) hb); have n3_ := Aside0.mk (blk_below (g := gb187) (o := .cells #[.int .i64 a0_0, .int .i64 a0_1, .slice A0_2 l0_2.length c0_2] 30 (0, 0)) (by (with_reducible repeat (first | refine k_n ?_ _ | refine k_d ?_ | refine k_a ?_ _)); exact BK187.out) hb); have n4_ := Aside0.mk (blk_below (g := gb197) (o := .cells #[.int .i64 t191, .int .i64 t192, .slice Ao152 t193.length co152] 30 (0, 0)) (by (with_reducible repeat (first | refine k_n ?_ _ | refine k_d ?_ | refine k_a ?_ _)); exact BK197.out) hb); have n5_ := Aside0.mk (blk_below (g := gb204) (o := .cells #[.int .i64 t198, .int .i64 t199, .slice Ao159 t200.length co159] 30 (0, 0)) (by (with_reducible repeat (first | refine k_n ?_ _ | refine k_d ?_ | refine k_a ?_ _)); exact BK204.out) hb); have n6_ := Aside0.mk (blk_below (g := gb211) (o := .cells #[.int .i64 t205, .int .i64 t206, .slice Ao167 t207.length co167] 51 (0, 0)) (by (with_reducible repeat (first | refine k_n ?_ _ | refine k_d ?_ | refine k_a ?_ _)); exact BK211.out) hb); have n7_ := Aside0.mk (below_step (by repeat (first | (with_reducible first | exact HB.out | apply b_a | apply b_n | apply b_d | refine b_s ?_ GE187.out | refine b_s ?_ GE197.out | refine b_s ?_ GE204.out | refine b_s ?_ GE211.out) | exact HB.out)) hb); clear HO195; clear HO202; clear HO209; clear BK187; clear BK197; clear BK204; clear BK211; clear HB; have HO195 := n0_; have HO202 := n1_; have HO209 := n2_; have BK187 := n3_; have BK197 := n4_; have BK204 := n5_; have BK211 := n6_; have HB := n7_; clear n0_ n1_ n2_ n3_ n4_ n5_ n6_ n7_; (try clear hb); (try clear hb2); (try clear hk); (try clear hi)))
     go_meet
     case rel => exact ⟨_, (t214), (by first | rfl | (simp; done) | (simp [*]; done)), H', ⟨by have := HJ3.out; first | omega | exact Nat.le_refl _⟩, ⟨by (with_reducible repeat (first | apply Kd.R_alloc | apply Kd.R_drewN | apply Kd.R_drew)); exact Kd.R_mono HO195.out (fun _ hk => hk.2)⟩, ⟨by (with_reducible repeat (first | apply Kd.R_alloc | apply Kd.R_drewN | apply Kd.R_drew)); exact Kd.R_mono HO202.out (fun _ hk => hk.2)⟩, ⟨by (with_reducible repeat (first | apply Kd.R_alloc | apply Kd.R_drewN | apply Kd.R_drew)); exact HO209.out⟩, ⟨by (with_reducible repeat (first | refine k_n ?_ _ | refine k_d ?_ | refine k_a ?_ _)); exact BK187.out⟩, ⟨by (with_reducible repeat (first | refine k_n ?_ _ | refine k_d ?_ | refine k_a ?_ _)); exact BK197.out⟩, ⟨by (with_reducible repeat (first | refine k_n ?_ _ | refine k_d ?_ | refine k_a ?_ _)); exact BK204.out⟩, ⟨by (with_reducible repeat (first | refine k_n ?_ _ | refine k_d ?_ | refine k_a ?_ _)); exact BK211.out⟩, ⟨by repeat (first | (with_reducible first | exact HB.out | apply b_a | apply b_n | apply b_d | refine b_s ?_ GE187.out | refine b_s ?_ GE197.out | refine b_s ?_ GE204.out | refine b_s ?_ GE211.out) | exact HB.out)⟩⟩
    case rest => as_aux_lemma =>
     clear HC146
     try clear c1
     try clear c2
     try clear p2
     try clear c9
     try clear c10
     try clear c11
     try clear c12
     try clear c13
     try clear c14
     try clear c15
     try clear c16
     try clear c17
     try clear c18
     try clear c20
     try clear c21
     try clear c26
     try clear c27
     try clear c97
     try clear c98
     try clear c98b0
     try clear c98b1
     try clear c101
     try clear c111
     try clear c111b0
     try clear c111b1
     try clear c113
     try clear c114
     try clear c115
     try clear c116
     try clear c119
     try clear c120
     try clear c121
     try clear c125
     try clear c126
     try clear c127
     try clear c128
     try clear c130
     try clear c131
     try clear c131b0
     try clear c131b1
     try clear c139
     try clear c139b0
     try clear c139b1
     try clear c141
     try clear c142
     try clear c143
     try clear c150
     try clear c156
     try clear c157
     try clear c163
     try clear c164
     try clear c165
     try clear c170
     try clear c170b0
     try clear c170b1
     try clear c171
     try clear c171b0
     try clear c171b1
     try clear c172
     try clear c172b0
     try clear c172b1
     try clear c174
     try clear c176
     try clear c177
     try clear c178
     try clear c181
     try clear c182
     try clear c185
     try clear c186
     try clear c187
     try clear hcz117_0
     try clear hcz117_1
     try clear hcz117_2
     try clear hcz122_0
     try clear hcz122_1
     try clear hcz122_2
     try clear hcz129_0
     try clear hcz129_1
     try clear hcz129_2
     try clear hcz144_0
     try clear hcz144_1
     try clear hcz144_2
     try clear hcz147_0
     try clear hcz147_1
     try clear hcz147_2
     try clear hcz151_0
     try clear hcz151_1
     try clear hcz151_2
     try clear hcz153_0
     try clear hcz153_1
     try clear hcz153_2
     try clear hcz158_0
     try clear hcz158_1
     try clear hcz158_2
     try clear hcz160_0
     try clear hcz160_1
     try clear hcz160_2
     try clear hcz166_0
     try clear hcz166_1
     try clear hcz166_2
     try clear hcz168_0
     try clear hcz168_1
     try clear hcz168_2
     try clear hcz179_0
     try clear hcz179_1
     try clear hcz179_2
     try clear hcz183_0
     try clear hcz183_1
     try clear hcz183_2
     try clear hcz188_0
     try clear hcz188_1
     try clear hcz188_2
     try clear hfz117_0
     try clear hfz117_1
     try clear hfz117_2
     try clear hfz122_0
     try clear hfz122_1
     try clear hfz122_2
     try clear hfz129_0
     try clear hfz129_1
     try clear hfz129_2
     try clear hfz144_0
     try clear hfz144_1
     try clear hfz144_2
     try clear hfz147_0
     try clear hfz147_1
     try clear hfz147_2
     try clear hfz151_0
     try clear hfz151_1
     try clear hfz151_2
     try clear hfz153_0
     try clear hfz153_1
     try clear hfz153_2
     try clear hfz158_0
     try clear hfz158_1
     try clear hfz158_2
     try clear hfz160_0
     try clear hfz160_1
     try clear hfz160_2
     try clear hfz166_0
     try clear hfz166_1
     try clear hfz166_2
     try clear hfz168_0
     try clear hfz168_1
     try clear hfz168_2
     try clear hfz179_0
     try clear hfz179_1
     try clear hfz179_2
     try clear hfz183_0
     try clear hfz183_1
     try clear hfz183_2
     try clear hfz188_0
     try clear hfz188_1
     try clear hfz188_2
     try clear p2
     obtain ⟨kq, x6_145, rfl, HA, HJ145, HO_198002, HO_205002, HO_212002, BK187, BK197, BK204, BK211, HB⟩ := hcut
     cases kq with
     | zero => exact absurd HA.out (by simp [pelotonlaw04_MatmulCuts.j1])
     | succ kj145 =>
      have H := HA.out
      clear HA
      simp only [pelotonlaw04_MatmulCuts.j1] at H
      obtain rfl := Option.some.inj H
      go_wp2
      go_ret
      exact ⟨by first | rfl | (simp [errW_none, errW_some] <;> rfl) | (simp [*, errW_none, errW_some] <;> rfl), by repeat (first | (with_reducible first | exact HB.out | apply b_a | apply b_n | apply b_d | refine b_s ?_ GE187.out | refine b_s ?_ GE197.out | refine b_s ?_ GE204.out | refine b_s ?_ GE211.out) | exact HB.out)⟩

   subst c20
   have H1 : (if t210 = 0 then (if t205 = a0_0 then (if t206 = a0_1 then (pelotonlaw04_MatmulCuts.j2 kj3 a1 a2 t196 t203 ((t207.length : Int) != (l0_2.length : Int)) a0_0 a0_1 l0_2 t191 t192 t193 t198 t199 t200 t205 t206 t207) else (pelotonlaw04_MatmulCuts.j2 kj3 a1 a2 t196 t203 true a0_0 a0_1 l0_2 t191 t192 t193 t198 t199 t200 t205 t206 t207)) else (pelotonlaw04_MatmulCuts.j2 kj3 a1 a2 t196 t203 true a0_0 a0_1 l0_2 t191 t192 t193 t198 t199 t200 t205 t206 t207)) else (pelotonlaw04_MatmulCuts.j2 kj3 a1 a2 t196 t203 true a0_0 a0_1 l0_2 t191 t192 t193 t198 t199 t200 t205 t206 t207)) = some r := by rw [if_pos rfl] at H; exact H
   clear H
   have H := H1
   clear H1
   have HC21 := Aside0.mk H
   clear H
   have hcz22_0 : wc.cell? ⟨gb187, 0, none⟩ = some (.int .i64 a0_0) := (blk_cell BK187.out 0).trans rfl
   have hcz22_1 : wc.cell? ⟨gb187, 1, none⟩ = some (.int .i64 a0_1) := (blk_cell BK187.out 1).trans rfl
   have hcz22_2 : wc.cell? ⟨gb187, 2, none⟩ = some (.slice A0_2 l0_2.length c0_2) := (blk_cell BK187.out 2).trans rfl
   have hfz22_0 := blk_frozen BK187.out 0
   have hfz22_1 := blk_frozen BK187.out 1
   have hfz22_2 := blk_frozen BK187.out 2
   go_upto_region 8 with (first | ((with_reducible refine gate_callee (f := 20) rfl ?_); refine goesL_ (some 27) rfl rfl Try.func20 (by kernel_rfl) rfl #[.agg #[.int .i64 a0_0, .int .i64 a0_1, .slice A0_2 l0_2.length c0_2], .int .i64 a1, .int .i64 a2] rfl (by (try simp only [l_4, l_5, l_6]); first | done | rfl | (simp only [l_7, l_8]; rfl)) ?_; (with_reducible refine (matmul_Rows.calls a0_0 a0_1 _ _ l0_2 a1 a2 t191 t192 t193 t196 _ ?side1 ?side2 A16.out).mono ?_); (case side1 => repeat (first | exact (Kd.C_below HR0_2.out HB.out) | (with_reducible refine Kd.C_alloc ?_ _) | (with_reducible refine Kd.C_drewN ?_ _) | (with_reducible refine Kd.C_drew ?_))); (case side2 => exact HC0_2.out); rintro e w23 ⟨v194, rfl, ho0, hb⟩; (try clear A16); refine ⟨_, rfl, ?_⟩; have n0_ := Aside0.mk (Kd.R_lower ho0 (below_size (by repeat (first | (with_reducible first | exact HB.out | apply b_a | apply b_n | apply b_d | refine b_s ?_ GE187.out) | exact HB.out)))); have n1_ := Aside0.mk (blk_below (g := gb187) (o := .cells #[.int .i64 a0_0, .int .i64 a0_1, .slice A0_2 l0_2.length c0_2] 30 (0, 0)) (by (with_reducible repeat (first | refine k_n ?_ _ | refine k_d ?_ | refine k_a ?_ _)); exact BK187.out) hb); have n2_ := Aside0.mk (below_step (by repeat (first | (with_reducible first | exact HB.out | apply b_a | apply b_n | apply b_d | refine b_s ?_ GE187.out) | exact HB.out)) hb); clear BK187; clear HB; have HO195 := n0_; have BK187 := n1_; have HB := n2_; clear n0_ n1_ n2_; (try clear hb); (try clear hb2); (try clear hk); (try clear hi); (try clear ho0)) | ((with_reducible refine gate_dst (N := 7) rfl ?_); (try (refine gate_guard (by rfl) ?_; dsimp only)); refine box_event ?hg (N := 7) ?hd (cs := #[.int .i64 0, .int .i64 0, .slice none 0 0]) (t := 30) ?hr ?_; (case hd => rfl); (case hg => rfl); (case hr => first | (go_simp; done) | (go_simp; rfl)); intro gb197 hg w24 hbox hb; have n0_ := Aside0.mk (Kd.R_below (by (with_reducible repeat (first | apply Kd.R_alloc | apply Kd.R_drewN | apply Kd.R_drew)); exact HO195.out) hb); have n1_ := Aside0.mk (blk_below (g := gb187) (o := .cells #[.int .i64 a0_0, .int .i64 a0_1, .slice A0_2 l0_2.length c0_2] 30 (0, 0)) (by (with_reducible repeat (first | refine k_n ?_ _ | refine k_d ?_ | refine k_a ?_ _)); exact BK187.out) hb); have n2_ := Aside0.mk (below_step (by repeat (first | (with_reducible first | exact HB.out | apply b_a | apply b_n | apply b_d | refine b_s ?_ GE187.out) | exact HB.out)) hb); have n3_ := Aside0.mk (hbox); have n4_ := Aside0.mk ((by rw [hg]; exact (below_size (by repeat (first | (with_reducible first | exact HB.out | apply b_a | apply b_n | apply b_d | refine b_s ?_ GE187.out) | exact HB.out))) : w.heap.size ≤ gb197)); have n5_ := Aside0.mk ((by rw [hg]; exact (below_size (by repeat (first | (with_reducible first | exact HB.out | apply b_a | apply b_n | apply b_d | refine b_s ?_ GE187.out) | exact HB.out))) : w.heap.size ≤ gb197)); have n6_ := Aside0.mk ((by rw [hg]; exact Nat.ne_of_lt (blk_lt (g := gb187) (o := .cells #[.int .i64 a0_0, .int .i64 a0_1, .slice A0_2 l0_2.length c0_2] 30 (0, 0)) (by (with_reducible repeat (first | refine k_n ?_ _ | refine k_d ?_ | refine k_a ?_ _)); exact BK187.out)) : gb187 ≠ gb197)); have n7_ := Aside0.mk ((by rw [hg]; exact Nat.ne_of_gt (blk_lt (g := gb187) (o := .cells #[.int .i64 a0_0, .int .i64 a0_1, .slice A0_2 l0_2.length c0_2] 30 (0, 0)) (by (with_reducible repeat (first | refine k_n ?_ _ | refine k_d ?_ | refine k_a ?_ _)); exact BK187.out)) : gb197 ≠ gb187)); clear HO195; clear BK187; clear HB; have HO195 := n0_; have BK187 := n1_; have HB := n2_; have BK197 := n3_; have GW197 := n4_; have GE197 := n5_; have NB187_197 := n6_; have NB197_187 := n7_; clear n0_ n1_ n2_ n3_ n4_ n5_ n6_ n7_; clear hb hbox hg; have hnb25 := NB197_187.out; have hnc25 := NB187_197.out; have hcz26_0 : w24.cell? ⟨gb197, 0, none⟩ = some (.int .i64 0) := (blk_cell BK197.out 0).trans rfl; have hcz26_1 : w24.cell? ⟨gb197, 1, none⟩ = some (.int .i64 0) := (blk_cell BK197.out 1).trans rfl; have hcz26_2 : w24.cell? ⟨gb197, 2, none⟩ = some (.slice none 0 0) := (blk_cell BK197.out 2).trans rfl; have hfz26_0 := blk_frozen BK197.out 0; have hfz26_1 := blk_frozen BK197.out 1; have hfz26_2 := blk_frozen BK197.out 2; obtain ⟨Ao27, co27, eo27⟩ := Kd.R_slice HO195.out; subst eo27; have hcz28_0 : w24.cell? ⟨gb187, 0, none⟩ = some (.int .i64 a0_0) := (blk_cell BK187.out 0).trans rfl; have hcz28_1 : w24.cell? ⟨gb187, 1, none⟩ = some (.int .i64 a0_1) := (blk_cell BK187.out 1).trans rfl; have hcz28_2 : w24.cell? ⟨gb187, 2, none⟩ = some (.slice A0_2 l0_2.length c0_2) := (blk_cell BK187.out 2).trans rfl; have hfz28_0 := blk_frozen BK187.out 0; have hfz28_1 := blk_frozen BK187.out 1; have hfz28_2 := blk_frozen BK187.out 2) | ((with_reducible refine gate_callee (f := 21) rfl ?_); refine goesL_ (some 34) rfl rfl Try.func21 (by kernel_rfl) rfl #[.agg #[.int .i64 a0_0, .int .i64 a0_1, .slice A0_2 l0_2.length c0_2], .int .i64 a1, .int .i64 a2] rfl (by (try simp only [l_4, l_5, l_6]); first | done | rfl | (simp only [l_7, l_8]; rfl)) ?_; (with_reducible refine (matmul_Cols.calls kj3 a0_0 a0_1 _ _ l0_2 a1 a2 t198 t199 t200 t203 _ ?side1 ?side2 A17.out).mono ?_); (case side1 => exact Kd.C_below HR0_2.out (by repeat (first | (with_reducible first | exact HB.out | apply b_a | apply b_n | apply b_d | refine b_s ?_ GE187.out | refine b_s ?_ GE197.out) | exact HB.out))); (case side2 => exact HC0_2.out); rintro e w29 ⟨v201, rfl, ho0, hb⟩; (try clear A17); refine ⟨_, rfl, ?_⟩; have n0_ := Aside0.mk (Kd.R_elder' (by (with_reducible repeat (first | apply Kd.R_alloc | apply Kd.R_drewN | apply Kd.R_drew)); exact (Kd.R_mono (Kd.R_far (p := ⟨gb197, 2, none⟩) (Kd.R_far (p := ⟨gb197, 1, none⟩) (Kd.R_far (p := ⟨gb197, 0, none⟩) (Kd.R_types HO195.out BK197.out (by decide)) (fun _ hk => hk.2) (.int .i64 t191)) (fun _ hk => hk.2) (.int .i64 t192)) (fun _ hk => hk.2) (.slice Ao27 t193.length co27)) (fun _ h_ => h_.1))) (Kd.R_base ho0) hb); have n1_ := Aside0.mk (Kd.R_lower (Kd.R_new' ho0 (Kd.R_lt (by (with_reducible repeat (first | apply Kd.R_alloc | apply Kd.R_drewN | apply Kd.R_drew)); exact (Kd.R_mono (Kd.R_far (p := ⟨gb197, 2, none⟩) (Kd.R_far (p := ⟨gb197, 1, none⟩) (Kd.R_far (p := ⟨gb197, 0, none⟩) (Kd.R_types HO195.out BK197.out (by decide)) (fun _ hk => hk.2) (.int .i64 t191)) (fun _ hk => hk.2) (.int .i64 t192)) (fun _ hk => hk.2) (.slice Ao27 t193.length co27)) (fun _ h_ => h_.1))))) (below_size (by repeat (first | (with_reducible first | exact HB.out | apply b_a | apply b_n | apply b_d | refine b_s ?_ GE187.out | refine b_s ?_ GE197.out) | exact HB.out)))); have n2_ := Aside0.mk (blk_below (g := gb187) (o := .cells #[.int .i64 a0_0, .int .i64 a0_1, .slice A0_2 l0_2.length c0_2] 30 (0, 0)) (by (with_reducible repeat (first | refine k_n ?_ _ | refine k_d ?_ | refine k_a ?_ _)); refine blk_far ?_ NB187_197.out _; (with_reducible repeat (first | refine k_n ?_ _ | refine k_d ?_ | refine k_a ?_ _)); refine blk_far ?_ NB187_197.out _; (with_reducible repeat (first | refine k_n ?_ _ | refine k_d ?_ | refine k_a ?_ _)); refine blk_far ?_ NB187_197.out _; (with_reducible repeat (first | refine k_n ?_ _ | refine k_d ?_ | refine k_a ?_ _)); exact BK187.out) hb); have n3_ := Aside0.mk (blk_below (g := gb197) (o := .cells #[.int .i64 t191, .int .i64 t192, .slice Ao27 t193.length co27] 30 (0, 0)) (by (with_reducible repeat (first | refine k_n ?_ _ | refine k_d ?_ | refine k_a ?_ _)); refine blk_put (cs := #[.int .i64 t191, .int .i64 t192, .slice none 0 0]) ?_ 2 _ rfl; (with_reducible repeat (first | refine k_n ?_ _ | refine k_d ?_ | refine k_a ?_ _)); refine blk_put (cs := #[.int .i64 t191, .int .i64 0, .slice none 0 0]) ?_ 1 _ rfl; (with_reducible repeat (first | refine k_n ?_ _ | refine k_d ?_ | refine k_a ?_ _)); refine blk_put (cs := #[.int .i64 0, .int .i64 0, .slice none 0 0]) ?_ 0 _ rfl; (with_reducible repeat (first | refine k_n ?_ _ | refine k_d ?_ | refine k_a ?_ _)); exact BK197.out) hb); have n4_ := Aside0.mk (below_step (by repeat (first | (with_reducible first | exact HB.out | apply b_a | apply b_n | apply b_d | refine b_s ?_ GE187.out | refine b_s ?_ GE197.out) | exact HB.out)) hb); clear HO195; clear BK187; clear BK197; clear HB; have HO195 := n0_; have HO202 := n1_; have BK187 := n2_; have BK197 := n3_; have HB := n4_; clear n0_ n1_ n2_ n3_ n4_; (try clear hb); (try clear hb2); (try clear hk); (try clear hi); (try clear ho0)) | ((with_reducible refine gate_dst (N := 9) rfl ?_); (try (refine gate_guard (by rfl) ?_; dsimp only)); refine box_event ?hg (N := 9) ?hd (cs := #[.int .i64 0, .int .i64 0, .slice none 0 0]) (t := 30) ?hr ?_; (case hd => rfl); (case hg => rfl); (case hr => first | (go_simp; done) | (go_simp; rfl)); intro gb204 hg w30 hbox hb; have n0_ := Aside0.mk (Kd.R_below (by (with_reducible repeat (first | apply Kd.R_alloc | apply Kd.R_drewN | apply Kd.R_drew)); exact HO195.out) hb); have n1_ := Aside0.mk (Kd.R_below (by (with_reducible repeat (first | apply Kd.R_alloc | apply Kd.R_drewN | apply Kd.R_drew)); exact HO202.out) hb); have n2_ := Aside0.mk (blk_below (g := gb187) (o := .cells #[.int .i64 a0_0, .int .i64 a0_1, .slice A0_2 l0_2.length c0_2] 30 (0, 0)) (by (with_reducible repeat (first | refine k_n ?_ _ | refine k_d ?_ | refine k_a ?_ _)); exact BK187.out) hb); have n3_ := Aside0.mk (blk_below (g := gb197) (o := .cells #[.int .i64 t191, .int .i64 t192, .slice Ao27 t193.length co27] 30 (0, 0)) (by (with_reducible repeat (first | refine k_n ?_ _ | refine k_d ?_ | refine k_a ?_ _)); exact BK197.out) hb); have n4_ := Aside0.mk (below_step (by repeat (first | (with_reducible first | exact HB.out | apply b_a | apply b_n | apply b_d | refine b_s ?_ GE187.out | refine b_s ?_ GE197.out) | exact HB.out)) hb); have n5_ := Aside0.mk (hbox); have n6_ := Aside0.mk ((by rw [hg]; exact (below_size (by repeat (first | (with_reducible first | exact HB.out | apply b_a | apply b_n | apply b_d | refine b_s ?_ GE187.out | refine b_s ?_ GE197.out) | exact HB.out))) : w.heap.size ≤ gb204)); have n7_ := Aside0.mk ((by rw [hg]; exact (below_size (by repeat (first | (with_reducible first | exact HB.out | apply b_a | apply b_n | apply b_d | refine b_s ?_ GE187.out | refine b_s ?_ GE197.out) | exact HB.out))) : w.heap.size ≤ gb204)); have n8_ := Aside0.mk ((by rw [hg]; exact Nat.ne_of_lt (blk_lt (g := gb187) (o := .cells #[.int .i64 a0_0, .int .i64 a0_1, .slice A0_2 l0_2.length c0_2] 30 (0, 0)) (by (with_reducible repeat (first | refine k_n ?_ _ | refine k_d ?_ | refine k_a ?_ _)); exact BK187.out)) : gb187 ≠ gb204)); have n9_ := Aside0.mk ((by rw [hg]; exact Nat.ne_of_gt (blk_lt (g := gb187) (o := .cells #[.int .i64 a0_0, .int .i64 a0_1, .slice A0_2 l0_2.length c0_2] 30 (0, 0)) (by (with_reducible repeat (first | refine k_n ?_ _ | refine k_d ?_ | refine k_a ?_ _)); exact BK187.out)) : gb204 ≠ gb187)); have n10_ := Aside0.mk ((by rw [hg]; exact Nat.ne_of_lt (blk_lt (g := gb197) (o := .cells #[.int .i64 t191, .int .i64 t192, .slice Ao27 t193.length co27] 30 (0, 0)) (by (with_reducible repeat (first | refine k_n ?_ _ | refine k_d ?_ | refine k_a ?_ _)); exact BK197.out)) : gb197 ≠ gb204)); have n11_ := Aside0.mk ((by rw [hg]; exact Nat.ne_of_gt (blk_lt (g := gb197) (o := .cells #[.int .i64 t191, .int .i64 t192, .slice Ao27 t193.length co27] 30 (0, 0)) (by (with_reducible repeat (first | refine k_n ?_ _ | refine k_d ?_ | refine k_a ?_ _)); exact BK197.out)) : gb204 ≠ gb197)); clear HO195; clear HO202; clear BK187; clear BK197; clear HB; have HO195 := n0_; have HO202 := n1_; have BK187 := n2_; have BK197 := n3_; have HB := n4_; have BK204 := n5_; have GW204 := n6_; have GE204 := n7_; have NB187_204 := n8_; have NB204_187 := n9_; have NB197_204 := n10_; have NB204_197 := n11_; clear n0_ n1_ n2_ n3_ n4_ n5_ n6_ n7_ n8_ n9_ n10_ n11_; clear hb hbox hg; have hnb31 := NB204_187.out; have hnc31 := NB187_204.out; have hnb32 := NB204_197.out; have hnc32 := NB197_204.out; have hcz33_0 : w30.cell? ⟨gb204, 0, none⟩ = some (.int .i64 0) := (blk_cell BK204.out 0).trans rfl; have hcz33_1 : w30.cell? ⟨gb204, 1, none⟩ = some (.int .i64 0) := (blk_cell BK204.out 1).trans rfl; have hcz33_2 : w30.cell? ⟨gb204, 2, none⟩ = some (.slice none 0 0) := (blk_cell BK204.out 2).trans rfl; have hfz33_0 := blk_frozen BK204.out 0; have hfz33_1 := blk_frozen BK204.out 1; have hfz33_2 := blk_frozen BK204.out 2; obtain ⟨Ao34, co34, eo34⟩ := Kd.R_slice HO202.out; subst eo34; have hcz35_0 : w30.cell? ⟨gb187, 0, none⟩ = some (.int .i64 a0_0) := (blk_cell BK187.out 0).trans rfl; have hcz35_1 : w30.cell? ⟨gb187, 1, none⟩ = some (.int .i64 a0_1) := (blk_cell BK187.out 1).trans rfl; have hcz35_2 : w30.cell? ⟨gb187, 2, none⟩ = some (.slice A0_2 l0_2.length c0_2) := (blk_cell BK187.out 2).trans rfl; have hfz35_0 := blk_frozen BK187.out 0; have hfz35_1 := blk_frozen BK187.out 1; have hfz35_2 := blk_frozen BK187.out 2) | ((with_reducible refine gate_callee (f := 26) rfl ?_); refine goesL_ (some 39) rfl rfl Try.func26 (by kernel_rfl) rfl #[.agg #[.int .i64 a0_0, .int .i64 a0_1, .slice A0_2 l0_2.length c0_2]] rfl (by (try simp only [l_4, l_5, l_6]); first | done | rfl | (simp only [l_7, l_8]; rfl)) ?_; (with_reducible refine (matmul_Wide.calls kj3 a0_0 a0_1 _ _ l0_2 t205 t206 t207 t210 _ ?side1 ?side2 A18.out).mono ?_); (case side1 => exact Kd.C_below HR0_2.out (by repeat (first | (with_reducible first | exact HB.out | apply b_a | apply b_n | apply b_d | refine b_s ?_ GE187.out | refine b_s ?_ GE197.out | refine b_s ?_ GE204.out) | exact HB.out))); (case side2 => exact HC0_2.out); rintro e w36 ⟨v208, rfl, ho0, hb⟩; (try clear A18); refine ⟨_, rfl, ?_⟩; have n0_ := Aside0.mk (Kd.R_below (by (with_reducible repeat (first | apply Kd.R_alloc | apply Kd.R_drewN | apply Kd.R_drew)); exact (Kd.R_mono (Kd.R_far (p := ⟨gb204, 2, none⟩) (Kd.R_far (p := ⟨gb204, 1, none⟩) (Kd.R_far (p := ⟨gb204, 0, none⟩) (Kd.R_types HO195.out BK204.out (by decide)) (fun _ hk => hk.2) (.int .i64 t198)) (fun _ hk => hk.2) (.int .i64 t199)) (fun _ hk => hk.2) (.slice Ao34 t200.length co34)) (fun _ h_ => h_.1))) hb); have n1_ := Aside0.mk (Kd.R_below (by (with_reducible repeat (first | apply Kd.R_alloc | apply Kd.R_drewN | apply Kd.R_drew)); exact (Kd.R_mono (Kd.R_far (p := ⟨gb204, 2, none⟩) (Kd.R_far (p := ⟨gb204, 1, none⟩) (Kd.R_far (p := ⟨gb204, 0, none⟩) (Kd.R_types HO202.out BK204.out (by decide)) (fun _ hk => hk.2) (.int .i64 t198)) (fun _ hk => hk.2) (.int .i64 t199)) (fun _ hk => hk.2) (.slice Ao34 t200.length co34)) (fun _ h_ => h_.1))) hb); have n2_ := Aside0.mk (Kd.R_lower ho0 (below_size (by repeat (first | (with_reducible first | exact HB.out | apply b_a | apply b_n | apply b_d | refine b_s ?_ GE187.out | refine b_s ?_ GE197.out | refine b_s ?_ GE204.out) | exact HB.out)))); have n3_ := Aside0.mk (blk_below (g := gb187) (o := .cells #[.int .i64 a0_0, .int .i64 a0_1, .slice A0_2 l0_2.length c0_2] 30 (0, 0)) (by (with_reducible repeat (first | refine k_n ?_ _ | refine k_d ?_ | refine k_a ?_ _)); refine blk_far ?_ NB187_204.out _; (with_reducible repeat (first | refine k_n ?_ _ | refine k_d ?_ | refine k_a ?_ _)); refine blk_far ?_ NB187_204.out _; (with_reducible repeat (first | refine k_n ?_ _ | refine k_d ?_ | refine k_a ?_ _)); refine blk_far ?_ NB187_204.out _; (with_reducible repeat (first | refine k_n ?_ _ | refine k_d ?_ | refine k_a ?_ _)); exact BK187.out) hb); have n4_ := Aside0.mk (blk_below (g := gb197) (o := .cells #[.int .i64 t191, .int .i64 t192, .slice Ao27 t193.length co27] 30 (0, 0)) (by (with_reducible repeat (first | refine k_n ?_ _ | refine k_d ?_ | refine k_a ?_ _)); refine blk_far ?_ NB197_204.out _; (with_reducible repeat (first | refine k_n ?_ _ | refine k_d ?_ | refine k_a ?_ _)); refine blk_far ?_ NB197_204.out _; (with_reducible repeat (first | refine k_n ?_ _ | refine k_d ?_ | refine k_a ?_ _)); refine blk_far ?_ NB197_204.out _; (with_reducible repeat (first | refine k_n ?_ _ | refine k_d ?_ | refine k_a ?_ _)); exact BK197.out) hb); have n5_ := Aside0.mk (blk_below (g := gb204) (o := .cells #[.int .i64 t198, .int .i64 t199, .slice Ao34 t200.length co34] 30 (0, 0)) (by (with_reducible repeat (first | refine k_n ?_ _ | refine k_d ?_ | refine k_a ?_ _)); refine blk_put (cs := #[.int .i64 t198, .int .i64 t199, .slice none 0 0]) ?_ 2 _ rfl; (with_reducible repeat (first | refine k_n ?_ _ | refine k_d ?_ | refine k_a ?_ _)); refine blk_put (cs := #[.int .i64 t198, .int .i64 0, .slice none 0 0]) ?_ 1 _ rfl; (with_reducible repeat (first | refine k_n ?_ _ | refine k_d ?_ | refine k_a ?_ _)); refine blk_put (cs := #[.int .i64 0, .int .i64 0, .slice none 0 0]) ?_ 0 _ rfl; (with_reducible repeat (first | refine k_n ?_ _ | refine k_d ?_ | refine k_a ?_ _)); exact BK204.out) hb); have n6_ := Aside0.mk (below_step (by repeat (first | (with_reducible first | exact HB.out | apply b_a | apply b_n | apply b_d | refine b_s ?_ GE187.out | refine b_s ?_ GE197.out | refine b_s ?_ GE204.out) | exact HB.out)) hb); clear HO195; clear HO202; clear BK187; clear BK197; clear BK204; clear HB; have HO195 := n0_; have HO202 := n1_; have HO209 := n2_; have BK187 := n3_; have BK197 := n4_; have BK204 := n5_; have HB := n6_; clear n0_ n1_ n2_ n3_ n4_ n5_ n6_; (try clear hb); (try clear hb2); (try clear hk); (try clear hi); (try clear ho0)) | ((with_reducible refine gate_dst (N := 11) rfl ?_); (try (refine gate_guard (by rfl) ?_; dsimp only)); refine box_event ?hg (N := 11) ?hd (cs := #[.int .i64 0, .int .i64 0, .slice none 0 0]) (t := 51) ?hr ?_; (case hd => rfl); (case hg => rfl); (case hr => first | (go_simp; done) | (go_simp; rfl)); intro gb211 hg w37 hbox hb; have n0_ := Aside0.mk (Kd.R_below (by (with_reducible repeat (first | apply Kd.R_alloc | apply Kd.R_drewN | apply Kd.R_drew)); exact HO195.out) hb); have n1_ := Aside0.mk (Kd.R_below (by (with_reducible repeat (first | apply Kd.R_alloc | apply Kd.R_drewN | apply Kd.R_drew)); exact HO202.out) hb); have n2_ := Aside0.mk (Kd.R_below (by (with_reducible repeat (first | apply Kd.R_alloc | apply Kd.R_drewN | apply Kd.R_drew)); exact HO209.out) hb); have n3_ := Aside0.mk (blk_below (g := gb187) (o := .cells #[.int .i64 a0_0, .int .i64 a0_1, .slice A0_2 l0_2.length c0_2] 30 (0, 0)) (by (with_reducible repeat (first | refine k_n ?_ _ | refine k_d ?_ | refine k_a ?_ _)); exact BK187.out) hb); have n4_ := Aside0.mk (blk_below (g := gb197) (o := .cells #[.int .i64 t191, .int .i64 t192, .slice Ao27 t193.length co27] 30 (0, 0)) (by (with_reducible repeat (first | refine k_n ?_ _ | refine k_d ?_ | refine k_a ?_ _)); exact BK197.out) hb); have n5_ := Aside0.mk (blk_below (g := gb204) (o := .cells #[.int .i64 t198, .int .i64 t199, .slice Ao34 t200.length co34] 30 (0, 0)) (by (with_reducible repeat (first | refine k_n ?_ _ | refine k_d ?_ | refine k_a ?_ _)); exact BK204.out) hb); have n6_ := Aside0.mk (below_step (by repeat (first | (with_reducible first | exact HB.out | apply b_a | apply b_n | apply b_d | refine b_s ?_ GE187.out | refine b_s ?_ GE197.out | refine b_s ?_ GE204.out) | exact HB.out)) hb); have n7_ := Aside0.mk (hbox); have n8_ := Aside0.mk ((by rw [hg]; exact (below_size (by repeat (first | (with_reducible first | exact HB.out | apply b_a | apply b_n | apply b_d | refine b_s ?_ GE187.out | refine b_s ?_ GE197.out | refine b_s ?_ GE204.out) | exact HB.out))) : w.heap.size ≤ gb211)); have n9_ := Aside0.mk ((by rw [hg]; exact (below_size (by repeat (first | (with_reducible first | exact HB.out | apply b_a | apply b_n | apply b_d | refine b_s ?_ GE187.out | refine b_s ?_ GE197.out | refine b_s ?_ GE204.out) | exact HB.out))) : w.heap.size ≤ gb211)); have n10_ := Aside0.mk ((by rw [hg]; exact Nat.ne_of_lt (blk_lt (g := gb187) (o := .cells #[.int .i64 a0_0, .int .i64 a0_1, .slice A0_2 l0_2.length c0_2] 30 (0, 0)) (by (with_reducible repeat (first | refine k_n ?_ _ | refine k_d ?_ | refine k_a ?_ _)); exact BK187.out)) : gb187 ≠ gb211)); have n11_ := Aside0.mk ((by rw [hg]; exact Nat.ne_of_gt (blk_lt (g := gb187) (o := .cells #[.int .i64 a0_0, .int .i64 a0_1, .slice A0_2 l0_2.length c0_2] 30 (0, 0)) (by (with_reducible repeat (first | refine k_n ?_ _ | refine k_d ?_ | refine k_a ?_ _)); exact BK187.out)) : gb211 ≠ gb187)); have n12_ := Aside0.mk ((by rw [hg]; exact Nat.ne_of_lt (blk_lt (g := gb197) (o := .cells #[.int .i64 t191, .int .i64 t192, .slice Ao27 t193.length co27] 30 (0, 0)) (by (with_reducible repeat (first | refine k_n ?_ _ | refine k_d ?_ | refine k_a ?_ _)); exact BK197.out)) : gb197 ≠ gb211)); have n13_ := Aside0.mk ((by rw [hg]; exact Nat.ne_of_gt (blk_lt (g := gb197) (o := .cells #[.int .i64 t191, .int .i64 t192, .slice Ao27 t193.length co27] 30 (0, 0)) (by (with_reducible repeat (first | refine k_n ?_ _ | refine k_d ?_ | refine k_a ?_ _)); exact BK197.out)) : gb211 ≠ gb197)); have n14_ := Aside0.mk ((by rw [hg]; exact Nat.ne_of_lt (blk_lt (g := gb204) (o := .cells #[.int .i64 t198, .int .i64 t199, .slice Ao34 t200.length co34] 30 (0, 0)) (by (with_reducible repeat (first | refine k_n ?_ _ | refine k_d ?_ | refine k_a ?_ _)); exact BK204.out)) : gb204 ≠ gb211)); have n15_ := Aside0.mk ((by rw [hg]; exact Nat.ne_of_gt (blk_lt (g := gb204) (o := .cells #[.int .i64 t198, .int .i64 t199, .slice Ao34 t200.length co34] 30 (0, 0)) (by (with_reducible repeat (first | refine k_n ?_ _ | refine k_d ?_ | refine k_a ?_ _)); exact BK204.out)) : gb211 ≠ gb204)); clear HO195; clear HO202; clear HO209; clear BK187; clear BK197; clear BK204; clear HB; have HO195 := n0_; have HO202 := n1_; have HO209 := n2_; have BK187 := n3_; have BK197 := n4_; have BK204 := n5_; have HB := n6_; have BK211 := n7_; have GW211 := n8_; have GE211 := n9_; have NB187_211 := n10_; have NB211_187 := n11_; have NB197_211 := n12_; have NB211_197 := n13_; have NB204_211 := n14_; have NB211_204 := n15_; clear n0_ n1_ n2_ n3_ n4_ n5_ n6_ n7_ n8_ n9_ n10_ n11_ n12_ n13_ n14_ n15_; clear hb hbox hg; have hnb38 := NB211_187.out; have hnc38 := NB187_211.out; have hnb39 := NB211_197.out; have hnc39 := NB197_211.out; have hnb40 := NB211_204.out; have hnc40 := NB204_211.out; have hcz41_0 : w37.cell? ⟨gb211, 0, none⟩ = some (.int .i64 0) := (blk_cell BK211.out 0).trans rfl; have hcz41_1 : w37.cell? ⟨gb211, 1, none⟩ = some (.int .i64 0) := (blk_cell BK211.out 1).trans rfl; have hcz41_2 : w37.cell? ⟨gb211, 2, none⟩ = some (.slice none 0 0) := (blk_cell BK211.out 2).trans rfl; have hfz41_0 := blk_frozen BK211.out 0; have hfz41_1 := blk_frozen BK211.out 1; have hfz41_2 := blk_frozen BK211.out 2; obtain ⟨Ao42, co42, eo42⟩ := Kd.R_slice HO209.out; subst eo42; have hcz43_0 : w37.cell? ⟨gb187, 0, none⟩ = some (.int .i64 a0_0) := (blk_cell BK187.out 0).trans rfl; have hcz43_1 : w37.cell? ⟨gb187, 1, none⟩ = some (.int .i64 a0_1) := (blk_cell BK187.out 1).trans rfl; have hcz43_2 : w37.cell? ⟨gb187, 2, none⟩ = some (.slice A0_2 l0_2.length c0_2) := (blk_cell BK187.out 2).trans rfl; have hfz43_0 := blk_frozen BK187.out 0; have hfz43_1 := blk_frozen BK187.out 1; have hfz43_2 := blk_frozen BK187.out 2) | ((with_reducible refine gate_callee (f := 13) rfl ?_); refine goesL_ (some 43) rfl rfl Try.func13 (by kernel_rfl) rfl #[.agg #[.int .i64 a0_0, .int .i64 a0_1, .slice A0_2 l0_2.length c0_2]] rfl (by (try simp only [l_4, l_5, l_6]); first | done | rfl | (simp only [l_7, l_8]; rfl)) ?_; (with_reducible refine (pelotonref04_Right.calls a0_0 a0_1 _ _ l0_2 true _ ?side1 ?side2 A19.out).mono ?_); (case side1 => exact Kd.C_below HR0_2.out (by repeat (first | (with_reducible first | exact HB.out | apply b_a | apply b_n | apply b_d | refine b_s ?_ GE187.out | refine b_s ?_ GE197.out | refine b_s ?_ GE204.out | refine b_s ?_ GE211.out) | exact HB.out))); (case side2 => exact HC0_2.out); rintro e w44 ⟨rfl, hb⟩; (try clear A19); refine ⟨_, rfl, ?_⟩; have n0_ := Aside0.mk (Kd.R_below (by (with_reducible repeat (first | apply Kd.R_alloc | apply Kd.R_drewN | apply Kd.R_drew)); exact (Kd.R_mono (Kd.R_far (p := ⟨gb211, 2, none⟩) (Kd.R_far (p := ⟨gb211, 1, none⟩) (Kd.R_far (p := ⟨gb211, 0, none⟩) (Kd.R_types HO195.out BK211.out (by decide)) (fun _ hk => hk.2) (.int .i64 t205)) (fun _ hk => hk.2) (.int .i64 t206)) (fun _ hk => hk.2) (.slice Ao42 t207.length co42)) (fun _ h_ => h_.1))) hb); have n1_ := Aside0.mk (Kd.R_below (by (with_reducible repeat (first | apply Kd.R_alloc | apply Kd.R_drewN | apply Kd.R_drew)); exact (Kd.R_mono (Kd.R_far (p := ⟨gb211, 2, none⟩) (Kd.R_far (p := ⟨gb211, 1, none⟩) (Kd.R_far (p := ⟨gb211, 0, none⟩) (Kd.R_types HO202.out BK211.out (by decide)) (fun _ hk => hk.2) (.int .i64 t205)) (fun _ hk => hk.2) (.int .i64 t206)) (fun _ hk => hk.2) (.slice Ao42 t207.length co42)) (fun _ h_ => h_.1))) hb); have n2_ := Aside0.mk (Kd.R_below (by (with_reducible repeat (first | apply Kd.R_alloc | apply Kd.R_drewN | apply Kd.R_drew)); exact (Kd.R_mono (Kd.R_far (p := ⟨gb211, 2, none⟩) (Kd.R_far (p := ⟨gb211, 1, none⟩) (Kd.R_far (p := ⟨gb211, 0, none⟩) (Kd.R_types HO209.out BK211.out (by decide)) (fun _ hk => hk.2) (.int .i64 t205)) (fun _ hk => hk.2) (.int .i64 t206)) (fun _ hk => hk.2) (.slice Ao42 t207.length co42)) (fun _ h_ => h_.1))) hb); have n3_ := Aside0.mk (blk_below (g := gb187) (o := .cells #[.int .i64 a0_0, .int .i64 a0_1, .slice A0_2 l0_2.length c0_2] 30 (0, 0)) (by (with_reducible repeat (first | refine k_n ?_ _ | refine k_d ?_ | refine k_a ?_ _)); refine blk_far ?_ NB187_211.out _; (with_reducible repeat (first | refine k_n ?_ _ | refine k_d ?_ | refine k_a ?_ _)); refine blk_far ?_ NB187_211.out _; (with_reducible repeat (first | refine k_n ?_ _ | refine k_d ?_ | refine k_a ?_ _)); refine blk_far ?_ NB187_211.out _; (with_reducible repeat (first | refine k_n ?_ _ | refine k_d ?_ | refine k_a ?_ _)); exact BK187.out) hb); have n4_ := Aside0.mk (blk_below (g := gb197) (o := .cells #[.int .i64 t191, .int .i64 t192, .slice Ao27 t193.length co27] 30 (0, 0)) (by (with_reducible repeat (first | refine k_n ?_ _ | refine k_d ?_ | refine k_a ?_ _)); refine blk_far ?_ NB197_211.out _; (with_reducible repeat (first | refine k_n ?_ _ | refine k_d ?_ | refine k_a ?_ _)); refine blk_far ?_ NB197_211.out _; (with_reducible repeat (first | refine k_n ?_ _ | refine k_d ?_ | refine k_a ?_ _)); refine blk_far ?_ NB197_211.out _; (with_reducible repeat (first | refine k_n ?_ _ | refine k_d ?_ | refine k_a ?_ _)); exact BK197.out) hb); have n5_ := Aside0.mk (blk_below (g := gb204) (o := .cells #[.int .i64 t198, .int .i64 t199, .slice Ao34 t200.length co34] 30 (0, 0)) (by (with_reducible repeat (first | refine k_n ?_ _ | refine k_d ?_ | refine k_a ?_ _)); refine blk_far ?_ NB204_211.out _; (with_reducible repeat (first | refine k_n ?_ _ | refine k_d ?_ | refine k_a ?_ _)); refine blk_far ?_ NB204_211.out _; (with_reducible repeat (first | refine k_n ?_ _ | refine k_d ?_ | refine k_a ?_ _)); refine blk_far ?_ NB204_211.out _; (with_reducible repeat (first | refine k_n ?_ _ | refine k_d ?_ | refine k_a ?_ _)); exact BK204.out) hb); have n6_ := Aside0.mk (blk_below (g := gb211) (o := .cells #[.int .i64 t205, .int .i64 t206, .slice Ao42 t207.length co42] 51 (0, 0)) (by (with_reducible repeat (first | refine k_n ?_ _ | refine k_d ?_ | refine k_a ?_ _)); refine blk_put (cs := #[.int .i64 t205, .int .i64 t206, .slice none 0 0]) ?_ 2 _ rfl; (with_reducible repeat (first | refine k_n ?_ _ | refine k_d ?_ | refine k_a ?_ _)); refine blk_put (cs := #[.int .i64 t205, .int .i64 0, .slice none 0 0]) ?_ 1 _ rfl; (with_reducible repeat (first | refine k_n ?_ _ | refine k_d ?_ | refine k_a ?_ _)); refine blk_put (cs := #[.int .i64 0, .int .i64 0, .slice none 0 0]) ?_ 0 _ rfl; (with_reducible repeat (first | refine k_n ?_ _ | refine k_d ?_ | refine k_a ?_ _)); exact BK211.out) hb); have n7_ := Aside0.mk (below_step (by repeat (first | (with_reducible first | exact HB.out | apply b_a | apply b_n | apply b_d | refine b_s ?_ GE187.out | refine b_s ?_ GE197.out | refine b_s ?_ GE204.out | refine b_s ?_ GE211.out) | exact HB.out)) hb); clear HO195; clear HO202; clear HO209; clear BK187; clear BK197; clear BK204; clear BK211; clear HB; have HO195 := n0_; have HO202 := n1_; have HO209 := n2_; have BK187 := n3_; have BK197 := n4_; have BK204 := n5_; have BK211 := n6_; have HB := n7_; clear n0_ n1_ n2_ n3_ n4_ n5_ n6_ n7_; (try clear hb); (try clear hb2); (try clear hk); (try clear hi)))
   (try simp only [Act.put, l_1, l_2, l_3])
   go_cut [89] (fun v89 wc => ∃ (kq : Nat) (x89_20 : Bool), v89 = .bool x89_20 ∧ Aside0 (pelotonlaw04_MatmulCuts.j2 kq a1 a2 t196 t203 x89_20 a0_0 a0_1 l0_2 t191 t192 t193 t198 t199 t200 t205 t206 t207 = some r) ∧ Aside0 (kq ≤ kj3) ∧ Aside0 (Kd.R (Kd.int .i8) 35 wc w.heap.size (fun k_ => some k_ ≠ ((.slice Ao34 t200.length co34) : Value).ownBlock) (.slice Ao27 t193.length co27) t193) ∧ Aside0 (Kd.R (Kd.int .i8) 35 wc w.heap.size (fun k_ => some k_ ≠ ((.slice Ao27 t193.length co27) : Value).ownBlock) (.slice Ao34 t200.length co34) t200) ∧ Aside0 (Kd.R (Kd.int .i32) 21 wc w.heap.size (fun _ => True) (.slice Ao42 t207.length co42) t207) ∧ Aside0 (wc.heap[gb187]? = some (.cells #[.int .i64 a0_0, .int .i64 a0_1, (.slice A0_2 l0_2.length c0_2)] 30 (0, 0))) ∧ Aside0 (wc.heap[gb197]? = some (.cells #[.int .i64 t191, .int .i64 t192, (.slice Ao27 t193.length co27)] 30 (0, 0))) ∧ Aside0 (wc.heap[gb204]? = some (.cells #[.int .i64 t198, .int .i64 t199, (.slice Ao34 t200.length co34)] 30 (0, 0))) ∧ Aside0 (wc.heap[gb211]? = some (.cells #[.int .i64 t205, .int .i64 t206, (.slice Ao42 t207.length co42)] 51 (0, 0))) ∧ Aside0 (Below w.heap.size w wc))
   case first =>
    have H := HC21.out
    clear HC21
    by_cases c45 : t210 = 0
    rotate_left
    ·
     rw [if_neg c45] at H
     have c45b0 : (t210 == 0) = false := beq_eq_false_iff_ne.mpr c45
     have c45b1 : (t210 != 0) = true := bne_iff_ne.mpr c45
     (first | rw [c45b0] | (simp only [i64_w, i32_w]; rw [c45b0]) | skip)
     have H' := Aside0.mk H
     clear H
     go_wp2
     go_meet
     case rel => exact ⟨_, (true), (by first | rfl | (simp; done) | (simp [*]; done)), H', ⟨by have := HJ3.out; first | omega | exact Nat.le_refl _⟩, ⟨by (with_reducible repeat (first | apply Kd.R_alloc | apply Kd.R_drewN | apply Kd.R_drew)); exact Kd.R_mono HO195.out (fun _ hk => hk.2)⟩, ⟨by (with_reducible repeat (first | apply Kd.R_alloc | apply Kd.R_drewN | apply Kd.R_drew)); exact Kd.R_mono HO202.out (fun _ hk => hk.2)⟩, ⟨by (with_reducible repeat (first | apply Kd.R_alloc | apply Kd.R_drewN | apply Kd.R_drew)); exact HO209.out⟩, ⟨by (with_reducible repeat (first | refine k_n ?_ _ | refine k_d ?_ | refine k_a ?_ _)); exact BK187.out⟩, ⟨by (with_reducible repeat (first | refine k_n ?_ _ | refine k_d ?_ | refine k_a ?_ _)); exact BK197.out⟩, ⟨by (with_reducible repeat (first | refine k_n ?_ _ | refine k_d ?_ | refine k_a ?_ _)); exact BK204.out⟩, ⟨by (with_reducible repeat (first | refine k_n ?_ _ | refine k_d ?_ | refine k_a ?_ _)); exact BK211.out⟩, ⟨by repeat (first | (with_reducible first | exact HB.out | apply b_a | apply b_n | apply b_d | refine b_s ?_ GE187.out | refine b_s ?_ GE197.out | refine b_s ?_ GE204.out | refine b_s ?_ GE211.out) | exact HB.out)⟩⟩
    rw [if_pos c45] at H
    have c45b0 : (t210 == 0) = true := beq_iff_eq.mpr c45
    have c45b1 : (t210 != 0) = false := bne_eq_false_iff_eq.mpr c45
    clear c45
    (first | rw [c45b0] | (simp only [i64_w, i32_w]; rw [c45b0]) | skip)
    by_cases c46 : t205 = a0_0
    rotate_left
    ·
     rw [if_neg c46] at H
     have c46b0 : (t205 == a0_0) = false := beq_eq_false_iff_ne.mpr c46
     have c46b1 : (t205 != a0_0) = true := bne_iff_ne.mpr c46
     have H' := Aside0.mk H
     clear H
     have hnb62 := NB211_187.out
     have hnc62 := NB187_211.out
     have hnb63 := NB211_197.out
     have hnc63 := NB197_211.out
     have hnb64 := NB211_204.out
     have hnc64 := NB204_211.out
     have hcz65_0 : w44.cell? ⟨gb211, 0, none⟩ = some (.int .i64 t205) := (blk_cell BK211.out 0).trans rfl
     have hcz65_1 : w44.cell? ⟨gb211, 1, none⟩ = some (.int .i64 t206) := (blk_cell BK211.out 1).trans rfl
     have hcz65_2 : w44.cell? ⟨gb211, 2, none⟩ = some (.slice Ao42 t207.length co42) := (blk_cell BK211.out 2).trans rfl
     have hfz65_0 := blk_frozen BK211.out 0
     have hfz65_1 := blk_frozen BK211.out 1
     have hfz65_2 := blk_frozen BK211.out 2
     have hnb66 := NB187_197.out
     have hnc66 := NB197_187.out
     have hnb67 := NB187_204.out
     have hnc67 := NB204_187.out
     have hcz68_0 : w44.cell? ⟨gb187, 0, none⟩ = some (.int .i64 a0_0) := (blk_cell BK187.out 0).trans rfl
     have hcz68_1 : w44.cell? ⟨gb187, 1, none⟩ = some (.int .i64 a0_1) := (blk_cell BK187.out 1).trans rfl
     have hcz68_2 : w44.cell? ⟨gb187, 2, none⟩ = some (.slice A0_2 l0_2.length c0_2) := (blk_cell BK187.out 2).trans rfl
     have hfz68_0 := blk_frozen BK187.out 0
     have hfz68_1 := blk_frozen BK187.out 1
     have hfz68_2 := blk_frozen BK187.out 2
     go_wp2
     go_meet
     case rel => exact ⟨_, (true), (by first | rfl | (simp; done) | (simp [*]; done)), H', ⟨by have := HJ3.out; first | omega | exact Nat.le_refl _⟩, ⟨by (with_reducible repeat (first | apply Kd.R_alloc | apply Kd.R_drewN | apply Kd.R_drew)); exact Kd.R_mono HO195.out (fun _ hk => hk.2)⟩, ⟨by (with_reducible repeat (first | apply Kd.R_alloc | apply Kd.R_drewN | apply Kd.R_drew)); exact Kd.R_mono HO202.out (fun _ hk => hk.2)⟩, ⟨by (with_reducible repeat (first | apply Kd.R_alloc | apply Kd.R_drewN | apply Kd.R_drew)); exact HO209.out⟩, ⟨by (with_reducible repeat (first | refine k_n ?_ _ | refine k_d ?_ | refine k_a ?_ _)); exact BK187.out⟩, ⟨by (with_reducible repeat (first | refine k_n ?_ _ | refine k_d ?_ | refine k_a ?_ _)); exact BK197.out⟩, ⟨by (with_reducible repeat (first | refine k_n ?_ _ | refine k_d ?_ | refine k_a ?_ _)); exact BK204.out⟩, ⟨by (with_reducible repeat (first | refine k_n ?_ _ | refine k_d ?_ | refine k_a ?_ _)); exact BK211.out⟩, ⟨by repeat (first | (with_reducible first | exact HB.out | apply b_a | apply b_n | apply b_d | refine b_s ?_ GE187.out | refine b_s ?_ GE197.out | refine b_s ?_ GE204.out | refine b_s ?_ GE211.out) | exact HB.out)⟩⟩
    rw [if_pos c46] at H
    have c46b0 : (t205 == a0_0) = true := beq_iff_eq.mpr c46
    have c46b1 : (t205 != a0_0) = false := bne_eq_false_iff_eq.mpr c46
    clear c46
    by_cases c47 : t206 = a0_1
    rotate_left
    ·
     rw [if_neg c47] at H
     have c47b0 : (t206 == a0_1) = false := beq_eq_false_iff_ne.mpr c47
     have c47b1 : (t206 != a0_1) = true := bne_iff_ne.mpr c47
     have H' := Aside0.mk H
     clear H
     have hnb55 := NB211_187.out
     have hnc55 := NB187_211.out
     have hnb56 := NB211_197.out
     have hnc56 := NB197_211.out
     have hnb57 := NB211_204.out
     have hnc57 := NB204_211.out
     have hcz58_0 : w44.cell? ⟨gb211, 0, none⟩ = some (.int .i64 t205) := (blk_cell BK211.out 0).trans rfl
     have hcz58_1 : w44.cell? ⟨gb211, 1, none⟩ = some (.int .i64 t206) := (blk_cell BK211.out 1).trans rfl
     have hcz58_2 : w44.cell? ⟨gb211, 2, none⟩ = some (.slice Ao42 t207.length co42) := (blk_cell BK211.out 2).trans rfl
     have hfz58_0 := blk_frozen BK211.out 0
     have hfz58_1 := blk_frozen BK211.out 1
     have hfz58_2 := blk_frozen BK211.out 2
     have hnb59 := NB187_197.out
     have hnc59 := NB197_187.out
     have hnb60 := NB187_204.out
     have hnc60 := NB204_187.out
     have hcz61_0 : w44.cell? ⟨gb187, 0, none⟩ = some (.int .i64 a0_0) := (blk_cell BK187.out 0).trans rfl
     have hcz61_1 : w44.cell? ⟨gb187, 1, none⟩ = some (.int .i64 a0_1) := (blk_cell BK187.out 1).trans rfl
     have hcz61_2 : w44.cell? ⟨gb187, 2, none⟩ = some (.slice A0_2 l0_2.length c0_2) := (blk_cell BK187.out 2).trans rfl
     have hfz61_0 := blk_frozen BK187.out 0
     have hfz61_1 := blk_frozen BK187.out 1
     have hfz61_2 := blk_frozen BK187.out 2
     go_wp2
     go_meet
     case rel => exact ⟨_, (true), (by first | rfl | (simp; done) | (simp [*]; done)), H', ⟨by have := HJ3.out; first | omega | exact Nat.le_refl _⟩, ⟨by (with_reducible repeat (first | apply Kd.R_alloc | apply Kd.R_drewN | apply Kd.R_drew)); exact Kd.R_mono HO195.out (fun _ hk => hk.2)⟩, ⟨by (with_reducible repeat (first | apply Kd.R_alloc | apply Kd.R_drewN | apply Kd.R_drew)); exact Kd.R_mono HO202.out (fun _ hk => hk.2)⟩, ⟨by (with_reducible repeat (first | apply Kd.R_alloc | apply Kd.R_drewN | apply Kd.R_drew)); exact HO209.out⟩, ⟨by (with_reducible repeat (first | refine k_n ?_ _ | refine k_d ?_ | refine k_a ?_ _)); exact BK187.out⟩, ⟨by (with_reducible repeat (first | refine k_n ?_ _ | refine k_d ?_ | refine k_a ?_ _)); exact BK197.out⟩, ⟨by (with_reducible repeat (first | refine k_n ?_ _ | refine k_d ?_ | refine k_a ?_ _)); exact BK204.out⟩, ⟨by (with_reducible repeat (first | refine k_n ?_ _ | refine k_d ?_ | refine k_a ?_ _)); exact BK211.out⟩, ⟨by repeat (first | (with_reducible first | exact HB.out | apply b_a | apply b_n | apply b_d | refine b_s ?_ GE187.out | refine b_s ?_ GE197.out | refine b_s ?_ GE204.out | refine b_s ?_ GE211.out) | exact HB.out)⟩⟩
    rw [if_pos c47] at H
    have c47b0 : (t206 == a0_1) = true := beq_iff_eq.mpr c47
    have c47b1 : (t206 != a0_1) = false := bne_eq_false_iff_eq.mpr c47
    clear c47
    have H' := Aside0.mk H
    clear H
    have hnb48 := NB211_187.out
    have hnc48 := NB187_211.out
    have hnb49 := NB211_197.out
    have hnc49 := NB197_211.out
    have hnb50 := NB211_204.out
    have hnc50 := NB204_211.out
    have hcz51_0 : w44.cell? ⟨gb211, 0, none⟩ = some (.int .i64 t205) := (blk_cell BK211.out 0).trans rfl
    have hcz51_1 : w44.cell? ⟨gb211, 1, none⟩ = some (.int .i64 t206) := (blk_cell BK211.out 1).trans rfl
    have hcz51_2 : w44.cell? ⟨gb211, 2, none⟩ = some (.slice Ao42 t207.length co42) := (blk_cell BK211.out 2).trans rfl
    have hfz51_0 := blk_frozen BK211.out 0
    have hfz51_1 := blk_frozen BK211.out 1
    have hfz51_2 := blk_frozen BK211.out 2
    have hnb52 := NB187_197.out
    have hnc52 := NB197_187.out
    have hnb53 := NB187_204.out
    have hnc53 := NB204_187.out
    have hcz54_0 : w44.cell? ⟨gb187, 0, none⟩ = some (.int .i64 a0_0) := (blk_cell BK187.out 0).trans rfl
    have hcz54_1 : w44.cell? ⟨gb187, 1, none⟩ = some (.int .i64 a0_1) := (blk_cell BK187.out 1).trans rfl
    have hcz54_2 : w44.cell? ⟨gb187, 2, none⟩ = some (.slice A0_2 l0_2.length c0_2) := (blk_cell BK187.out 2).trans rfl
    have hfz54_0 := blk_frozen BK187.out 0
    have hfz54_1 := blk_frozen BK187.out 1
    have hfz54_2 := blk_frozen BK187.out 2
    go_wp2
    go_meet
    case rel => exact ⟨_, (((t207.length : Int) != (l0_2.length : Int))), (by first | rfl | (simp; done) | (simp [*]; done)), H', ⟨by have := HJ3.out; first | omega | exact Nat.le_refl _⟩, ⟨by (with_reducible repeat (first | apply Kd.R_alloc | apply Kd.R_drewN | apply Kd.R_drew)); exact Kd.R_mono HO195.out (fun _ hk => hk.2)⟩, ⟨by (with_reducible repeat (first | apply Kd.R_alloc | apply Kd.R_drewN | apply Kd.R_drew)); exact Kd.R_mono HO202.out (fun _ hk => hk.2)⟩, ⟨by (with_reducible repeat (first | apply Kd.R_alloc | apply Kd.R_drewN | apply Kd.R_drew)); exact HO209.out⟩, ⟨by (with_reducible repeat (first | refine k_n ?_ _ | refine k_d ?_ | refine k_a ?_ _)); exact BK187.out⟩, ⟨by (with_reducible repeat (first | refine k_n ?_ _ | refine k_d ?_ | refine k_a ?_ _)); exact BK197.out⟩, ⟨by (with_reducible repeat (first | refine k_n ?_ _ | refine k_d ?_ | refine k_a ?_ _)); exact BK204.out⟩, ⟨by (with_reducible repeat (first | refine k_n ?_ _ | refine k_d ?_ | refine k_a ?_ _)); exact BK211.out⟩, ⟨by repeat (first | (with_reducible first | exact HB.out | apply b_a | apply b_n | apply b_d | refine b_s ?_ GE187.out | refine b_s ?_ GE197.out | refine b_s ?_ GE204.out | refine b_s ?_ GE211.out) | exact HB.out)⟩⟩
   case rest => as_aux_lemma =>
    clear HC21
    try clear c1
    try clear c2
    try clear p2
    try clear c3
    try clear c4
    try clear c5
    try clear c6
    try clear c7
    try clear c8
    try clear c10
    try clear c13
    try clear c20
    try clear c21
    try clear c25
    try clear c26
    try clear c31
    try clear c32
    try clear c38
    try clear c39
    try clear c40
    try clear c45
    try clear c45b0
    try clear c45b1
    try clear c46
    try clear c46b0
    try clear c46b1
    try clear c47
    try clear c47b0
    try clear c47b1
    try clear c48
    try clear c49
    try clear c50
    try clear c52
    try clear c53
    try clear c55
    try clear c56
    try clear c57
    try clear c59
    try clear c60
    try clear c62
    try clear c63
    try clear c64
    try clear c66
    try clear c67
    try clear hcz10_0
    try clear hcz10_1
    try clear hcz10_2
    try clear hcz22_0
    try clear hcz22_1
    try clear hcz22_2
    try clear hcz26_0
    try clear hcz26_1
    try clear hcz26_2
    try clear hcz28_0
    try clear hcz28_1
    try clear hcz28_2
    try clear hcz33_0
    try clear hcz33_1
    try clear hcz33_2
    try clear hcz35_0
    try clear hcz35_1
    try clear hcz35_2
    try clear hcz41_0
    try clear hcz41_1
    try clear hcz41_2
    try clear hcz43_0
    try clear hcz43_1
    try clear hcz43_2
    try clear hcz51_0
    try clear hcz51_1
    try clear hcz51_2
    try clear hcz54_0
    try clear hcz54_1
    try clear hcz54_2
    try clear hcz58_0
    try clear hcz58_1
    try clear hcz58_2
    try clear hcz61_0
    try clear hcz61_1
    try clear hcz61_2
    try clear hcz65_0
    try clear hcz65_1
    try clear hcz65_2
    try clear hcz68_0
    try clear hcz68_1
    try clear hcz68_2
    try clear hfz10_0
    try clear hfz10_1
    try clear hfz10_2
    try clear hfz22_0
    try clear hfz22_1
    try clear hfz22_2
    try clear hfz26_0
    try clear hfz26_1
    try clear hfz26_2
    try clear hfz28_0
    try clear hfz28_1
    try clear hfz28_2
    try clear hfz33_0
    try clear hfz33_1
    try clear hfz33_2
    try clear hfz35_0
    try clear hfz35_1
    try clear hfz35_2
    try clear hfz41_0
    try clear hfz41_1
    try clear hfz41_2
    try clear hfz43_0
    try clear hfz43_1
    try clear hfz43_2
    try clear hfz51_0
    try clear hfz51_1
    try clear hfz51_2
    try clear hfz54_0
    try clear hfz54_1
    try clear hfz54_2
    try clear hfz58_0
    try clear hfz58_1
    try clear hfz58_2
    try clear hfz61_0
    try clear hfz61_1
    try clear hfz61_2
    try clear hfz65_0
    try clear hfz65_1
    try clear hfz65_2
    try clear hfz68_0
    try clear hfz68_1
    try clear hfz68_2
    try clear p2
    obtain ⟨kq, x89_20, rfl, HA, HJ20, HO_198002, HO_205002, HO_212002, BK187, BK197, BK204, BK211, HB⟩ := hcut
    cases kq with
    | zero => exact absurd HA.out (by simp [pelotonlaw04_MatmulCuts.j2])
    | succ kj20 =>
     have H := HA.out
     clear HA
     simp only [pelotonlaw04_MatmulCuts.j2] at H
     by_cases c69 : x89_20 = true
     ·
      subst c69
      have H1 : (some false) = some r := by rw [if_pos rfl] at H; exact H
      clear H
      have H := H1
      clear H1
      obtain rfl := Option.some.inj H
      go_wp2
      go_ret
      exact ⟨by first | rfl | (simp [errW_none, errW_some] <;> rfl) | (simp [*, errW_none, errW_some] <;> rfl), by repeat (first | (with_reducible first | exact HB.out | apply b_a | apply b_n | apply b_d | refine b_s ?_ GE187.out | refine b_s ?_ GE197.out | refine b_s ?_ GE204.out | refine b_s ?_ GE211.out) | exact HB.out)⟩
     replace c69 := Bool.eq_false_iff.mpr c69
     subst c69
     have H1 : (pelotonlaw04_MatmulCuts.l0 kj20 a1 a2 t196 t203 0 a0_0 a0_1 l0_2 t191 t192 t193 t198 t199 t200 t205 t206 t207) = some r := by rw [if_neg (show ¬ (false = true) by decide)] at H; exact H
     clear H
     have H := H1
     clear H1
     have H' := Aside0.mk H
     clear H
     go_wp2
     go_loopg [13] kj20 (fun kq v13 w' => ∃ (x13_3 : Int), v13 = .int .i64 x13_3 ∧ Aside0 (pelotonlaw04_MatmulCuts.l0 kq a1 a2 t196 t203 x13_3 a0_0 a0_1 l0_2 t191 t192 t193 t198 t199 t200 t205 t206 t207 = some r) ∧ Aside0 (kq ≤ kj20) ∧ Aside0 (Kd.R (Kd.int .i8) 35 w' w.heap.size (fun k_ => some k_ ≠ ((.slice Ao34 t200.length co34) : Value).ownBlock) (.slice Ao27 t193.length co27) t193) ∧ Aside0 (Kd.R (Kd.int .i8) 35 w' w.heap.size (fun k_ => some k_ ≠ ((.slice Ao27 t193.length co27) : Value).ownBlock) (.slice Ao34 t200.length co34) t200) ∧ Aside0 (Kd.R (Kd.int .i32) 21 w' w.heap.size (fun _ => True) (.slice Ao42 t207.length co42) t207) ∧ Aside0 (w'.heap[gb187]? = some (.cells #[.int .i64 a0_0, .int .i64 a0_1, (.slice A0_2 l0_2.length c0_2)] 30 (0, 0))) ∧ Aside0 (w'.heap[gb197]? = some (.cells #[.int .i64 t191, .int .i64 t192, (.slice Ao27 t193.length co27)] 30 (0, 0))) ∧ Aside0 (w'.heap[gb204]? = some (.cells #[.int .i64 t198, .int .i64 t199, (.slice Ao34 t200.length co34)] 30 (0, 0))) ∧ Aside0 (w'.heap[gb211]? = some (.cells #[.int .i64 t205, .int .i64 t206, (.slice Ao42 t207.length co42)] 51 (0, 0))) ∧ Aside0 (Below w.heap.size w w'))
     case atStart => exact ⟨(0), (by first | rfl | (simp; done) | (simp [*]; done)), H', ⟨Nat.le_refl _⟩, ⟨by (with_reducible repeat (first | apply Kd.R_alloc | apply Kd.R_drewN | apply Kd.R_drew)); exact HO_198002.out⟩, ⟨by (with_reducible repeat (first | apply Kd.R_alloc | apply Kd.R_drewN | apply Kd.R_drew)); exact HO_205002.out⟩, ⟨by (with_reducible repeat (first | apply Kd.R_alloc | apply Kd.R_drewN | apply Kd.R_drew)); exact HO_212002.out⟩, ⟨by (with_reducible repeat (first | refine k_n ?_ _ | refine k_d ?_ | refine k_a ?_ _)); exact BK187.out⟩, ⟨by (with_reducible repeat (first | refine k_n ?_ _ | refine k_d ?_ | refine k_a ?_ _)); exact BK197.out⟩, ⟨by (with_reducible repeat (first | refine k_n ?_ _ | refine k_d ?_ | refine k_a ?_ _)); exact BK204.out⟩, ⟨by (with_reducible repeat (first | refine k_n ?_ _ | refine k_d ?_ | refine k_a ?_ _)); exact BK211.out⟩, ⟨by repeat (first | (with_reducible first | exact HB.out | apply b_a | apply b_n | apply b_d | refine b_s ?_ GE187.out | refine b_s ?_ GE197.out | refine b_s ?_ GE204.out | refine b_s ?_ GE211.out) | exact HB.out)⟩⟩
     case round =>
      clear H'
      try clear c1
      try clear c2
      try clear p2
      try clear c3
      try clear c4
      try clear c5
      try clear c6
      try clear c7
      try clear c8
      try clear c10
      try clear c13
      try clear c20
      try clear c21
      try clear c25
      try clear c26
      try clear c31
      try clear c32
      try clear c38
      try clear c39
      try clear c40
      try clear c45
      try clear c45b0
      try clear c45b1
      try clear c46
      try clear c46b0
      try clear c46b1
      try clear c47
      try clear c47b0
      try clear c47b1
      try clear c48
      try clear c49
      try clear c50
      try clear c52
      try clear c53
      try clear c55
      try clear c56
      try clear c57
      try clear c59
      try clear c60
      try clear c62
      try clear c63
      try clear c64
      try clear c66
      try clear c67
      try clear c69
      try clear hcz10_0
      try clear hcz10_1
      try clear hcz10_2
      try clear hcz22_0
      try clear hcz22_1
      try clear hcz22_2
      try clear hcz26_0
      try clear hcz26_1
      try clear hcz26_2
      try clear hcz28_0
      try clear hcz28_1
      try clear hcz28_2
      try clear hcz33_0
      try clear hcz33_1
      try clear hcz33_2
      try clear hcz35_0
      try clear hcz35_1
      try clear hcz35_2
      try clear hcz41_0
      try clear hcz41_1
      try clear hcz41_2
      try clear hcz43_0
      try clear hcz43_1
      try clear hcz43_2
      try clear hcz51_0
      try clear hcz51_1
      try clear hcz51_2
      try clear hcz54_0
      try clear hcz54_1
      try clear hcz54_2
      try clear hcz58_0
      try clear hcz58_1
      try clear hcz58_2
      try clear hcz61_0
      try clear hcz61_1
      try clear hcz61_2
      try clear hcz65_0
      try clear hcz65_1
      try clear hcz65_2
      try clear hcz68_0
      try clear hcz68_1
      try clear hcz68_2
      try clear hfz10_0
      try clear hfz10_1
      try clear hfz10_2
      try clear hfz22_0
      try clear hfz22_1
      try clear hfz22_2
      try clear hfz26_0
      try clear hfz26_1
      try clear hfz26_2
      try clear hfz28_0
      try clear hfz28_1
      try clear hfz28_2
      try clear hfz33_0
      try clear hfz33_1
      try clear hfz33_2
      try clear hfz35_0
      try clear hfz35_1
      try clear hfz35_2
      try clear hfz41_0
      try clear hfz41_1
      try clear hfz41_2
      try clear hfz43_0
      try clear hfz43_1
      try clear hfz43_2
      try clear hfz51_0
      try clear hfz51_1
      try clear hfz51_2
      try clear hfz54_0
      try clear hfz54_1
      try clear hfz54_2
      try clear hfz58_0
      try clear hfz58_1
      try clear hfz58_2
      try clear hfz61_0
      try clear hfz61_1
      try clear hfz61_2
      try clear hfz65_0
      try clear hfz65_1
      try clear hfz65_2
      try clear hfz68_0
      try clear hfz68_1
      try clear hfz68_2
      try clear p2
      obtain ⟨x13_3, rfl, HA, HK3, HO_198002, HO_205002, HO_212002, BK187, BK197, BK204, BK211, HB⟩ := hrel
      cases gk with
      | zero => exact absurd HA.out (by simp [pelotonlaw04_MatmulCuts.l0])
      | succ k3 =>
       have H := HA.out
       clear HA
       simp only [pelotonlaw04_MatmulCuts.l0] at H
       by_cases c70 : x13_3 < (t207.length : Int)
       ·
        rw [if_pos c70] at H
        have c70b0 : decide (x13_3 < (t207.length : Int)) = true := decide_eq_true c70
        clear c70
        by_cases c71 : 0 ≤ x13_3
        rotate_left
        ·
         rw [if_neg c71] at H
         exact absurd H (by simp)
        rw [if_pos c71] at H
        have c71b0 : decide (0 ≤ x13_3) = true := decide_eq_true c71
        clear c71
        by_cases c72 : x13_3 < (l0_2.length : Int)
        rotate_left
        ·
         rw [if_neg c72] at H
         exact absurd H (by simp)
        rw [if_pos c72] at H
        have c72b0 : decide (x13_3 < (l0_2.length : Int)) = true := decide_eq_true c72
        clear c72
        by_cases c73 : (rd t207 x13_3) = (wrap32 (rd l0_2 x13_3))
        rotate_left
        ·
         rw [if_neg c73] at H
         have c73b0 : ((rd t207 x13_3) == (wrap32 (rd l0_2 x13_3))) = false := beq_eq_false_iff_ne.mpr c73
         have c73b1 : ((rd t207 x13_3) != (wrap32 (rd l0_2 x13_3))) = true := bne_iff_ne.mpr c73
         obtain rfl := Option.some.inj H
         have hnb79 := NB211_187.out
         have hnc79 := NB187_211.out
         have hnb80 := NB211_197.out
         have hnc80 := NB197_211.out
         have hnb81 := NB211_204.out
         have hnc81 := NB204_211.out
         have hcz82_0 : wr.cell? ⟨gb211, 0, none⟩ = some (.int .i64 t205) := (blk_cell BK211.out 0).trans rfl
         have hcz82_1 : wr.cell? ⟨gb211, 1, none⟩ = some (.int .i64 t206) := (blk_cell BK211.out 1).trans rfl
         have hcz82_2 : wr.cell? ⟨gb211, 2, none⟩ = some (.slice Ao42 t207.length co42) := (blk_cell BK211.out 2).trans rfl
         have hfz82_0 := blk_frozen BK211.out 0
         have hfz82_1 := blk_frozen BK211.out 1
         have hfz82_2 := blk_frozen BK211.out 2
         try go_wp2
         have n0_ := Aside0.mk (Kd.R_drew HO_198002.out)
         have n1_ := Aside0.mk (Kd.R_drew HO_205002.out)
         have n2_ := Aside0.mk (Kd.R_drew HO_212002.out)
         have n3_ := Aside0.mk (k_d BK187.out)
         have n4_ := Aside0.mk (k_d BK197.out)
         have n5_ := Aside0.mk (k_d BK204.out)
         have n6_ := Aside0.mk (k_d BK211.out)
         have n7_ := Aside0.mk (b_d HB.out)
         clear HO_198002
         clear HO_205002
         clear HO_212002
         clear BK187
         clear BK197
         clear BK204
         clear BK211
         clear HB
         have HO_198002 := n0_
         have HO_205002 := n1_
         have HO_212002 := n2_
         have BK187 := n3_
         have BK197 := n4_
         have BK204 := n5_
         have BK211 := n6_
         have HB := n7_
         clear n0_ n1_ n2_ n3_ n4_ n5_ n6_ n7_
         have p215 : 0 ≤ (x13_3 : Int) := of_decide_eq_true (by first | (with_reducible assumption) | assumption)
         have q215 : x13_3 < (t207.length : Int) := of_decide_eq_true (by first | (with_reducible assumption) | assumption)
         obtain ⟨ad215, e215, hx215_0⟩ := Kd.at_int (Kd.R_reads' HO_212002.out).2.2 x13_3 p215 q215
         cases e215
         replace p215 := eq_true p215
         replace q215 := eq_true q215
         have p216 : 0 ≤ (x13_3 : Int) := of_decide_eq_true (by first | (with_reducible assumption) | assumption)
         have q216 : x13_3 < (l0_2.length : Int) := of_decide_eq_true (by first | (with_reducible assumption) | assumption)
         obtain ⟨ad216, e216, hx216_0⟩ := Kd.at_int HR0_2.out x13_3 p216 q216
         have hw216_0 := hx216_0
         cases e216
         replace hx216_0 := (HB.out.cell (World.block_lt_of_cell? w _ hx216_0)).trans hx216_0
         replace p216 := eq_true p216
         replace q216 := eq_true q216
         refine start_ (n := 12) (S := fun w' => w'.cell? ⟨gb211, 0, none⟩ = some (.int .i64 t205) ∧ w'.cell? ⟨gb211, 1, none⟩ = some (.int .i64 t206) ∧ w'.cell? ⟨gb211, 2, none⟩ = some (.slice (some ad215) t207.length co42) ∧ w'.cell? ⟨gb187, 0, none⟩ = some (.int .i64 a0_0) ∧ w'.cell? ⟨gb187, 1, none⟩ = some (.int .i64 a0_1) ∧ w'.cell? ⟨gb187, 2, none⟩ = some (.slice (some ad216) l0_2.length c0_2) ∧ w'.cell? (ad215.add (x13_3).toNat) = some (.int .i32 (rd t207 x13_3)) ∧ w'.cell? (ad216.add (x13_3).toNat) = some (.int .i8 (rd l0_2 x13_3))) (ds := []) #[false, false, false, false, false, false, false, false, false, false, false, false] (by kernel_rfl) rfl rfl ⟨(blk_cell BK211.out 0).trans rfl, (blk_cell BK211.out 1).trans rfl, (blk_cell BK211.out 2).trans rfl, (blk_cell BK187.out 0).trans rfl, (blk_cell BK187.out 1).trans rfl, (blk_cell BK187.out 2).trans rfl, hx215_0, ((HB.out.cell (World.block_lt_of_cell? w _ hw216_0)).trans hw216_0)⟩ (fun hHeld => ?_); refine with_tabW pelotonlaw04_MatmulCuts.tab13 pelotonlaw04_MatmulCuts.bits13 (fun HT_ HW_ => ?_)
         generalize wr.drew = w83 at HO_198002 HO_205002 HO_212002 BK187 BK197 BK204 BK211 HB hx215_0 hx216_0 hHeld ⊢
         refine pure_ (i := 0) (N := some 97) (v := ?_) (a' := ?_) #[true, false, false, false, false, false, false, false, false, false, false, false] rfl rfl (any_of HT_.out (by kernel_rfl)) (fun _ _ _ h => h) (Or.inl ⟨by rfl, ?_⟩) ?_ ?_
         rotate_left
         ·
          intro w'
          go_simp
          with_reducible rfl
         rotate_left
         ·
          simp only [Act.put, l_1, l_2, l_3, i64_w, i32_w]
          rfl
         refine pure_ (i := 2) (N := some 99) (v := ?_) (a' := ?_) #[true, false, true, false, false, false, false, false, false, false, false, false] rfl rfl (any_of HT_.out (by kernel_rfl)) (fun _ _ _ h => h) (Or.inl ⟨by rfl, ?_⟩) ?_ ?_
         rotate_left
         ·
          intro w'
          go_simp
          with_reducible rfl
         rotate_left
         ·
          simp only [Act.put, l_1, l_2, l_3, i64_w, i32_w]
          rfl
         refine pure_ (i := 5) (N := some 102) (v := ?_) (a' := ?_) #[true, false, true, false, false, true, false, false, false, false, false, false] rfl rfl (any_of HT_.out (by kernel_rfl)) (fun _ _ _ h => h) (Or.inl ⟨by rfl, ?_⟩) ?_ ?_
         rotate_left
         ·
          intro w'
          go_simp
          with_reducible rfl
         rotate_left
         ·
          simp only [Act.put, l_1, l_2, l_3, i64_w, i32_w]
          rfl
         refine pure_ (i := 7) (N := some 104) (v := ?_) (a' := ?_) #[true, false, true, false, false, true, false, true, false, false, false, false] rfl rfl (any_of HT_.out (by kernel_rfl)) (fun _ _ _ h => h) (Or.inl ⟨by rfl, ?_⟩) ?_ ?_
         rotate_left
         ·
          intro w'
          go_simp
          with_reducible rfl
         rotate_left
         ·
          simp only [Act.put, l_1, l_2, l_3, i64_w, i32_w]
          rfl
         refine take_ (i := 1) (N := some 98) (v := ?_) (a' := ?_) #[true, true, true, false, false, true, false, true, false, false, false, false] rfl rfl (take_ofW HT_.out HW_.out (by kernel_rfl)) (fun _ _ _ h => h) (Or.inl ⟨by rfl, ?_⟩) hHeld ?_ ?_
         rotate_left
         ·
          rintro w' ⟨s0, s1, s2, s3, s4, s5, s6, s7⟩
          go_simp
          with_reducible rfl
         rotate_left
         ·
          simp only [Act.put, l_1, l_2, l_3, i64_w, i32_w]
          rfl
         refine pure_ (i := 3) (N := some 100) (v := ?_) (a' := ?_) #[true, true, true, true, false, true, false, true, false, false, false, false] rfl rfl (any_of HT_.out (by kernel_rfl)) (fun _ _ _ h => h) (Or.inl ⟨by rfl, ?_⟩) ?_ ?_
         rotate_left
         ·
          intro w'
          go_simp
          with_reducible rfl
         rotate_left
         ·
          simp only [Act.put, l_1, l_2, l_3, i64_w, i32_w]
          rfl
         refine take_ (i := 4) (N := some 101) (v := ?_) (a' := ?_) #[true, true, true, true, true, true, false, true, false, false, false, false] rfl rfl (take_ofW HT_.out HW_.out (by kernel_rfl)) (fun _ _ _ h => h) (Or.inl ⟨by rfl, ?_⟩) hHeld ?_ ?_
         rotate_left
         ·
          rintro w' ⟨s0, s1, s2, s3, s4, s5, s6, s7⟩
          go_simp
          with_reducible rfl
         rotate_left
         ·
          simp only [Act.put, l_1, l_2, l_3, i64_w, i32_w]
          rfl
         refine take_ (i := 6) (N := some 103) (v := ?_) (a' := ?_) #[true, true, true, true, true, true, true, true, false, false, false, false] rfl rfl (take_ofW HT_.out HW_.out (by kernel_rfl)) (fun _ _ _ h => h) (Or.inl ⟨by rfl, ?_⟩) hHeld ?_ ?_
         rotate_left
         ·
          rintro w' ⟨s0, s1, s2, s3, s4, s5, s6, s7⟩
          go_simp
          with_reducible rfl
         rotate_left
         ·
          simp only [Act.put, l_1, l_2, l_3, i64_w, i32_w]
          rfl
         refine pure_ (i := 8) (N := some 105) (v := ?_) (a' := ?_) #[true, true, true, true, true, true, true, true, true, false, false, false] rfl rfl (any_of HT_.out (by kernel_rfl)) (fun _ _ _ h => h) (Or.inl ⟨by rfl, ?_⟩) ?_ ?_
         rotate_left
         ·
          intro w'
          go_simp
          with_reducible rfl
         rotate_left
         ·
          simp only [Act.put, l_1, l_2, l_3, i64_w, i32_w]
          rfl
         refine take_ (i := 9) (N := some 106) (v := ?_) (a' := ?_) #[true, true, true, true, true, true, true, true, true, true, false, false] rfl rfl (take_ofW HT_.out HW_.out (by kernel_rfl)) (fun _ _ _ h => h) (Or.inl ⟨by rfl, ?_⟩) hHeld ?_ ?_
         rotate_left
         ·
          rintro w' ⟨s0, s1, s2, s3, s4, s5, s6, s7⟩
          go_simp
          with_reducible rfl
         rotate_left
         ·
          simp only [Act.put, l_1, l_2, l_3, i64_w, i32_w]
          rfl
         refine pure_ (i := 10) (N := some 107) (v := ?_) (a' := ?_) #[true, true, true, true, true, true, true, true, true, true, true, false] rfl rfl (any_of HT_.out (by kernel_rfl)) (fun _ _ _ h => h) (Or.inl ⟨by rfl, ?_⟩) ?_ ?_
         rotate_left
         ·
          intro w'
          go_simp
          with_reducible rfl
         rotate_left
         ·
          simp only [Act.put, l_1, l_2, l_3, i64_w, i32_w]
          rfl
         refine pure_ (i := 11) (N := some 108) (v := ?_) (a' := ?_) #[true, true, true, true, true, true, true, true, true, true, true, true] rfl rfl (any_of HT_.out (by kernel_rfl)) (fun _ _ _ h => h) (Or.inl ⟨by rfl, ?_⟩) ?_ ?_
         rotate_left
         ·
          intro w'
          go_simp
          with_reducible rfl
         rotate_left
         ·
          simp only [Act.put, l_1, l_2, l_3, i64_w, i32_w]
          rfl
         refine done_ (done_of HT_.out (by kernel_rfl)) ?_
         try go_wp2
         go_ret
         exact ⟨by first | rfl | (simp [errW_none, errW_some] <;> rfl) | (simp [*, errW_none, errW_some] <;> rfl), by repeat (first | (with_reducible first | exact HB.out | apply b_a | apply b_n | apply b_d | refine b_s ?_ GE187.out | refine b_s ?_ GE197.out | refine b_s ?_ GE204.out | refine b_s ?_ GE211.out) | exact HB.out)⟩
        rw [if_pos c73] at H
        have c73b0 : ((rd t207 x13_3) == (wrap32 (rd l0_2 x13_3))) = true := beq_iff_eq.mpr c73
        have c73b1 : ((rd t207 x13_3) != (wrap32 (rd l0_2 x13_3))) = false := bne_eq_false_iff_eq.mpr c73
        clear c73
        have H' := Aside0.mk H
        clear H
        have hnb74 := NB211_187.out
        have hnc74 := NB187_211.out
        have hnb75 := NB211_197.out
        have hnc75 := NB197_211.out
        have hnb76 := NB211_204.out
        have hnc76 := NB204_211.out
        have hcz77_0 : wr.cell? ⟨gb211, 0, none⟩ = some (.int .i64 t205) := (blk_cell BK211.out 0).trans rfl
        have hcz77_1 : wr.cell? ⟨gb211, 1, none⟩ = some (.int .i64 t206) := (blk_cell BK211.out 1).trans rfl
        have hcz77_2 : wr.cell? ⟨gb211, 2, none⟩ = some (.slice Ao42 t207.length co42) := (blk_cell BK211.out 2).trans rfl
        have hfz77_0 := blk_frozen BK211.out 0
        have hfz77_1 := blk_frozen BK211.out 1
        have hfz77_2 := blk_frozen BK211.out 2
        try go_wp2
        have n0_ := Aside0.mk (Kd.R_drew HO_198002.out)
        have n1_ := Aside0.mk (Kd.R_drew HO_205002.out)
        have n2_ := Aside0.mk (Kd.R_drew HO_212002.out)
        have n3_ := Aside0.mk (k_d BK187.out)
        have n4_ := Aside0.mk (k_d BK197.out)
        have n5_ := Aside0.mk (k_d BK204.out)
        have n6_ := Aside0.mk (k_d BK211.out)
        have n7_ := Aside0.mk (b_d HB.out)
        clear HO_198002
        clear HO_205002
        clear HO_212002
        clear BK187
        clear BK197
        clear BK204
        clear BK211
        clear HB
        have HO_198002 := n0_
        have HO_205002 := n1_
        have HO_212002 := n2_
        have BK187 := n3_
        have BK197 := n4_
        have BK204 := n5_
        have BK211 := n6_
        have HB := n7_
        clear n0_ n1_ n2_ n3_ n4_ n5_ n6_ n7_
        have p215 : 0 ≤ (x13_3 : Int) := of_decide_eq_true (by first | (with_reducible assumption) | assumption)
        have q215 : x13_3 < (t207.length : Int) := of_decide_eq_true (by first | (with_reducible assumption) | assumption)
        obtain ⟨ad215, e215, hx215_0⟩ := Kd.at_int (Kd.R_reads' HO_212002.out).2.2 x13_3 p215 q215
        cases e215
        replace p215 := eq_true p215
        replace q215 := eq_true q215
        have p216 : 0 ≤ (x13_3 : Int) := of_decide_eq_true (by first | (with_reducible assumption) | assumption)
        have q216 : x13_3 < (l0_2.length : Int) := of_decide_eq_true (by first | (with_reducible assumption) | assumption)
        obtain ⟨ad216, e216, hx216_0⟩ := Kd.at_int HR0_2.out x13_3 p216 q216
        have hw216_0 := hx216_0
        cases e216
        replace hx216_0 := (HB.out.cell (World.block_lt_of_cell? w _ hx216_0)).trans hx216_0
        replace p216 := eq_true p216
        replace q216 := eq_true q216
        refine start_ (n := 12) (S := fun w' => w'.cell? ⟨gb211, 0, none⟩ = some (.int .i64 t205) ∧ w'.cell? ⟨gb211, 1, none⟩ = some (.int .i64 t206) ∧ w'.cell? ⟨gb211, 2, none⟩ = some (.slice (some ad215) t207.length co42) ∧ w'.cell? ⟨gb187, 0, none⟩ = some (.int .i64 a0_0) ∧ w'.cell? ⟨gb187, 1, none⟩ = some (.int .i64 a0_1) ∧ w'.cell? ⟨gb187, 2, none⟩ = some (.slice (some ad216) l0_2.length c0_2) ∧ w'.cell? (ad215.add (x13_3).toNat) = some (.int .i32 (rd t207 x13_3)) ∧ w'.cell? (ad216.add (x13_3).toNat) = some (.int .i8 (rd l0_2 x13_3))) (ds := []) #[false, false, false, false, false, false, false, false, false, false, false, false] (by kernel_rfl) rfl rfl ⟨(blk_cell BK211.out 0).trans rfl, (blk_cell BK211.out 1).trans rfl, (blk_cell BK211.out 2).trans rfl, (blk_cell BK187.out 0).trans rfl, (blk_cell BK187.out 1).trans rfl, (blk_cell BK187.out 2).trans rfl, hx215_0, ((HB.out.cell (World.block_lt_of_cell? w _ hw216_0)).trans hw216_0)⟩ (fun hHeld => ?_); refine with_tabW pelotonlaw04_MatmulCuts.tab13 pelotonlaw04_MatmulCuts.bits13 (fun HT_ HW_ => ?_)
        generalize wr.drew = w78 at HO_198002 HO_205002 HO_212002 BK187 BK197 BK204 BK211 HB hx215_0 hx216_0 hHeld ⊢
        refine pure_ (i := 0) (N := some 97) (v := ?_) (a' := ?_) #[true, false, false, false, false, false, false, false, false, false, false, false] rfl rfl (any_of HT_.out (by kernel_rfl)) (fun _ _ _ h => h) (Or.inl ⟨by rfl, ?_⟩) ?_ ?_
        rotate_left
        ·
         intro w'
         go_simp
         with_reducible rfl
        rotate_left
        ·
         simp only [Act.put, l_1, l_2, l_3, i64_w, i32_w]
         rfl
        refine pure_ (i := 2) (N := some 99) (v := ?_) (a' := ?_) #[true, false, true, false, false, false, false, false, false, false, false, false] rfl rfl (any_of HT_.out (by kernel_rfl)) (fun _ _ _ h => h) (Or.inl ⟨by rfl, ?_⟩) ?_ ?_
        rotate_left
        ·
         intro w'
         go_simp
         with_reducible rfl
        rotate_left
        ·
         simp only [Act.put, l_1, l_2, l_3, i64_w, i32_w]
         rfl
        refine pure_ (i := 5) (N := some 102) (v := ?_) (a' := ?_) #[true, false, true, false, false, true, false, false, false, false, false, false] rfl rfl (any_of HT_.out (by kernel_rfl)) (fun _ _ _ h => h) (Or.inl ⟨by rfl, ?_⟩) ?_ ?_
        rotate_left
        ·
         intro w'
         go_simp
         with_reducible rfl
        rotate_left
        ·
         simp only [Act.put, l_1, l_2, l_3, i64_w, i32_w]
         rfl
        refine pure_ (i := 7) (N := some 104) (v := ?_) (a' := ?_) #[true, false, true, false, false, true, false, true, false, false, false, false] rfl rfl (any_of HT_.out (by kernel_rfl)) (fun _ _ _ h => h) (Or.inl ⟨by rfl, ?_⟩) ?_ ?_
        rotate_left
        ·
         intro w'
         go_simp
         with_reducible rfl
        rotate_left
        ·
         simp only [Act.put, l_1, l_2, l_3, i64_w, i32_w]
         rfl
        refine take_ (i := 1) (N := some 98) (v := ?_) (a' := ?_) #[true, true, true, false, false, true, false, true, false, false, false, false] rfl rfl (take_ofW HT_.out HW_.out (by kernel_rfl)) (fun _ _ _ h => h) (Or.inl ⟨by rfl, ?_⟩) hHeld ?_ ?_
        rotate_left
        ·
         rintro w' ⟨s0, s1, s2, s3, s4, s5, s6, s7⟩
         go_simp
         with_reducible rfl
        rotate_left
        ·
         simp only [Act.put, l_1, l_2, l_3, i64_w, i32_w]
         rfl
        refine pure_ (i := 3) (N := some 100) (v := ?_) (a' := ?_) #[true, true, true, true, false, true, false, true, false, false, false, false] rfl rfl (any_of HT_.out (by kernel_rfl)) (fun _ _ _ h => h) (Or.inl ⟨by rfl, ?_⟩) ?_ ?_
        rotate_left
        ·
         intro w'
         go_simp
         with_reducible rfl
        rotate_left
        ·
         simp only [Act.put, l_1, l_2, l_3, i64_w, i32_w]
         rfl
        refine take_ (i := 4) (N := some 101) (v := ?_) (a' := ?_) #[true, true, true, true, true, true, false, true, false, false, false, false] rfl rfl (take_ofW HT_.out HW_.out (by kernel_rfl)) (fun _ _ _ h => h) (Or.inl ⟨by rfl, ?_⟩) hHeld ?_ ?_
        rotate_left
        ·
         rintro w' ⟨s0, s1, s2, s3, s4, s5, s6, s7⟩
         go_simp
         with_reducible rfl
        rotate_left
        ·
         simp only [Act.put, l_1, l_2, l_3, i64_w, i32_w]
         rfl
        refine take_ (i := 6) (N := some 103) (v := ?_) (a' := ?_) #[true, true, true, true, true, true, true, true, false, false, false, false] rfl rfl (take_ofW HT_.out HW_.out (by kernel_rfl)) (fun _ _ _ h => h) (Or.inl ⟨by rfl, ?_⟩) hHeld ?_ ?_
        rotate_left
        ·
         rintro w' ⟨s0, s1, s2, s3, s4, s5, s6, s7⟩
         go_simp
         with_reducible rfl
        rotate_left
        ·
         simp only [Act.put, l_1, l_2, l_3, i64_w, i32_w]
         rfl
        refine pure_ (i := 8) (N := some 105) (v := ?_) (a' := ?_) #[true, true, true, true, true, true, true, true, true, false, false, false] rfl rfl (any_of HT_.out (by kernel_rfl)) (fun _ _ _ h => h) (Or.inl ⟨by rfl, ?_⟩) ?_ ?_
        rotate_left
        ·
         intro w'
         go_simp
         with_reducible rfl
        rotate_left
        ·
         simp only [Act.put, l_1, l_2, l_3, i64_w, i32_w]
         rfl
        refine take_ (i := 9) (N := some 106) (v := ?_) (a' := ?_) #[true, true, true, true, true, true, true, true, true, true, false, false] rfl rfl (take_ofW HT_.out HW_.out (by kernel_rfl)) (fun _ _ _ h => h) (Or.inl ⟨by rfl, ?_⟩) hHeld ?_ ?_
        rotate_left
        ·
         rintro w' ⟨s0, s1, s2, s3, s4, s5, s6, s7⟩
         go_simp
         with_reducible rfl
        rotate_left
        ·
         simp only [Act.put, l_1, l_2, l_3, i64_w, i32_w]
         rfl
        refine pure_ (i := 10) (N := some 107) (v := ?_) (a' := ?_) #[true, true, true, true, true, true, true, true, true, true, true, false] rfl rfl (any_of HT_.out (by kernel_rfl)) (fun _ _ _ h => h) (Or.inl ⟨by rfl, ?_⟩) ?_ ?_
        rotate_left
        ·
         intro w'
         go_simp
         with_reducible rfl
        rotate_left
        ·
         simp only [Act.put, l_1, l_2, l_3, i64_w, i32_w]
         rfl
        refine pure_ (i := 11) (N := some 108) (v := ?_) (a' := ?_) #[true, true, true, true, true, true, true, true, true, true, true, true] rfl rfl (any_of HT_.out (by kernel_rfl)) (fun _ _ _ h => h) (Or.inl ⟨by rfl, ?_⟩) ?_ ?_
        rotate_left
        ·
         intro w'
         go_simp
         with_reducible rfl
        rotate_left
        ·
         simp only [Act.put, l_1, l_2, l_3, i64_w, i32_w]
         rfl
        refine done_ (done_of HT_.out (by kernel_rfl)) ?_
        try go_wp2
        go_roundg k3
        case measure => have := HJ3.out; have := HJ20.out; have := HK3.out; omega
        case rel => exact ⟨(wrap64 (x13_3 + 1)), (by first | rfl | (simp; done) | (simp [*]; done)), H', ⟨by have := HJ3.out; have := HJ20.out; have := HK3.out; omega⟩, ⟨by (with_reducible repeat (first | apply Kd.R_alloc | apply Kd.R_drewN | apply Kd.R_drew)); exact HO_198002.out⟩, ⟨by (with_reducible repeat (first | apply Kd.R_alloc | apply Kd.R_drewN | apply Kd.R_drew)); exact HO_205002.out⟩, ⟨by (with_reducible repeat (first | apply Kd.R_alloc | apply Kd.R_drewN | apply Kd.R_drew)); exact HO_212002.out⟩, ⟨by (with_reducible repeat (first | refine k_n ?_ _ | refine k_d ?_ | refine k_a ?_ _)); exact BK187.out⟩, ⟨by (with_reducible repeat (first | refine k_n ?_ _ | refine k_d ?_ | refine k_a ?_ _)); exact BK197.out⟩, ⟨by (with_reducible repeat (first | refine k_n ?_ _ | refine k_d ?_ | refine k_a ?_ _)); exact BK204.out⟩, ⟨by (with_reducible repeat (first | refine k_n ?_ _ | refine k_d ?_ | refine k_a ?_ _)); exact BK211.out⟩, ⟨by repeat (first | (with_reducible first | exact HB.out | apply b_a | apply b_n | apply b_d | refine b_s ?_ GE187.out | refine b_s ?_ GE197.out | refine b_s ?_ GE204.out | refine b_s ?_ GE211.out) | exact HB.out)⟩⟩
       rw [if_neg c70] at H
       have c70b0 : decide (x13_3 < (t207.length : Int)) = false := decide_eq_false c70
       clear c70
       have HC84 := Aside0.mk H
       clear H
       have hnb85 := NB211_187.out
       have hnc85 := NB187_211.out
       have hnb86 := NB211_197.out
       have hnc86 := NB197_211.out
       have hnb87 := NB211_204.out
       have hnc87 := NB204_211.out
       have hcz88_0 : wr.cell? ⟨gb211, 0, none⟩ = some (.int .i64 t205) := (blk_cell BK211.out 0).trans rfl
       have hcz88_1 : wr.cell? ⟨gb211, 1, none⟩ = some (.int .i64 t206) := (blk_cell BK211.out 1).trans rfl
       have hcz88_2 : wr.cell? ⟨gb211, 2, none⟩ = some (.slice Ao42 t207.length co42) := (blk_cell BK211.out 2).trans rfl
       have hfz88_0 := blk_frozen BK211.out 0
       have hfz88_1 := blk_frozen BK211.out 1
       have hfz88_2 := blk_frozen BK211.out 2
       go_upto_region 15 with (fail)
       go_cut [14] (fun v14 wc => ∃ (kq : Nat) (x14_83 : Bool), v14 = .bool x14_83 ∧ Aside0 (pelotonlaw04_MatmulCuts.j4 kq a1 a2 t196 t203 x14_83 a0_0 a0_1 l0_2 t191 t192 t193 t198 t199 t200 = some r) ∧ Aside0 (kq ≤ k3) ∧ Aside0 (Kd.R (Kd.int .i8) 35 wc w.heap.size (fun k_ => some k_ ≠ ((.slice Ao34 t200.length co34) : Value).ownBlock) (.slice Ao27 t193.length co27) t193) ∧ Aside0 (Kd.R (Kd.int .i8) 35 wc w.heap.size (fun k_ => some k_ ≠ ((.slice Ao27 t193.length co27) : Value).ownBlock) (.slice Ao34 t200.length co34) t200) ∧ Aside0 (Kd.R (Kd.int .i32) 21 wc w.heap.size (fun _ => True) (.slice Ao42 t207.length co42) t207) ∧ Aside0 (wc.heap[gb187]? = some (.cells #[.int .i64 a0_0, .int .i64 a0_1, (.slice A0_2 l0_2.length c0_2)] 30 (0, 0))) ∧ Aside0 (wc.heap[gb197]? = some (.cells #[.int .i64 t191, .int .i64 t192, (.slice Ao27 t193.length co27)] 30 (0, 0))) ∧ Aside0 (wc.heap[gb204]? = some (.cells #[.int .i64 t198, .int .i64 t199, (.slice Ao34 t200.length co34)] 30 (0, 0))) ∧ Aside0 (wc.heap[gb211]? = some (.cells #[.int .i64 t205, .int .i64 t206, (.slice Ao42 t207.length co42)] 51 (0, 0))) ∧ Aside0 (Below w.heap.size w wc))
       case first =>
        have H := HC84.out
        clear HC84
        by_cases c89 : a1 ≥ 0
        rotate_left
        ·
         rw [if_neg c89] at H
         have c89b0 : decide (0 ≤ a1) = false := decide_eq_false c89
         clear c89
         (first | rw [c89b0] | (simp only [i64_w, i32_w]; rw [c89b0]) | skip)
         have H' := Aside0.mk H
         clear H
         go_wp2
         go_meet
         case rel => exact ⟨_, (false), (by first | rfl | (simp; done) | (simp [*]; done)), H', ⟨by have := HJ3.out; have := HJ20.out; have := HK3.out; first | omega | exact Nat.le_refl _⟩, ⟨by (with_reducible repeat (first | apply Kd.R_alloc | apply Kd.R_drewN | apply Kd.R_drew)); exact HO_198002.out⟩, ⟨by (with_reducible repeat (first | apply Kd.R_alloc | apply Kd.R_drewN | apply Kd.R_drew)); exact HO_205002.out⟩, ⟨by (with_reducible repeat (first | apply Kd.R_alloc | apply Kd.R_drewN | apply Kd.R_drew)); exact HO_212002.out⟩, ⟨by (with_reducible repeat (first | refine k_n ?_ _ | refine k_d ?_ | refine k_a ?_ _)); exact BK187.out⟩, ⟨by (with_reducible repeat (first | refine k_n ?_ _ | refine k_d ?_ | refine k_a ?_ _)); exact BK197.out⟩, ⟨by (with_reducible repeat (first | refine k_n ?_ _ | refine k_d ?_ | refine k_a ?_ _)); exact BK204.out⟩, ⟨by (with_reducible repeat (first | refine k_n ?_ _ | refine k_d ?_ | refine k_a ?_ _)); exact BK211.out⟩, ⟨by repeat (first | (with_reducible first | exact HB.out | apply b_a | apply b_n | apply b_d | refine b_s ?_ GE187.out | refine b_s ?_ GE197.out | refine b_s ?_ GE204.out | refine b_s ?_ GE211.out) | exact HB.out)⟩⟩
        rw [if_pos c89] at H
        have c89b0 : decide (0 ≤ a1) = true := decide_eq_true c89
        clear c89
        (first | rw [c89b0] | (simp only [i64_w, i32_w]; rw [c89b0]) | skip)
        have H' := Aside0.mk H
        clear H
        go_wp2
        go_meet
        case rel => exact ⟨_, (decide (a1 ≤ a2)), (by first | rfl | (simp; done) | (simp [*]; done)), H', ⟨by have := HJ3.out; have := HJ20.out; have := HK3.out; first | omega | exact Nat.le_refl _⟩, ⟨by (with_reducible repeat (first | apply Kd.R_alloc | apply Kd.R_drewN | apply Kd.R_drew)); exact HO_198002.out⟩, ⟨by (with_reducible repeat (first | apply Kd.R_alloc | apply Kd.R_drewN | apply Kd.R_drew)); exact HO_205002.out⟩, ⟨by (with_reducible repeat (first | apply Kd.R_alloc | apply Kd.R_drewN | apply Kd.R_drew)); exact HO_212002.out⟩, ⟨by (with_reducible repeat (first | refine k_n ?_ _ | refine k_d ?_ | refine k_a ?_ _)); exact BK187.out⟩, ⟨by (with_reducible repeat (first | refine k_n ?_ _ | refine k_d ?_ | refine k_a ?_ _)); exact BK197.out⟩, ⟨by (with_reducible repeat (first | refine k_n ?_ _ | refine k_d ?_ | refine k_a ?_ _)); exact BK204.out⟩, ⟨by (with_reducible repeat (first | refine k_n ?_ _ | refine k_d ?_ | refine k_a ?_ _)); exact BK211.out⟩, ⟨by repeat (first | (with_reducible first | exact HB.out | apply b_a | apply b_n | apply b_d | refine b_s ?_ GE187.out | refine b_s ?_ GE197.out | refine b_s ?_ GE204.out | refine b_s ?_ GE211.out) | exact HB.out)⟩⟩
       case rest => as_aux_lemma =>
        clear HC84
        try clear c1
        try clear c2
        try clear p2
        try clear q2
        try clear hx2
        try clear c3
        try clear p3
        try clear c4
        try clear c5
        try clear c6
        try clear p6
        try clear c7
        try clear c8
        try clear c10
        try clear c13
        try clear c20
        try clear c21
        try clear p21
        try clear q21
        try clear hx21
        try clear c25
        try clear c26
        try clear c31
        try clear c32
        try clear p32
        try clear c38
        try clear c39
        try clear c40
        try clear c45
        try clear c45b0
        try clear c45b1
        try clear c46
        try clear c46b0
        try clear c46b1
        try clear c47
        try clear c47b0
        try clear c47b1
        try clear c48
        try clear c49
        try clear c50
        try clear c52
        try clear c53
        try clear c55
        try clear c56
        try clear c57
        try clear c59
        try clear c60
        try clear c62
        try clear c63
        try clear c64
        try clear p64
        try clear c66
        try clear c67
        try clear c69
        try clear c70
        try clear c70b0
        try clear c71
        try clear c71b0
        try clear c72
        try clear c72b0
        try clear c73
        try clear c73b0
        try clear c73b1
        try clear c74
        try clear c75
        try clear c76
        try clear c79
        try clear c80
        try clear c81
        try clear c85
        try clear c86
        try clear c87
        try clear c89
        try clear c89b0
        try clear hcz10_0
        try clear hcz10_1
        try clear hcz10_2
        try clear hcz22_0
        try clear hcz22_1
        try clear hcz22_2
        try clear hcz26_0
        try clear hcz26_1
        try clear hcz26_2
        try clear hcz28_0
        try clear hcz28_1
        try clear hcz28_2
        try clear hcz33_0
        try clear hcz33_1
        try clear hcz33_2
        try clear hcz35_0
        try clear hcz35_1
        try clear hcz35_2
        try clear hcz41_0
        try clear hcz41_1
        try clear hcz41_2
        try clear hcz43_0
        try clear hcz43_1
        try clear hcz43_2
        try clear hcz51_0
        try clear hcz51_1
        try clear hcz51_2
        try clear hcz54_0
        try clear hcz54_1
        try clear hcz54_2
        try clear hcz58_0
        try clear hcz58_1
        try clear hcz58_2
        try clear hcz61_0
        try clear hcz61_1
        try clear hcz61_2
        try clear hcz65_0
        try clear hcz65_1
        try clear hcz65_2
        try clear hcz68_0
        try clear hcz68_1
        try clear hcz68_2
        try clear hcz77_0
        try clear hcz77_1
        try clear hcz77_2
        try clear hcz82_0
        try clear hcz82_1
        try clear hcz82_2
        try clear hcz88_0
        try clear hcz88_1
        try clear hcz88_2
        try clear hfz10_0
        try clear hfz10_1
        try clear hfz10_2
        try clear hfz22_0
        try clear hfz22_1
        try clear hfz22_2
        try clear hfz26_0
        try clear hfz26_1
        try clear hfz26_2
        try clear hfz28_0
        try clear hfz28_1
        try clear hfz28_2
        try clear hfz33_0
        try clear hfz33_1
        try clear hfz33_2
        try clear hfz35_0
        try clear hfz35_1
        try clear hfz35_2
        try clear hfz41_0
        try clear hfz41_1
        try clear hfz41_2
        try clear hfz43_0
        try clear hfz43_1
        try clear hfz43_2
        try clear hfz51_0
        try clear hfz51_1
        try clear hfz51_2
        try clear hfz54_0
        try clear hfz54_1
        try clear hfz54_2
        try clear hfz58_0
        try clear hfz58_1
        try clear hfz58_2
        try clear hfz61_0
        try clear hfz61_1
        try clear hfz61_2
        try clear hfz65_0
        try clear hfz65_1
        try clear hfz65_2
        try clear hfz68_0
        try clear hfz68_1
        try clear hfz68_2
        try clear hfz77_0
        try clear hfz77_1
        try clear hfz77_2
        try clear hfz82_0
        try clear hfz82_1
        try clear hfz82_2
        try clear hfz88_0
        try clear hfz88_1
        try clear hfz88_2
        try clear hx215_0
        try clear hx216_0
        try clear p2
        try clear p215
        try clear p216
        try clear q215
        try clear q216
        obtain ⟨kq, x14_83, rfl, HA, HJ83, HO_198002, HO_205002, HO_212002, BK187, BK197, BK204, BK211, HB⟩ := hcut
        cases kq with
        | zero => exact absurd HA.out (by simp [pelotonlaw04_MatmulCuts.j4])
        | succ kj83 =>
         have H := HA.out
         clear HA
         simp only [pelotonlaw04_MatmulCuts.j4] at H
         have HC90 := Aside0.mk H
         clear H
         go_upto_region 16 with (fail)
         go_cut [122] (fun v122 wc => ∃ (kq : Nat) (x122_89 : Bool), v122 = .bool x122_89 ∧ Aside0 (pelotonlaw04_MatmulCuts.j5 kq a1 a2 t196 t203 x14_83 x122_89 a0_0 a0_1 l0_2 t191 t192 t193 t198 t199 t200 = some r) ∧ Aside0 (kq ≤ kj83) ∧ Aside0 (Kd.R (Kd.int .i8) 35 wc w.heap.size (fun k_ => some k_ ≠ ((.slice Ao34 t200.length co34) : Value).ownBlock) (.slice Ao27 t193.length co27) t193) ∧ Aside0 (Kd.R (Kd.int .i8) 35 wc w.heap.size (fun k_ => some k_ ≠ ((.slice Ao27 t193.length co27) : Value).ownBlock) (.slice Ao34 t200.length co34) t200) ∧ Aside0 (Kd.R (Kd.int .i32) 21 wc w.heap.size (fun _ => True) (.slice Ao42 t207.length co42) t207) ∧ Aside0 (wc.heap[gb187]? = some (.cells #[.int .i64 a0_0, .int .i64 a0_1, (.slice A0_2 l0_2.length c0_2)] 30 (0, 0))) ∧ Aside0 (wc.heap[gb197]? = some (.cells #[.int .i64 t191, .int .i64 t192, (.slice Ao27 t193.length co27)] 30 (0, 0))) ∧ Aside0 (wc.heap[gb204]? = some (.cells #[.int .i64 t198, .int .i64 t199, (.slice Ao34 t200.length co34)] 30 (0, 0))) ∧ Aside0 (wc.heap[gb211]? = some (.cells #[.int .i64 t205, .int .i64 t206, (.slice Ao42 t207.length co42)] 51 (0, 0))) ∧ Aside0 (Below w.heap.size w wc))
         case first =>
          have H := HC90.out
          clear HC90
          by_cases c91 : x14_83 = true
          rotate_left
          ·
           replace c91 := Bool.eq_false_iff.mpr c91
           subst c91
           have H1 : (pelotonlaw04_MatmulCuts.j5 kj83 a1 a2 t196 t203 false false a0_0 a0_1 l0_2 t191 t192 t193 t198 t199 t200) = some r := by rw [if_neg (show ¬ (false = true) by decide)] at H; exact H
           clear H
           have H := H1
           clear H1
           have H' := Aside0.mk H
           clear H
           go_wp2
           go_meet
           case rel => exact ⟨_, (false), (by first | rfl | (simp; done) | (simp [*]; done)), H', ⟨by have := HJ3.out; have := HJ20.out; have := HK3.out; have := HJ83.out; first | omega | exact Nat.le_refl _⟩, ⟨by (with_reducible repeat (first | apply Kd.R_alloc | apply Kd.R_drewN | apply Kd.R_drew)); exact HO_198002.out⟩, ⟨by (with_reducible repeat (first | apply Kd.R_alloc | apply Kd.R_drewN | apply Kd.R_drew)); exact HO_205002.out⟩, ⟨by (with_reducible repeat (first | apply Kd.R_alloc | apply Kd.R_drewN | apply Kd.R_drew)); exact HO_212002.out⟩, ⟨by (with_reducible repeat (first | refine k_n ?_ _ | refine k_d ?_ | refine k_a ?_ _)); exact BK187.out⟩, ⟨by (with_reducible repeat (first | refine k_n ?_ _ | refine k_d ?_ | refine k_a ?_ _)); exact BK197.out⟩, ⟨by (with_reducible repeat (first | refine k_n ?_ _ | refine k_d ?_ | refine k_a ?_ _)); exact BK204.out⟩, ⟨by (with_reducible repeat (first | refine k_n ?_ _ | refine k_d ?_ | refine k_a ?_ _)); exact BK211.out⟩, ⟨by repeat (first | (with_reducible first | exact HB.out | apply b_a | apply b_n | apply b_d | refine b_s ?_ GE187.out | refine b_s ?_ GE197.out | refine b_s ?_ GE204.out | refine b_s ?_ GE211.out) | exact HB.out)⟩⟩
          subst c91
          have H1 : (pelotonlaw04_MatmulCuts.j5 kj83 a1 a2 t196 t203 true (decide (a2 ≤ a0_0)) a0_0 a0_1 l0_2 t191 t192 t193 t198 t199 t200) = some r := by rw [if_pos rfl] at H; exact H
          clear H
          have H := H1
          clear H1
          have H' := Aside0.mk H
          clear H
          have hnb92 := NB187_197.out
          have hnc92 := NB197_187.out
          have hnb93 := NB187_204.out
          have hnc93 := NB204_187.out
          have hnb94 := NB187_211.out
          have hnc94 := NB211_187.out
          have hcz95_0 : wc.cell? ⟨gb187, 0, none⟩ = some (.int .i64 a0_0) := (blk_cell BK187.out 0).trans rfl
          have hcz95_1 : wc.cell? ⟨gb187, 1, none⟩ = some (.int .i64 a0_1) := (blk_cell BK187.out 1).trans rfl
          have hcz95_2 : wc.cell? ⟨gb187, 2, none⟩ = some (.slice A0_2 l0_2.length c0_2) := (blk_cell BK187.out 2).trans rfl
          have hfz95_0 := blk_frozen BK187.out 0
          have hfz95_1 := blk_frozen BK187.out 1
          have hfz95_2 := blk_frozen BK187.out 2
          go_wp2
          go_meet
          case rel => exact ⟨_, (decide (a2 ≤ a0_0)), (by first | rfl | (simp; done) | (simp [*]; done)), H', ⟨by have := HJ3.out; have := HJ20.out; have := HK3.out; have := HJ83.out; first | omega | exact Nat.le_refl _⟩, ⟨by (with_reducible repeat (first | apply Kd.R_alloc | apply Kd.R_drewN | apply Kd.R_drew)); exact HO_198002.out⟩, ⟨by (with_reducible repeat (first | apply Kd.R_alloc | apply Kd.R_drewN | apply Kd.R_drew)); exact HO_205002.out⟩, ⟨by (with_reducible repeat (first | apply Kd.R_alloc | apply Kd.R_drewN | apply Kd.R_drew)); exact HO_212002.out⟩, ⟨by (with_reducible repeat (first | refine k_n ?_ _ | refine k_d ?_ | refine k_a ?_ _)); exact BK187.out⟩, ⟨by (with_reducible repeat (first | refine k_n ?_ _ | refine k_d ?_ | refine k_a ?_ _)); exact BK197.out⟩, ⟨by (with_reducible repeat (first | refine k_n ?_ _ | refine k_d ?_ | refine k_a ?_ _)); exact BK204.out⟩, ⟨by (with_reducible repeat (first | refine k_n ?_ _ | refine k_d ?_ | refine k_a ?_ _)); exact BK211.out⟩, ⟨by repeat (first | (with_reducible first | exact HB.out | apply b_a | apply b_n | apply b_d | refine b_s ?_ GE187.out | refine b_s ?_ GE197.out | refine b_s ?_ GE204.out | refine b_s ?_ GE211.out) | exact HB.out)⟩⟩
         case rest => as_aux_lemma =>
          clear HC90
          try clear c1
          try clear c2
          try clear p2
          try clear q2
          try clear hx2
          try clear c3
          try clear p3
          try clear c4
          try clear c5
          try clear c6
          try clear p6
          try clear c7
          try clear c8
          try clear c9
          try clear c10
          try clear c13
          try clear c20
          try clear c21
          try clear p21
          try clear q21
          try clear hx21
          try clear c25
          try clear c26
          try clear c31
          try clear c32
          try clear p32
          try clear c38
          try clear c39
          try clear c40
          try clear c45
          try clear c45b0
          try clear c45b1
          try clear c46
          try clear c46b0
          try clear c46b1
          try clear c47
          try clear c47b0
          try clear c47b1
          try clear c48
          try clear c49
          try clear c50
          try clear c52
          try clear c53
          try clear c55
          try clear c56
          try clear c57
          try clear c59
          try clear c60
          try clear c62
          try clear c63
          try clear c64
          try clear p64
          try clear c66
          try clear c67
          try clear c69
          try clear c70
          try clear c70b0
          try clear c71
          try clear c71b0
          try clear c72
          try clear c72b0
          try clear c73
          try clear c73b0
          try clear c73b1
          try clear c74
          try clear c75
          try clear c76
          try clear c79
          try clear c80
          try clear c81
          try clear c85
          try clear c86
          try clear c87
          try clear c89
          try clear c89b0
          try clear c91
          try clear c92
          try clear c93
          try clear c94
          try clear hcz10_0
          try clear hcz10_1
          try clear hcz10_2
          try clear hcz22_0
          try clear hcz22_1
          try clear hcz22_2
          try clear hcz26_0
          try clear hcz26_1
          try clear hcz26_2
          try clear hcz28_0
          try clear hcz28_1
          try clear hcz28_2
          try clear hcz33_0
          try clear hcz33_1
          try clear hcz33_2
          try clear hcz35_0
          try clear hcz35_1
          try clear hcz35_2
          try clear hcz41_0
          try clear hcz41_1
          try clear hcz41_2
          try clear hcz43_0
          try clear hcz43_1
          try clear hcz43_2
          try clear hcz51_0
          try clear hcz51_1
          try clear hcz51_2
          try clear hcz54_0
          try clear hcz54_1
          try clear hcz54_2
          try clear hcz58_0
          try clear hcz58_1
          try clear hcz58_2
          try clear hcz61_0
          try clear hcz61_1
          try clear hcz61_2
          try clear hcz65_0
          try clear hcz65_1
          try clear hcz65_2
          try clear hcz68_0
          try clear hcz68_1
          try clear hcz68_2
          try clear hcz77_0
          try clear hcz77_1
          try clear hcz77_2
          try clear hcz82_0
          try clear hcz82_1
          try clear hcz82_2
          try clear hcz88_0
          try clear hcz88_1
          try clear hcz88_2
          try clear hcz95_0
          try clear hcz95_1
          try clear hcz95_2
          try clear hfz10_0
          try clear hfz10_1
          try clear hfz10_2
          try clear hfz22_0
          try clear hfz22_1
          try clear hfz22_2
          try clear hfz26_0
          try clear hfz26_1
          try clear hfz26_2
          try clear hfz28_0
          try clear hfz28_1
          try clear hfz28_2
          try clear hfz33_0
          try clear hfz33_1
          try clear hfz33_2
          try clear hfz35_0
          try clear hfz35_1
          try clear hfz35_2
          try clear hfz41_0
          try clear hfz41_1
          try clear hfz41_2
          try clear hfz43_0
          try clear hfz43_1
          try clear hfz43_2
          try clear hfz51_0
          try clear hfz51_1
          try clear hfz51_2
          try clear hfz54_0
          try clear hfz54_1
          try clear hfz54_2
          try clear hfz58_0
          try clear hfz58_1
          try clear hfz58_2
          try clear hfz61_0
          try clear hfz61_1
          try clear hfz61_2
          try clear hfz65_0
          try clear hfz65_1
          try clear hfz65_2
          try clear hfz68_0
          try clear hfz68_1
          try clear hfz68_2
          try clear hfz77_0
          try clear hfz77_1
          try clear hfz77_2
          try clear hfz82_0
          try clear hfz82_1
          try clear hfz82_2
          try clear hfz88_0
          try clear hfz88_1
          try clear hfz88_2
          try clear hfz95_0
          try clear hfz95_1
          try clear hfz95_2
          try clear hx215_0
          try clear hx216_0
          try clear p2
          try clear p21
          try clear p215
          try clear p216
          try clear p3
          try clear p32
          try clear p6
          try clear p64
          try clear q2
          try clear q21
          try clear q215
          try clear q216
          obtain ⟨kq, x122_89, rfl, HA, HJ89, HO_198002, HO_205002, HO_212002, BK187, BK197, BK204, BK211, HB⟩ := hcut
          cases kq with
          | zero => exact absurd HA.out (by simp [pelotonlaw04_MatmulCuts.j5])
          | succ kj89 =>
           have H := HA.out
           clear HA
           simp only [pelotonlaw04_MatmulCuts.j5] at H
           have HC96 := Aside0.mk H
           clear H
           go_upto_if 122 with (fail)
           go_cut [] (fun wc => ∃ (kq : Nat), Aside0 (pelotonlaw04_MatmulCuts.j6 kq a1 a2 t203 x14_83 a0_0 a0_1 l0_2 t198 t199 t200 = some r) ∧ Aside0 (kq ≤ kj89) ∧ Aside0 (Kd.R (Kd.int .i8) 35 wc w.heap.size (fun k_ => some k_ ≠ ((.slice Ao34 t200.length co34) : Value).ownBlock) (.slice Ao27 t193.length co27) t193) ∧ Aside0 (Kd.R (Kd.int .i8) 35 wc w.heap.size (fun k_ => some k_ ≠ ((.slice Ao27 t193.length co27) : Value).ownBlock) (.slice Ao34 t200.length co34) t200) ∧ Aside0 (Kd.R (Kd.int .i32) 21 wc w.heap.size (fun _ => True) (.slice Ao42 t207.length co42) t207) ∧ Aside0 (wc.heap[gb187]? = some (.cells #[.int .i64 a0_0, .int .i64 a0_1, (.slice A0_2 l0_2.length c0_2)] 30 (0, 0))) ∧ Aside0 (wc.heap[gb197]? = some (.cells #[.int .i64 t191, .int .i64 t192, (.slice Ao27 t193.length co27)] 30 (0, 0))) ∧ Aside0 (wc.heap[gb204]? = some (.cells #[.int .i64 t198, .int .i64 t199, (.slice Ao34 t200.length co34)] 30 (0, 0))) ∧ Aside0 (wc.heap[gb211]? = some (.cells #[.int .i64 t205, .int .i64 t206, (.slice Ao42 t207.length co42)] 51 (0, 0))) ∧ Aside0 (Below w.heap.size w wc))
           case first =>
            have H := HC96.out
            clear HC96
            by_cases c97 : x122_89 = true
            rotate_left
            ·
             replace c97 := Bool.eq_false_iff.mpr c97
             subst c97
             have H1 : (if t196 = 2 then ((pelotonref04_Same.f kj89 t191 t192 t193 0 0 ([] : List Int)).bind fun t223 => (if t223 = true then (pelotonlaw04_MatmulCuts.j6 kj89 a1 a2 t203 x14_83 a0_0 a0_1 l0_2 t198 t199 t200) else (some false))) else (some false)) = some r := by rw [if_neg (show ¬ (false = true) by decide)] at H; exact H
             clear H
             have H := H1
             clear H1
             by_cases c111 : t196 = 2
             rotate_left
             ·
              rw [if_neg c111] at H
              have c111b0 : (t196 == 2) = false := beq_eq_false_iff_ne.mpr c111
              have c111b1 : (t196 != 2) = true := bne_iff_ne.mpr c111
              obtain rfl := Option.some.inj H
              go_wp2
              go_ret
              exact ⟨by first | rfl | (simp [errW_none, errW_some] <;> rfl) | (simp [*, errW_none, errW_some] <;> rfl), by repeat (first | (with_reducible first | exact HB.out | apply b_a | apply b_n | apply b_d | refine b_s ?_ GE187.out | refine b_s ?_ GE197.out | refine b_s ?_ GE204.out | refine b_s ?_ GE211.out) | exact HB.out)⟩
             rw [if_pos c111] at H
             have c111b0 : (t196 == 2) = true := beq_iff_eq.mpr c111
             have c111b1 : (t196 != 2) = false := bne_eq_false_iff_eq.mpr c111
             clear c111
             replace H := Option.bind_eq_some_iff.mp H
             obtain ⟨t223, A1120, H⟩ := H
             replace H : (if t223 = true then (pelotonlaw04_MatmulCuts.j6 kj89 a1 a2 t203 x14_83 a0_0 a0_1 l0_2 t198 t199 t200) else (some false)) = some r := H
             have A112 := Aside0.mk A1120
             clear A1120
             by_cases c113 : t223 = true
             rotate_left
             ·
              replace c113 := Bool.eq_false_iff.mpr c113
              subst c113
              have H1 : (some false) = some r := by rw [if_neg (show ¬ (false = true) by decide)] at H; exact H
              clear H
              have H := H1
              clear H1
              obtain rfl := Option.some.inj H
              have hnb119 := NB197_187.out
              have hnc119 := NB187_197.out
              have hnb120 := NB197_204.out
              have hnc120 := NB204_197.out
              have hnb121 := NB197_211.out
              have hnc121 := NB211_197.out
              have hcz122_0 : wc.cell? ⟨gb197, 0, none⟩ = some (.int .i64 t191) := (blk_cell BK197.out 0).trans rfl
              have hcz122_1 : wc.cell? ⟨gb197, 1, none⟩ = some (.int .i64 t192) := (blk_cell BK197.out 1).trans rfl
              have hcz122_2 : wc.cell? ⟨gb197, 2, none⟩ = some (.slice Ao27 t193.length co27) := (blk_cell BK197.out 2).trans rfl
              have hfz122_0 := blk_frozen BK197.out 0
              have hfz122_1 := blk_frozen BK197.out 1
              have hfz122_2 := blk_frozen BK197.out 2
              go_wp2_with (first | (go_at_call 18; (refine (pelotonref04_Same.calls kj89 t191 t192 _ _ t193 0 0 _ _ ([] : List Int) false _ ?side1 ?side2 ?side3 ?side4 A112.out).mono ?_); (case side1 => repeat (first | exact (Kd.R_reads' HO_198002.out).2.2 | (with_reducible refine Kd.C_alloc ?_ _) | (with_reducible refine Kd.C_drewN ?_ _) | (with_reducible refine Kd.C_drew ?_))); (case side2 => exact (Kd.R_reads' HO_198002.out).2.1); (case side3 => exact Kd.C_nil _ _); (case side4 => exact Nat.le_refl _); rintro e w123 ⟨rfl, hb⟩; (try clear A112); have n0_ := Aside0.mk (Kd.R_below (by (with_reducible repeat (first | apply Kd.R_alloc | apply Kd.R_drewN | apply Kd.R_drew)); exact HO_198002.out) hb); have n1_ := Aside0.mk (Kd.R_below (by (with_reducible repeat (first | apply Kd.R_alloc | apply Kd.R_drewN | apply Kd.R_drew)); exact HO_205002.out) hb); have n2_ := Aside0.mk (Kd.R_below (by (with_reducible repeat (first | apply Kd.R_alloc | apply Kd.R_drewN | apply Kd.R_drew)); exact HO_212002.out) hb); have n3_ := Aside0.mk (blk_below (g := gb187) (o := .cells #[.int .i64 a0_0, .int .i64 a0_1, .slice A0_2 l0_2.length c0_2] 30 (0, 0)) (by (with_reducible repeat (first | refine k_n ?_ _ | refine k_d ?_ | refine k_a ?_ _)); exact BK187.out) hb); have n4_ := Aside0.mk (blk_below (g := gb197) (o := .cells #[.int .i64 t191, .int .i64 t192, .slice Ao27 t193.length co27] 30 (0, 0)) (by (with_reducible repeat (first | refine k_n ?_ _ | refine k_d ?_ | refine k_a ?_ _)); exact BK197.out) hb); have n5_ := Aside0.mk (blk_below (g := gb204) (o := .cells #[.int .i64 t198, .int .i64 t199, .slice Ao34 t200.length co34] 30 (0, 0)) (by (with_reducible repeat (first | refine k_n ?_ _ | refine k_d ?_ | refine k_a ?_ _)); exact BK204.out) hb); have n6_ := Aside0.mk (blk_below (g := gb211) (o := .cells #[.int .i64 t205, .int .i64 t206, .slice Ao42 t207.length co42] 51 (0, 0)) (by (with_reducible repeat (first | refine k_n ?_ _ | refine k_d ?_ | refine k_a ?_ _)); exact BK211.out) hb); have n7_ := Aside0.mk (below_step (by repeat (first | (with_reducible first | exact HB.out | apply b_a | apply b_n | apply b_d | refine b_s ?_ GE187.out | refine b_s ?_ GE197.out | refine b_s ?_ GE204.out | refine b_s ?_ GE211.out) | exact HB.out)) hb); clear HO_198002; clear HO_205002; clear HO_212002; clear BK187; clear BK197; clear BK204; clear BK211; clear HB; have HO_198002 := n0_; have HO_205002 := n1_; have HO_212002 := n2_; have BK187 := n3_; have BK197 := n4_; have BK204 := n5_; have BK211 := n6_; have HB := n7_; clear n0_ n1_ n2_ n3_ n4_ n5_ n6_ n7_; (try clear hb); (try clear hb2); (try clear hk); (try clear hi)))
              go_ret
              exact ⟨by first | rfl | (simp [errW_none, errW_some] <;> rfl) | (simp [*, errW_none, errW_some] <;> rfl), by repeat (first | (with_reducible first | exact HB.out | apply b_a | apply b_n | apply b_d | refine b_s ?_ GE187.out | refine b_s ?_ GE197.out | refine b_s ?_ GE204.out | refine b_s ?_ GE211.out) | exact HB.out)⟩
             subst c113
             have H1 : (pelotonlaw04_MatmulCuts.j6 kj89 a1 a2 t203 x14_83 a0_0 a0_1 l0_2 t198 t199 t200) = some r := by rw [if_pos rfl] at H; exact H
             clear H
             have H := H1
             clear H1
             have H' := Aside0.mk H
             clear H
             have hnb114 := NB197_187.out
             have hnc114 := NB187_197.out
             have hnb115 := NB197_204.out
             have hnc115 := NB204_197.out
             have hnb116 := NB197_211.out
             have hnc116 := NB211_197.out
             have hcz117_0 : wc.cell? ⟨gb197, 0, none⟩ = some (.int .i64 t191) := (blk_cell BK197.out 0).trans rfl
             have hcz117_1 : wc.cell? ⟨gb197, 1, none⟩ = some (.int .i64 t192) := (blk_cell BK197.out 1).trans rfl
             have hcz117_2 : wc.cell? ⟨gb197, 2, none⟩ = some (.slice Ao27 t193.length co27) := (blk_cell BK197.out 2).trans rfl
             have hfz117_0 := blk_frozen BK197.out 0
             have hfz117_1 := blk_frozen BK197.out 1
             have hfz117_2 := blk_frozen BK197.out 2
             go_wp2_with (first | (go_at_call 18; (refine (pelotonref04_Same.calls kj89 t191 t192 _ _ t193 0 0 _ _ ([] : List Int) true _ ?side1 ?side2 ?side3 ?side4 A112.out).mono ?_); (case side1 => repeat (first | exact (Kd.R_reads' HO_198002.out).2.2 | (with_reducible refine Kd.C_alloc ?_ _) | (with_reducible refine Kd.C_drewN ?_ _) | (with_reducible refine Kd.C_drew ?_))); (case side2 => exact (Kd.R_reads' HO_198002.out).2.1); (case side3 => exact Kd.C_nil _ _); (case side4 => exact Nat.le_refl _); rintro e w118 ⟨rfl, hb⟩; (try clear A112); have n0_ := Aside0.mk (Kd.R_below (by (with_reducible repeat (first | apply Kd.R_alloc | apply Kd.R_drewN | apply Kd.R_drew)); exact HO_198002.out) hb); have n1_ := Aside0.mk (Kd.R_below (by (with_reducible repeat (first | apply Kd.R_alloc | apply Kd.R_drewN | apply Kd.R_drew)); exact HO_205002.out) hb); have n2_ := Aside0.mk (Kd.R_below (by (with_reducible repeat (first | apply Kd.R_alloc | apply Kd.R_drewN | apply Kd.R_drew)); exact HO_212002.out) hb); have n3_ := Aside0.mk (blk_below (g := gb187) (o := .cells #[.int .i64 a0_0, .int .i64 a0_1, .slice A0_2 l0_2.length c0_2] 30 (0, 0)) (by (with_reducible repeat (first | refine k_n ?_ _ | refine k_d ?_ | refine k_a ?_ _)); exact BK187.out) hb); have n4_ := Aside0.mk (blk_below (g := gb197) (o := .cells #[.int .i64 t191, .int .i64 t192, .slice Ao27 t193.length co27] 30 (0, 0)) (by (with_reducible repeat (first | refine k_n ?_ _ | refine k_d ?_ | refine k_a ?_ _)); exact BK197.out) hb); have n5_ := Aside0.mk (blk_below (g := gb204) (o := .cells #[.int .i64 t198, .int .i64 t199, .slice Ao34 t200.length co34] 30 (0, 0)) (by (with_reducible repeat (first | refine k_n ?_ _ | refine k_d ?_ | refine k_a ?_ _)); exact BK204.out) hb); have n6_ := Aside0.mk (blk_below (g := gb211) (o := .cells #[.int .i64 t205, .int .i64 t206, .slice Ao42 t207.length co42] 51 (0, 0)) (by (with_reducible repeat (first | refine k_n ?_ _ | refine k_d ?_ | refine k_a ?_ _)); exact BK211.out) hb); have n7_ := Aside0.mk (below_step (by repeat (first | (with_reducible first | exact HB.out | apply b_a | apply b_n | apply b_d | refine b_s ?_ GE187.out | refine b_s ?_ GE197.out | refine b_s ?_ GE204.out | refine b_s ?_ GE211.out) | exact HB.out)) hb); clear HO_198002; clear HO_205002; clear HO_212002; clear BK187; clear BK197; clear BK204; clear BK211; clear HB; have HO_198002 := n0_; have HO_205002 := n1_; have HO_212002 := n2_; have BK187 := n3_; have BK197 := n4_; have BK204 := n5_; have BK211 := n6_; have HB := n7_; clear n0_ n1_ n2_ n3_ n4_ n5_ n6_ n7_; (try clear hb); (try clear hb2); (try clear hk); (try clear hi)))
             go_meet
             case rel => exact ⟨_, H', ⟨by have := HJ3.out; have := HJ20.out; have := HK3.out; have := HJ83.out; have := HJ89.out; first | omega | exact Nat.le_refl _⟩, ⟨by (with_reducible repeat (first | apply Kd.R_alloc | apply Kd.R_drewN | apply Kd.R_drew)); exact HO_198002.out⟩, ⟨by (with_reducible repeat (first | apply Kd.R_alloc | apply Kd.R_drewN | apply Kd.R_drew)); exact HO_205002.out⟩, ⟨by (with_reducible repeat (first | apply Kd.R_alloc | apply Kd.R_drewN | apply Kd.R_drew)); exact HO_212002.out⟩, ⟨by (with_reducible repeat (first | refine k_n ?_ _ | refine k_d ?_ | refine k_a ?_ _)); exact BK187.out⟩, ⟨by (with_reducible repeat (first | refine k_n ?_ _ | refine k_d ?_ | refine k_a ?_ _)); exact BK197.out⟩, ⟨by (with_reducible repeat (first | refine k_n ?_ _ | refine k_d ?_ | refine k_a ?_ _)); exact BK204.out⟩, ⟨by (with_reducible repeat (first | refine k_n ?_ _ | refine k_d ?_ | refine k_a ?_ _)); exact BK211.out⟩, ⟨by repeat (first | (with_reducible first | exact HB.out | apply b_a | apply b_n | apply b_d | refine b_s ?_ GE187.out | refine b_s ?_ GE197.out | refine b_s ?_ GE204.out | refine b_s ?_ GE211.out) | exact HB.out)⟩⟩
            subst c97
            have H1 : (if t196 = 0 then ((pelotonref04_Part.f kj89 a0_0 a0_1 l0_2 a1 a2 0 a0_1).bind fun bt217 => ((pelotonref04_Same.f kj89 t191 t192 t193 bt217.1 bt217.2.1 bt217.2.2).bind fun t222 => (if t222 = true then (pelotonlaw04_MatmulCuts.j6 kj89 a1 a2 t203 x14_83 a0_0 a0_1 l0_2 t198 t199 t200) else (some false)))) else (some false)) = some r := by rw [if_pos rfl] at H; exact H
            clear H
            have H := H1
            clear H1
            by_cases c98 : t196 = 0
            rotate_left
            ·
             rw [if_neg c98] at H
             have c98b0 : (t196 == 0) = false := beq_eq_false_iff_ne.mpr c98
             have c98b1 : (t196 != 0) = true := bne_iff_ne.mpr c98
             (first | rw [c98b0] | (simp only [i64_w, i32_w]; rw [c98b0]) | skip)
             obtain rfl := Option.some.inj H
             try go_wp2
             have n0_ := Aside0.mk (Kd.R_drew HO_198002.out)
             have n1_ := Aside0.mk (Kd.R_drew HO_205002.out)
             have n2_ := Aside0.mk (Kd.R_drew HO_212002.out)
             have n3_ := Aside0.mk (k_d BK187.out)
             have n4_ := Aside0.mk (k_d BK197.out)
             have n5_ := Aside0.mk (k_d BK204.out)
             have n6_ := Aside0.mk (k_d BK211.out)
             have n7_ := Aside0.mk (b_d HB.out)
             clear HO_198002
             clear HO_205002
             clear HO_212002
             clear BK187
             clear BK197
             clear BK204
             clear BK211
             clear HB
             have HO_198002 := n0_
             have HO_205002 := n1_
             have HO_212002 := n2_
             have BK187 := n3_
             have BK197 := n4_
             have BK204 := n5_
             have BK211 := n6_
             have HB := n7_
             clear n0_ n1_ n2_ n3_ n4_ n5_ n6_ n7_
             refine start_ (n := 13) (S := fun w' => True) (ds := []) #[false, false, false, false, false, false, false, false, false, false, false, false, false] (by kernel_rfl) rfl rfl trivial (fun hHeld => ?_); refine with_tabW pelotonlaw04_MatmulCuts.tab17 pelotonlaw04_MatmulCuts.bits17 (fun HT_ HW_ => ?_)
             generalize wc.drew = w110 at HO_198002 HO_205002 HO_212002 BK187 BK197 BK204 BK211 HB hHeld ⊢
             refine pure_ (i := 0) (N := some 123) (v := ?_) (a' := ?_) #[true, false, false, false, false, false, false, false, false, false, false, false, false] rfl rfl (any_of HT_.out (by kernel_rfl)) (fun _ _ _ h => h) (Or.inl ⟨by rfl, ?_⟩) ?_ ?_
             rotate_left
             ·
              intro w'
              go_simp
              with_reducible rfl
             rotate_left
             ·
              simp only [Act.put, l_1, l_2, l_3, i64_w, i32_w]
              rfl
             refine pure_ (i := 1) (N := some 124) (v := ?_) (a' := ?_) #[true, true, false, false, false, false, false, false, false, false, false, false, false] rfl rfl (any_of HT_.out (by kernel_rfl)) (fun _ _ _ h => h) (Or.inl ⟨by rfl, ?_⟩) ?_ ?_
             rotate_left
             ·
              intro w'
              go_simp
              with_reducible rfl
             rotate_left
             ·
              simp only [Act.put, l_1, l_2, l_3, i64_w, i32_w]
              rfl
             refine pure_ (i := 2) (N := some 125) (v := ?_) (a' := ?_) #[true, true, true, false, false, false, false, false, false, false, false, false, false] rfl rfl (any_of HT_.out (by kernel_rfl)) (fun _ _ _ h => h) (Or.inl ⟨by rfl, ?_⟩) ?_ ?_
             rotate_left
             ·
              intro w'
              go_simp
              with_reducible rfl
             rotate_left
             ·
              simp only [Act.put, l_1, l_2, l_3, i64_w, i32_w]
              rfl
             refine pure_ (i := 3) (N := some 126) (v := undef) (a' := ?_) #[true, true, true, true, false, false, false, false, false, false, false, false, false] rfl rfl (any_of HT_.out (by kernel_rfl)) (fun _ _ _ h => h) (Or.inr ⟨by rfl, rfl⟩) ?_ ?_
             rotate_left
             ·
              simp only [Act.put, l_1, l_2, l_3, i64_w, i32_w]
              rfl
             refine pure_ (i := 4) (N := some 127) (v := undef) (a' := ?_) #[true, true, true, true, true, false, false, false, false, false, false, false, false] rfl rfl (any_of HT_.out (by kernel_rfl)) (fun _ _ _ h => h) (Or.inr ⟨by rfl, rfl⟩) ?_ ?_
             rotate_left
             ·
              simp only [Act.put, l_1, l_2, l_3, i64_w, i32_w]
              rfl
             refine pure_ (i := 5) (N := some 128) (v := undef) (a' := ?_) #[true, true, true, true, true, true, false, false, false, false, false, false, false] rfl rfl (any_of HT_.out (by kernel_rfl)) (fun _ _ _ h => h) (Or.inr ⟨by rfl, rfl⟩) ?_ ?_
             rotate_left
             ·
              simp only [Act.put, l_1, l_2, l_3, i64_w, i32_w]
              rfl
             refine pure_ (i := 6) (N := some 129) (v := undef) (a' := ?_) #[true, true, true, true, true, true, true, false, false, false, false, false, false] rfl rfl (any_of HT_.out (by kernel_rfl)) (fun _ _ _ h => h) (Or.inr ⟨by rfl, rfl⟩) ?_ ?_
             rotate_left
             ·
              simp only [Act.put, l_1, l_2, l_3, i64_w, i32_w]
              rfl
             refine pure_ (i := 7) (N := some 130) (v := undef) (a' := ?_) #[true, true, true, true, true, true, true, true, false, false, false, false, false] rfl rfl (any_of HT_.out (by kernel_rfl)) (fun _ _ _ h => h) (Or.inr ⟨by rfl, rfl⟩) ?_ ?_
             rotate_left
             ·
              simp only [Act.put, l_1, l_2, l_3, i64_w, i32_w]
              rfl
             refine pure_ (i := 8) (N := some 131) (v := undef) (a' := ?_) #[true, true, true, true, true, true, true, true, true, false, false, false, false] rfl rfl (any_of HT_.out (by kernel_rfl)) (fun _ _ _ h => h) (Or.inr ⟨by rfl, rfl⟩) ?_ ?_
             rotate_left
             ·
              simp only [Act.put, l_1, l_2, l_3, i64_w, i32_w]
              rfl
             refine pure_ (i := 9) (N := some 132) (v := undef) (a' := ?_) #[true, true, true, true, true, true, true, true, true, true, false, false, false] rfl rfl (any_of HT_.out (by kernel_rfl)) (fun _ _ _ h => h) (Or.inr ⟨by rfl, rfl⟩) ?_ ?_
             rotate_left
             ·
              simp only [Act.put, l_1, l_2, l_3, i64_w, i32_w]
              rfl
             refine pure_ (i := 10) (N := some 133) (v := undef) (a' := ?_) #[true, true, true, true, true, true, true, true, true, true, true, false, false] rfl rfl (any_of HT_.out (by kernel_rfl)) (fun _ _ _ h => h) (Or.inr ⟨by rfl, rfl⟩) ?_ ?_
             rotate_left
             ·
              simp only [Act.put, l_1, l_2, l_3, i64_w, i32_w]
              rfl
             refine pure_ (i := 11) (N := some 134) (v := undef) (a' := ?_) #[true, true, true, true, true, true, true, true, true, true, true, true, false] rfl rfl (any_of HT_.out (by kernel_rfl)) (fun _ _ _ h => h) (Or.inr ⟨by rfl, rfl⟩) ?_ ?_
             rotate_left
             ·
              simp only [Act.put, l_1, l_2, l_3, i64_w, i32_w]
              rfl
             refine pure_ (i := 12) (N := some 135) (v := ?_) (a' := ?_) #[true, true, true, true, true, true, true, true, true, true, true, true, true] rfl rfl (any_of HT_.out (by kernel_rfl)) (fun _ _ _ h => h) (Or.inl ⟨by rfl, ?_⟩) ?_ ?_
             rotate_left
             ·
              intro w'
              go_simp
              with_reducible rfl
             rotate_left
             ·
              simp only [Act.put, l_1, l_2, l_3, i64_w, i32_w]
              rfl
             refine done_ (done_of HT_.out (by kernel_rfl)) ?_
             try go_wp2
             go_ret
             exact ⟨by first | rfl | (simp [errW_none, errW_some] <;> rfl) | (simp [*, errW_none, errW_some] <;> rfl), by repeat (first | (with_reducible first | exact HB.out | apply b_a | apply b_n | apply b_d | refine b_s ?_ GE187.out | refine b_s ?_ GE197.out | refine b_s ?_ GE204.out | refine b_s ?_ GE211.out) | exact HB.out)⟩
            rw [if_pos c98] at H
            have c98b0 : (t196 == 0) = true := beq_iff_eq.mpr c98
            have c98b1 : (t196 != 0) = false := bne_eq_false_iff_eq.mpr c98
            clear c98
            (first | rw [c98b0] | (simp only [i64_w, i32_w]; rw [c98b0]) | skip)
            replace H := Option.bind_eq_some_iff.mp H
            obtain ⟨⟨t217, t218, t219⟩, A990, H⟩ := H
            replace H : ((pelotonref04_Same.f kj89 t191 t192 t193 t217 t218 t219).bind fun t222 => (if t222 = true then (pelotonlaw04_MatmulCuts.j6 kj89 a1 a2 t203 x14_83 a0_0 a0_1 l0_2 t198 t199 t200) else (some false))) = some r := H
            have A99 := Aside0.mk A990
            clear A990
            replace H := Option.bind_eq_some_iff.mp H
            obtain ⟨t222, A1000, H⟩ := H
            replace H : (if t222 = true then (pelotonlaw04_MatmulCuts.j6 kj89 a1 a2 t203 x14_83 a0_0 a0_1 l0_2 t198 t199 t200) else (some false)) = some r := H
            have A100 := Aside0.mk A1000
            clear A1000
            by_cases c101 : t222 = true
            rotate_left
            ·
             replace c101 := Bool.eq_false_iff.mpr c101
             subst c101
             have H1 : (some false) = some r := by rw [if_neg (show ¬ (false = true) by decide)] at H; exact H
             clear H
             have H := H1
             clear H1
             obtain rfl := Option.some.inj H
             try go_wp2
             have n0_ := Aside0.mk (Kd.R_drew HO_198002.out)
             have n1_ := Aside0.mk (Kd.R_drew HO_205002.out)
             have n2_ := Aside0.mk (Kd.R_drew HO_212002.out)
             have n3_ := Aside0.mk (k_d BK187.out)
             have n4_ := Aside0.mk (k_d BK197.out)
             have n5_ := Aside0.mk (k_d BK204.out)
             have n6_ := Aside0.mk (k_d BK211.out)
             have n7_ := Aside0.mk (b_d HB.out)
             clear HO_198002
             clear HO_205002
             clear HO_212002
             clear BK187
             clear BK197
             clear BK204
             clear BK211
             clear HB
             have HO_198002 := n0_
             have HO_205002 := n1_
             have HO_212002 := n2_
             have BK187 := n3_
             have BK197 := n4_
             have BK204 := n5_
             have BK211 := n6_
             have HB := n7_
             clear n0_ n1_ n2_ n3_ n4_ n5_ n6_ n7_
             refine start_ (n := 13) (S := fun w' => w'.cell? ⟨gb197, 0, none⟩ = some (.int .i64 t191) ∧ w'.cell? ⟨gb197, 1, none⟩ = some (.int .i64 t192) ∧ w'.cell? ⟨gb197, 2, none⟩ = some (.slice Ao27 t193.length co27) ∧ w'.cell? ⟨gb187, 0, none⟩ = some (.int .i64 a0_0) ∧ w'.cell? ⟨gb187, 1, none⟩ = some (.int .i64 a0_1) ∧ w'.cell? ⟨gb187, 2, none⟩ = some (.slice A0_2 l0_2.length c0_2)) (ds := []) #[false, false, false, false, false, false, false, false, false, false, false, false, false] (by kernel_rfl) rfl rfl ⟨(blk_cell BK197.out 0).trans rfl, (blk_cell BK197.out 1).trans rfl, (blk_cell BK197.out 2).trans rfl, (blk_cell BK187.out 0).trans rfl, (blk_cell BK187.out 1).trans rfl, (blk_cell BK187.out 2).trans rfl⟩ (fun hHeld => ?_); refine with_tabW pelotonlaw04_MatmulCuts.tab17 pelotonlaw04_MatmulCuts.bits17 (fun HT_ HW_ => ?_)
             generalize wc.drew = w106 at HO_198002 HO_205002 HO_212002 BK187 BK197 BK204 BK211 HB hHeld ⊢
             refine pure_ (i := 0) (N := some 123) (v := ?_) (a' := ?_) #[true, false, false, false, false, false, false, false, false, false, false, false, false] rfl rfl (any_of HT_.out (by kernel_rfl)) (fun _ _ _ h => h) (Or.inl ⟨by rfl, ?_⟩) ?_ ?_
             rotate_left
             ·
              intro w'
              go_simp
              with_reducible rfl
             rotate_left
             ·
              simp only [Act.put, l_1, l_2, l_3, i64_w, i32_w]
              rfl
             refine pure_ (i := 1) (N := some 124) (v := ?_) (a' := ?_) #[true, true, false, false, false, false, false, false, false, false, false, false, false] rfl rfl (any_of HT_.out (by kernel_rfl)) (fun _ _ _ h => h) (Or.inl ⟨by rfl, ?_⟩) ?_ ?_
             rotate_left
             ·
              intro w'
              go_simp
              with_reducible rfl
             rotate_left
             ·
              simp only [Act.put, l_1, l_2, l_3, i64_w, i32_w]
              rfl
             refine pure_ (i := 2) (N := some 125) (v := ?_) (a' := ?_) #[true, true, true, false, false, false, false, false, false, false, false, false, false] rfl rfl (any_of HT_.out (by kernel_rfl)) (fun _ _ _ h => h) (Or.inl ⟨by rfl, ?_⟩) ?_ ?_
             rotate_left
             ·
              intro w'
              go_simp
              with_reducible rfl
             rotate_left
             ·
              simp only [Act.put, l_1, l_2, l_3, i64_w, i32_w]
              rfl
             refine pure_ (i := 5) (N := some 128) (v := ?_) (a' := ?_) #[true, true, true, false, false, true, false, false, false, false, false, false, false] rfl rfl (any_of HT_.out (by kernel_rfl)) (fun _ _ _ h => h) (Or.inl ⟨by rfl, ?_⟩) ?_ ?_
             rotate_left
             ·
              intro w'
              go_simp
              with_reducible rfl
             rotate_left
             ·
              simp only [Act.put, l_1, l_2, l_3, i64_w, i32_w]
              rfl
             refine pure_ (i := 6) (N := some 129) (v := ?_) (a' := ?_) #[true, true, true, false, false, true, true, false, false, false, false, false, false] rfl rfl (any_of HT_.out (by kernel_rfl)) (fun _ _ _ h => h) (Or.inl ⟨by rfl, ?_⟩) ?_ ?_
             rotate_left
             ·
              intro w'
              go_simp
              with_reducible rfl
             rotate_left
             ·
              simp only [Act.put, l_1, l_2, l_3, i64_w, i32_w]
              rfl
             refine pure_ (i := 7) (N := some 130) (v := ?_) (a' := ?_) #[true, true, true, false, false, true, true, true, false, false, false, false, false] rfl rfl (any_of HT_.out (by kernel_rfl)) (fun _ _ _ h => h) (Or.inl ⟨by rfl, ?_⟩) ?_ ?_
             rotate_left
             ·
              intro w'
              go_simp
              with_reducible rfl
             rotate_left
             ·
              simp only [Act.put, l_1, l_2, l_3, i64_w, i32_w]
              rfl
             refine take_ (i := 3) (N := some 126) (v := ?_) (a' := ?_) #[true, true, true, true, false, true, true, true, false, false, false, false, false] rfl rfl (take_ofW HT_.out HW_.out (by kernel_rfl)) (fun _ _ _ h => h) (Or.inl ⟨by rfl, ?_⟩) hHeld ?_ ?_
             rotate_left
             ·
              rintro w' ⟨s0, s1, s2, s3, s4, s5⟩
              go_simp
              with_reducible rfl
             rotate_left
             ·
              simp only [Act.put, l_1, l_2, l_3, i64_w, i32_w]
              rfl
             refine take_ (i := 4) (N := some 127) (v := ?_) (a' := ?_) #[true, true, true, true, true, true, true, true, false, false, false, false, false] rfl rfl (take_ofW HT_.out HW_.out (by kernel_rfl)) (fun _ _ _ h => h) (Or.inl ⟨by rfl, ?_⟩) hHeld ?_ ?_
             rotate_left
             ·
              rintro w' ⟨s0, s1, s2, s3, s4, s5⟩
              go_simp
              with_reducible rfl
             rotate_left
             ·
              simp only [Act.put, l_1, l_2, l_3, i64_w, i32_w]
              rfl
             refine take_ (i := 8) (N := some 131) (v := ?_) (a' := ?_) #[true, true, true, true, true, true, true, true, true, false, false, false, false] rfl rfl (take_ofW HT_.out HW_.out (by kernel_rfl)) (fun _ _ _ h => h) (Or.inl ⟨by rfl, ?_⟩) hHeld ?_ ?_
             rotate_left
             ·
              rintro w' ⟨s0, s1, s2, s3, s4, s5⟩
              go_simp
              with_reducible rfl
             rotate_left
             ·
              simp only [Act.put, l_1, l_2, l_3, i64_w, i32_w]
              rfl
             refine one_ (i := 9) (N := some 132) #[true, true, true, true, true, true, true, true, true, true, false, false, false] rfl rfl (one_of HT_.out (by kernel_rfl)) (by decide) (fun K hK => ?_)
             refine goes_ Try.func27 (by kernel_rfl) rfl #[.agg #[.int .i64 a0_0, .int .i64 a0_1, .slice A0_2 l0_2.length c0_2], .int .i64 a1, .int .i64 a2, .int .i64 0, .int .i64 a0_1] (by rfl) rfl rfl (by (try simp only [l_4, l_5, l_6]); first | done | rfl | (simp only [l_7, l_8]; rfl)) ?_
             with_reducible refine (pelotonref04_Part.calls kj89 a0_0 a0_1 _ _ l0_2 a1 a2 0 a0_1 t217 t218 t219 _ ?side1 ?side2 A99.out).mono ?_
             (case side1 => repeat (first | exact (Kd.C_below HR0_2.out HB.out) | (with_reducible refine Kd.C_alloc ?_ _) | (with_reducible refine Kd.C_drewN ?_ _) | (with_reducible refine Kd.C_drew ?_)))
             (case side2 => exact HC0_2.out)
             rintro e w107 ⟨v220, rfl, ho0, hb⟩
             refine ⟨_, rfl, ?_⟩
             have n0_ := Aside0.mk (Kd.R_elder' (by (with_reducible repeat (first | apply Kd.R_alloc | apply Kd.R_drewN | apply Kd.R_drew)); exact HO_198002.out) (Kd.R_base ho0) hb)
             have n1_ := Aside0.mk (Kd.R_elder' (by (with_reducible repeat (first | apply Kd.R_alloc | apply Kd.R_drewN | apply Kd.R_drew)); exact HO_205002.out) (Kd.R_base ho0) hb)
             have n2_ := Aside0.mk (Kd.R_below (by (with_reducible repeat (first | apply Kd.R_alloc | apply Kd.R_drewN | apply Kd.R_drew)); exact HO_212002.out) hb)
             have n3_ := Aside0.mk (Kd.R_lower (Kd.R_new' (Kd.R_new' ho0 (Kd.R_lt (by (with_reducible repeat (first | apply Kd.R_alloc | apply Kd.R_drewN | apply Kd.R_drew)); exact HO_198002.out))) (Kd.R_lt (by (with_reducible repeat (first | apply Kd.R_alloc | apply Kd.R_drewN | apply Kd.R_drew)); exact HO_205002.out))) (below_size (by repeat (first | (with_reducible first | exact HB.out | apply b_a | apply b_n | apply b_d | refine b_s ?_ GE187.out | refine b_s ?_ GE197.out | refine b_s ?_ GE204.out | refine b_s ?_ GE211.out) | exact HB.out))))
             have n4_ := Aside0.mk (blk_below (g := gb187) (o := .cells #[.int .i64 a0_0, .int .i64 a0_1, .slice A0_2 l0_2.length c0_2] 30 (0, 0)) (by (with_reducible repeat (first | refine k_n ?_ _ | refine k_d ?_ | refine k_a ?_ _)); exact BK187.out) hb)
             have n5_ := Aside0.mk (blk_below (g := gb197) (o := .cells #[.int .i64 t191, .int .i64 t192, .slice Ao27 t193.length co27] 30 (0, 0)) (by (with_reducible repeat (first | refine k_n ?_ _ | refine k_d ?_ | refine k_a ?_ _)); exact BK197.out) hb)
             have n6_ := Aside0.mk (blk_below (g := gb204) (o := .cells #[.int .i64 t198, .int .i64 t199, .slice Ao34 t200.length co34] 30 (0, 0)) (by (with_reducible repeat (first | refine k_n ?_ _ | refine k_d ?_ | refine k_a ?_ _)); exact BK204.out) hb)
             have n7_ := Aside0.mk (blk_below (g := gb211) (o := .cells #[.int .i64 t205, .int .i64 t206, .slice Ao42 t207.length co42] 51 (0, 0)) (by (with_reducible repeat (first | refine k_n ?_ _ | refine k_d ?_ | refine k_a ?_ _)); exact BK211.out) hb)
             have n8_ := Aside0.mk (below_step (by repeat (first | (with_reducible first | exact HB.out | apply b_a | apply b_n | apply b_d | refine b_s ?_ GE187.out | refine b_s ?_ GE197.out | refine b_s ?_ GE204.out | refine b_s ?_ GE211.out) | exact HB.out)) hb)
             clear HO_198002
             clear HO_205002
             clear HO_212002
             clear BK187
             clear BK197
             clear BK204
             clear BK211
             clear HB
             have HO_198002 := n0_
             have HO_205002 := n1_
             have HO_212002 := n2_
             have HO221 := n3_
             have BK187 := n4_
             have BK197 := n5_
             have BK204 := n6_
             have BK211 := n7_
             have HB := n8_
             clear n0_ n1_ n2_ n3_ n4_ n5_ n6_ n7_ n8_
             (try clear hb)
             (try clear hb2)
             (try clear hk)
             (try clear hi)
             (try clear ho0)
             obtain ⟨Ao108, co108, eo108⟩ := Kd.R_slice HO221.out
             (first | subst eo108 | (injection eo108 with f1_ f2_ f3_; have f4_ := f1_.symm; have f5_ := f3_.symm; clear f1_ f2_ f3_; subst f4_; subst f5_))
             refine hK.out _ _ ⟨(blk_cell BK197.out 0).trans rfl, (blk_cell BK197.out 1).trans rfl, (blk_cell BK197.out 2).trans rfl, (blk_cell BK187.out 0).trans rfl, (blk_cell BK187.out 1).trans rfl, (blk_cell BK187.out 2).trans rfl⟩ (fun hHeld => ?_)
             clear hK K
             refine norm_ (a' := ?_) ?_ ?_
             rotate_left
             ·
              show Act.put _ (some 132) _ = _
              simp only [Act.put, l_1, l_2, l_3, i64_w, i32_w]
              rfl
             refine one_ (i := 10) (N := some 133) #[true, true, true, true, true, true, true, true, true, true, true, false, false] rfl rfl (one_of HT_.out (by kernel_rfl)) (by decide) (fun K hK => ?_)
             refine goes_ Try.func18 (by kernel_rfl) rfl #[.agg #[.int .i64 t191, .int .i64 t192, .slice Ao27 t193.length co27], .agg #[.int .i64 t217, .int .i64 t218, .slice Ao108 t219.length co108]] (by rfl) rfl rfl (by (try simp only [l_4, l_5, l_6]); first | done | rfl | (simp only [l_7, l_8]; rfl)) ?_
             with_reducible refine (pelotonref04_Same.calls kj89 t191 t192 _ _ t193 t217 t218 _ _ t219 false _ ?side1 ?side2 ?side3 ?side4 A100.out).mono ?_
             (case side1 => repeat (first | exact (Kd.R_reads' HO_198002.out).2.2 | (with_reducible refine Kd.C_alloc ?_ _) | (with_reducible refine Kd.C_drewN ?_ _) | (with_reducible refine Kd.C_drew ?_)))
             (case side2 => exact (Kd.R_reads' HO_198002.out).2.1)
             (case side3 => repeat (first | exact (Kd.R_reads' HO221.out).2.2 | (with_reducible refine Kd.C_alloc ?_ _) | (with_reducible refine Kd.C_drewN ?_ _) | (with_reducible refine Kd.C_drew ?_)))
             (case side4 => exact (Kd.R_reads' HO221.out).2.1)
             rintro e w109 ⟨rfl, hb⟩
             refine ⟨_, rfl, ?_⟩
             have n0_ := Aside0.mk (Kd.R_below (by (with_reducible repeat (first | apply Kd.R_alloc | apply Kd.R_drewN | apply Kd.R_drew)); exact HO_198002.out) hb)
             have n1_ := Aside0.mk (Kd.R_below (by (with_reducible repeat (first | apply Kd.R_alloc | apply Kd.R_drewN | apply Kd.R_drew)); exact HO_205002.out) hb)
             have n2_ := Aside0.mk (Kd.R_below (by (with_reducible repeat (first | apply Kd.R_alloc | apply Kd.R_drewN | apply Kd.R_drew)); exact HO_212002.out) hb)
             have n3_ := Aside0.mk (Kd.R_below (by (with_reducible repeat (first | apply Kd.R_alloc | apply Kd.R_drewN | apply Kd.R_drew)); exact HO221.out) hb)
             have n4_ := Aside0.mk (blk_below (g := gb187) (o := .cells #[.int .i64 a0_0, .int .i64 a0_1, .slice A0_2 l0_2.length c0_2] 30 (0, 0)) (by (with_reducible repeat (first | refine k_n ?_ _ | refine k_d ?_ | refine k_a ?_ _)); exact BK187.out) hb)
             have n5_ := Aside0.mk (blk_below (g := gb197) (o := .cells #[.int .i64 t191, .int .i64 t192, .slice Ao27 t193.length co27] 30 (0, 0)) (by (with_reducible repeat (first | refine k_n ?_ _ | refine k_d ?_ | refine k_a ?_ _)); exact BK197.out) hb)
             have n6_ := Aside0.mk (blk_below (g := gb204) (o := .cells #[.int .i64 t198, .int .i64 t199, .slice Ao34 t200.length co34] 30 (0, 0)) (by (with_reducible repeat (first | refine k_n ?_ _ | refine k_d ?_ | refine k_a ?_ _)); exact BK204.out) hb)
             have n7_ := Aside0.mk (blk_below (g := gb211) (o := .cells #[.int .i64 t205, .int .i64 t206, .slice Ao42 t207.length co42] 51 (0, 0)) (by (with_reducible repeat (first | refine k_n ?_ _ | refine k_d ?_ | refine k_a ?_ _)); exact BK211.out) hb)
             have n8_ := Aside0.mk (below_step (by repeat (first | (with_reducible first | exact HB.out | apply b_a | apply b_n | apply b_d | refine b_s ?_ GE187.out | refine b_s ?_ GE197.out | refine b_s ?_ GE204.out | refine b_s ?_ GE211.out) | exact HB.out)) hb)
             clear HO_198002
             clear HO_205002
             clear HO_212002
             clear HO221
             clear BK187
             clear BK197
             clear BK204
             clear BK211
             clear HB
             have HO_198002 := n0_
             have HO_205002 := n1_
             have HO_212002 := n2_
             have HO221 := n3_
             have BK187 := n4_
             have BK197 := n5_
             have BK204 := n6_
             have BK211 := n7_
             have HB := n8_
             clear n0_ n1_ n2_ n3_ n4_ n5_ n6_ n7_ n8_
             (try clear hb)
             (try clear hb2)
             (try clear hk)
             (try clear hi)
             refine hK.out _ _ ⟨(blk_cell BK197.out 0).trans rfl, (blk_cell BK197.out 1).trans rfl, (blk_cell BK197.out 2).trans rfl, (blk_cell BK187.out 0).trans rfl, (blk_cell BK187.out 1).trans rfl, (blk_cell BK187.out 2).trans rfl⟩ (fun hHeld => ?_)
             clear hK K
             refine norm_ (a' := ?_) ?_ ?_
             rotate_left
             ·
              show Act.put _ (some 133) _ = _
              simp only [Act.put, l_1, l_2, l_3, i64_w, i32_w]
              rfl
             refine pure_ (i := 11) (N := some 134) (v := ?_) (a' := ?_) #[true, true, true, true, true, true, true, true, true, true, true, true, false] rfl rfl (any_of HT_.out (by kernel_rfl)) (fun _ _ _ h => h) (Or.inl ⟨by rfl, ?_⟩) ?_ ?_
             rotate_left
             ·
              intro w'
              go_simp
              with_reducible rfl
             rotate_left
             ·
              simp only [Act.put, l_1, l_2, l_3, i64_w, i32_w]
              rfl
             refine pure_ (i := 12) (N := some 135) (v := ?_) (a' := ?_) #[true, true, true, true, true, true, true, true, true, true, true, true, true] rfl rfl (any_of HT_.out (by kernel_rfl)) (fun _ _ _ h => h) (Or.inl ⟨by rfl, ?_⟩) ?_ ?_
             rotate_left
             ·
              intro w'
              go_simp
              with_reducible rfl
             rotate_left
             ·
              simp only [Act.put, l_1, l_2, l_3, i64_w, i32_w]
              rfl
             refine done_ (done_of HT_.out (by kernel_rfl)) ?_
             try go_wp2
             go_ret
             exact ⟨by first | rfl | (simp [errW_none, errW_some] <;> rfl) | (simp [*, errW_none, errW_some] <;> rfl), by repeat (first | (with_reducible first | exact HB.out | apply b_a | apply b_n | apply b_d | refine b_s ?_ GE187.out | refine b_s ?_ GE197.out | refine b_s ?_ GE204.out | refine b_s ?_ GE211.out) | exact HB.out)⟩
            subst c101
            have H1 : (pelotonlaw04_MatmulCuts.j6 kj89 a1 a2 t203 x14_83 a0_0 a0_1 l0_2 t198 t199 t200) = some r := by rw [if_pos rfl] at H; exact H
            clear H
            have H := H1
            clear H1
            have H' := Aside0.mk H
            clear H
            try go_wp2
            have n0_ := Aside0.mk (Kd.R_drew HO_198002.out)
            have n1_ := Aside0.mk (Kd.R_drew HO_205002.out)
            have n2_ := Aside0.mk (Kd.R_drew HO_212002.out)
            have n3_ := Aside0.mk (k_d BK187.out)
            have n4_ := Aside0.mk (k_d BK197.out)
            have n5_ := Aside0.mk (k_d BK204.out)
            have n6_ := Aside0.mk (k_d BK211.out)
            have n7_ := Aside0.mk (b_d HB.out)
            clear HO_198002
            clear HO_205002
            clear HO_212002
            clear BK187
            clear BK197
            clear BK204
            clear BK211
            clear HB
            have HO_198002 := n0_
            have HO_205002 := n1_
            have HO_212002 := n2_
            have BK187 := n3_
            have BK197 := n4_
            have BK204 := n5_
            have BK211 := n6_
            have HB := n7_
            clear n0_ n1_ n2_ n3_ n4_ n5_ n6_ n7_
            refine start_ (n := 13) (S := fun w' => w'.cell? ⟨gb197, 0, none⟩ = some (.int .i64 t191) ∧ w'.cell? ⟨gb197, 1, none⟩ = some (.int .i64 t192) ∧ w'.cell? ⟨gb197, 2, none⟩ = some (.slice Ao27 t193.length co27) ∧ w'.cell? ⟨gb187, 0, none⟩ = some (.int .i64 a0_0) ∧ w'.cell? ⟨gb187, 1, none⟩ = some (.int .i64 a0_1) ∧ w'.cell? ⟨gb187, 2, none⟩ = some (.slice A0_2 l0_2.length c0_2)) (ds := []) #[false, false, false, false, false, false, false, false, false, false, false, false, false] (by kernel_rfl) rfl rfl ⟨(blk_cell BK197.out 0).trans rfl, (blk_cell BK197.out 1).trans rfl, (blk_cell BK197.out 2).trans rfl, (blk_cell BK187.out 0).trans rfl, (blk_cell BK187.out 1).trans rfl, (blk_cell BK187.out 2).trans rfl⟩ (fun hHeld => ?_); refine with_tabW pelotonlaw04_MatmulCuts.tab17 pelotonlaw04_MatmulCuts.bits17 (fun HT_ HW_ => ?_)
            generalize wc.drew = w102 at HO_198002 HO_205002 HO_212002 BK187 BK197 BK204 BK211 HB hHeld ⊢
            refine pure_ (i := 0) (N := some 123) (v := ?_) (a' := ?_) #[true, false, false, false, false, false, false, false, false, false, false, false, false] rfl rfl (any_of HT_.out (by kernel_rfl)) (fun _ _ _ h => h) (Or.inl ⟨by rfl, ?_⟩) ?_ ?_
            rotate_left
            ·
             intro w'
             go_simp
             with_reducible rfl
            rotate_left
            ·
             simp only [Act.put, l_1, l_2, l_3, i64_w, i32_w]
             rfl
            refine pure_ (i := 1) (N := some 124) (v := ?_) (a' := ?_) #[true, true, false, false, false, false, false, false, false, false, false, false, false] rfl rfl (any_of HT_.out (by kernel_rfl)) (fun _ _ _ h => h) (Or.inl ⟨by rfl, ?_⟩) ?_ ?_
            rotate_left
            ·
             intro w'
             go_simp
             with_reducible rfl
            rotate_left
            ·
             simp only [Act.put, l_1, l_2, l_3, i64_w, i32_w]
             rfl
            refine pure_ (i := 2) (N := some 125) (v := ?_) (a' := ?_) #[true, true, true, false, false, false, false, false, false, false, false, false, false] rfl rfl (any_of HT_.out (by kernel_rfl)) (fun _ _ _ h => h) (Or.inl ⟨by rfl, ?_⟩) ?_ ?_
            rotate_left
            ·
             intro w'
             go_simp
             with_reducible rfl
            rotate_left
            ·
             simp only [Act.put, l_1, l_2, l_3, i64_w, i32_w]
             rfl
            refine pure_ (i := 5) (N := some 128) (v := ?_) (a' := ?_) #[true, true, true, false, false, true, false, false, false, false, false, false, false] rfl rfl (any_of HT_.out (by kernel_rfl)) (fun _ _ _ h => h) (Or.inl ⟨by rfl, ?_⟩) ?_ ?_
            rotate_left
            ·
             intro w'
             go_simp
             with_reducible rfl
            rotate_left
            ·
             simp only [Act.put, l_1, l_2, l_3, i64_w, i32_w]
             rfl
            refine pure_ (i := 6) (N := some 129) (v := ?_) (a' := ?_) #[true, true, true, false, false, true, true, false, false, false, false, false, false] rfl rfl (any_of HT_.out (by kernel_rfl)) (fun _ _ _ h => h) (Or.inl ⟨by rfl, ?_⟩) ?_ ?_
            rotate_left
            ·
             intro w'
             go_simp
             with_reducible rfl
            rotate_left
            ·
             simp only [Act.put, l_1, l_2, l_3, i64_w, i32_w]
             rfl
            refine pure_ (i := 7) (N := some 130) (v := ?_) (a' := ?_) #[true, true, true, false, false, true, true, true, false, false, false, false, false] rfl rfl (any_of HT_.out (by kernel_rfl)) (fun _ _ _ h => h) (Or.inl ⟨by rfl, ?_⟩) ?_ ?_
            rotate_left
            ·
             intro w'
             go_simp
             with_reducible rfl
            rotate_left
            ·
             simp only [Act.put, l_1, l_2, l_3, i64_w, i32_w]
             rfl
            refine take_ (i := 3) (N := some 126) (v := ?_) (a' := ?_) #[true, true, true, true, false, true, true, true, false, false, false, false, false] rfl rfl (take_ofW HT_.out HW_.out (by kernel_rfl)) (fun _ _ _ h => h) (Or.inl ⟨by rfl, ?_⟩) hHeld ?_ ?_
            rotate_left
            ·
             rintro w' ⟨s0, s1, s2, s3, s4, s5⟩
             go_simp
             with_reducible rfl
            rotate_left
            ·
             simp only [Act.put, l_1, l_2, l_3, i64_w, i32_w]
             rfl
            refine take_ (i := 4) (N := some 127) (v := ?_) (a' := ?_) #[true, true, true, true, true, true, true, true, false, false, false, false, false] rfl rfl (take_ofW HT_.out HW_.out (by kernel_rfl)) (fun _ _ _ h => h) (Or.inl ⟨by rfl, ?_⟩) hHeld ?_ ?_
            rotate_left
            ·
             rintro w' ⟨s0, s1, s2, s3, s4, s5⟩
             go_simp
             with_reducible rfl
            rotate_left
            ·
             simp only [Act.put, l_1, l_2, l_3, i64_w, i32_w]
             rfl
            refine take_ (i := 8) (N := some 131) (v := ?_) (a' := ?_) #[true, true, true, true, true, true, true, true, true, false, false, false, false] rfl rfl (take_ofW HT_.out HW_.out (by kernel_rfl)) (fun _ _ _ h => h) (Or.inl ⟨by rfl, ?_⟩) hHeld ?_ ?_
            rotate_left
            ·
             rintro w' ⟨s0, s1, s2, s3, s4, s5⟩
             go_simp
             with_reducible rfl
            rotate_left
            ·
             simp only [Act.put, l_1, l_2, l_3, i64_w, i32_w]
             rfl
            refine one_ (i := 9) (N := some 132) #[true, true, true, true, true, true, true, true, true, true, false, false, false] rfl rfl (one_of HT_.out (by kernel_rfl)) (by decide) (fun K hK => ?_)
            refine goes_ Try.func27 (by kernel_rfl) rfl #[.agg #[.int .i64 a0_0, .int .i64 a0_1, .slice A0_2 l0_2.length c0_2], .int .i64 a1, .int .i64 a2, .int .i64 0, .int .i64 a0_1] (by rfl) rfl rfl (by (try simp only [l_4, l_5, l_6]); first | done | rfl | (simp only [l_7, l_8]; rfl)) ?_
            with_reducible refine (pelotonref04_Part.calls kj89 a0_0 a0_1 _ _ l0_2 a1 a2 0 a0_1 t217 t218 t219 _ ?side1 ?side2 A99.out).mono ?_
            (case side1 => repeat (first | exact (Kd.C_below HR0_2.out HB.out) | (with_reducible refine Kd.C_alloc ?_ _) | (with_reducible refine Kd.C_drewN ?_ _) | (with_reducible refine Kd.C_drew ?_)))
            (case side2 => exact HC0_2.out)
            rintro e w103 ⟨v220, rfl, ho0, hb⟩
            refine ⟨_, rfl, ?_⟩
            have n0_ := Aside0.mk (Kd.R_elder' (by (with_reducible repeat (first | apply Kd.R_alloc | apply Kd.R_drewN | apply Kd.R_drew)); exact HO_198002.out) (Kd.R_base ho0) hb)
            have n1_ := Aside0.mk (Kd.R_elder' (by (with_reducible repeat (first | apply Kd.R_alloc | apply Kd.R_drewN | apply Kd.R_drew)); exact HO_205002.out) (Kd.R_base ho0) hb)
            have n2_ := Aside0.mk (Kd.R_below (by (with_reducible repeat (first | apply Kd.R_alloc | apply Kd.R_drewN | apply Kd.R_drew)); exact HO_212002.out) hb)
            have n3_ := Aside0.mk (Kd.R_lower (Kd.R_new' (Kd.R_new' ho0 (Kd.R_lt (by (with_reducible repeat (first | apply Kd.R_alloc | apply Kd.R_drewN | apply Kd.R_drew)); exact HO_198002.out))) (Kd.R_lt (by (with_reducible repeat (first | apply Kd.R_alloc | apply Kd.R_drewN | apply Kd.R_drew)); exact HO_205002.out))) (below_size (by repeat (first | (with_reducible first | exact HB.out | apply b_a | apply b_n | apply b_d | refine b_s ?_ GE187.out | refine b_s ?_ GE197.out | refine b_s ?_ GE204.out | refine b_s ?_ GE211.out) | exact HB.out))))
            have n4_ := Aside0.mk (blk_below (g := gb187) (o := .cells #[.int .i64 a0_0, .int .i64 a0_1, .slice A0_2 l0_2.length c0_2] 30 (0, 0)) (by (with_reducible repeat (first | refine k_n ?_ _ | refine k_d ?_ | refine k_a ?_ _)); exact BK187.out) hb)
            have n5_ := Aside0.mk (blk_below (g := gb197) (o := .cells #[.int .i64 t191, .int .i64 t192, .slice Ao27 t193.length co27] 30 (0, 0)) (by (with_reducible repeat (first | refine k_n ?_ _ | refine k_d ?_ | refine k_a ?_ _)); exact BK197.out) hb)
            have n6_ := Aside0.mk (blk_below (g := gb204) (o := .cells #[.int .i64 t198, .int .i64 t199, .slice Ao34 t200.length co34] 30 (0, 0)) (by (with_reducible repeat (first | refine k_n ?_ _ | refine k_d ?_ | refine k_a ?_ _)); exact BK204.out) hb)
            have n7_ := Aside0.mk (blk_below (g := gb211) (o := .cells #[.int .i64 t205, .int .i64 t206, .slice Ao42 t207.length co42] 51 (0, 0)) (by (with_reducible repeat (first | refine k_n ?_ _ | refine k_d ?_ | refine k_a ?_ _)); exact BK211.out) hb)
            have n8_ := Aside0.mk (below_step (by repeat (first | (with_reducible first | exact HB.out | apply b_a | apply b_n | apply b_d | refine b_s ?_ GE187.out | refine b_s ?_ GE197.out | refine b_s ?_ GE204.out | refine b_s ?_ GE211.out) | exact HB.out)) hb)
            clear HO_198002
            clear HO_205002
            clear HO_212002
            clear BK187
            clear BK197
            clear BK204
            clear BK211
            clear HB
            have HO_198002 := n0_
            have HO_205002 := n1_
            have HO_212002 := n2_
            have HO221 := n3_
            have BK187 := n4_
            have BK197 := n5_
            have BK204 := n6_
            have BK211 := n7_
            have HB := n8_
            clear n0_ n1_ n2_ n3_ n4_ n5_ n6_ n7_ n8_
            (try clear hb)
            (try clear hb2)
            (try clear hk)
            (try clear hi)
            (try clear ho0)
            obtain ⟨Ao104, co104, eo104⟩ := Kd.R_slice HO221.out
            (first | subst eo104 | (injection eo104 with f1_ f2_ f3_; have f4_ := f1_.symm; have f5_ := f3_.symm; clear f1_ f2_ f3_; subst f4_; subst f5_))
            refine hK.out _ _ ⟨(blk_cell BK197.out 0).trans rfl, (blk_cell BK197.out 1).trans rfl, (blk_cell BK197.out 2).trans rfl, (blk_cell BK187.out 0).trans rfl, (blk_cell BK187.out 1).trans rfl, (blk_cell BK187.out 2).trans rfl⟩ (fun hHeld => ?_)
            clear hK K
            refine norm_ (a' := ?_) ?_ ?_
            rotate_left
            ·
             show Act.put _ (some 132) _ = _
             simp only [Act.put, l_1, l_2, l_3, i64_w, i32_w]
             rfl
            refine one_ (i := 10) (N := some 133) #[true, true, true, true, true, true, true, true, true, true, true, false, false] rfl rfl (one_of HT_.out (by kernel_rfl)) (by decide) (fun K hK => ?_)
            refine goes_ Try.func18 (by kernel_rfl) rfl #[.agg #[.int .i64 t191, .int .i64 t192, .slice Ao27 t193.length co27], .agg #[.int .i64 t217, .int .i64 t218, .slice Ao104 t219.length co104]] (by rfl) rfl rfl (by (try simp only [l_4, l_5, l_6]); first | done | rfl | (simp only [l_7, l_8]; rfl)) ?_
            with_reducible refine (pelotonref04_Same.calls kj89 t191 t192 _ _ t193 t217 t218 _ _ t219 true _ ?side1 ?side2 ?side3 ?side4 A100.out).mono ?_
            (case side1 => repeat (first | exact (Kd.R_reads' HO_198002.out).2.2 | (with_reducible refine Kd.C_alloc ?_ _) | (with_reducible refine Kd.C_drewN ?_ _) | (with_reducible refine Kd.C_drew ?_)))
            (case side2 => exact (Kd.R_reads' HO_198002.out).2.1)
            (case side3 => repeat (first | exact (Kd.R_reads' HO221.out).2.2 | (with_reducible refine Kd.C_alloc ?_ _) | (with_reducible refine Kd.C_drewN ?_ _) | (with_reducible refine Kd.C_drew ?_)))
            (case side4 => exact (Kd.R_reads' HO221.out).2.1)
            rintro e w105 ⟨rfl, hb⟩
            refine ⟨_, rfl, ?_⟩
            have n0_ := Aside0.mk (Kd.R_below (by (with_reducible repeat (first | apply Kd.R_alloc | apply Kd.R_drewN | apply Kd.R_drew)); exact HO_198002.out) hb)
            have n1_ := Aside0.mk (Kd.R_below (by (with_reducible repeat (first | apply Kd.R_alloc | apply Kd.R_drewN | apply Kd.R_drew)); exact HO_205002.out) hb)
            have n2_ := Aside0.mk (Kd.R_below (by (with_reducible repeat (first | apply Kd.R_alloc | apply Kd.R_drewN | apply Kd.R_drew)); exact HO_212002.out) hb)
            have n3_ := Aside0.mk (Kd.R_below (by (with_reducible repeat (first | apply Kd.R_alloc | apply Kd.R_drewN | apply Kd.R_drew)); exact HO221.out) hb)
            have n4_ := Aside0.mk (blk_below (g := gb187) (o := .cells #[.int .i64 a0_0, .int .i64 a0_1, .slice A0_2 l0_2.length c0_2] 30 (0, 0)) (by (with_reducible repeat (first | refine k_n ?_ _ | refine k_d ?_ | refine k_a ?_ _)); exact BK187.out) hb)
            have n5_ := Aside0.mk (blk_below (g := gb197) (o := .cells #[.int .i64 t191, .int .i64 t192, .slice Ao27 t193.length co27] 30 (0, 0)) (by (with_reducible repeat (first | refine k_n ?_ _ | refine k_d ?_ | refine k_a ?_ _)); exact BK197.out) hb)
            have n6_ := Aside0.mk (blk_below (g := gb204) (o := .cells #[.int .i64 t198, .int .i64 t199, .slice Ao34 t200.length co34] 30 (0, 0)) (by (with_reducible repeat (first | refine k_n ?_ _ | refine k_d ?_ | refine k_a ?_ _)); exact BK204.out) hb)
            have n7_ := Aside0.mk (blk_below (g := gb211) (o := .cells #[.int .i64 t205, .int .i64 t206, .slice Ao42 t207.length co42] 51 (0, 0)) (by (with_reducible repeat (first | refine k_n ?_ _ | refine k_d ?_ | refine k_a ?_ _)); exact BK211.out) hb)
            have n8_ := Aside0.mk (below_step (by repeat (first | (with_reducible first | exact HB.out | apply b_a | apply b_n | apply b_d | refine b_s ?_ GE187.out | refine b_s ?_ GE197.out | refine b_s ?_ GE204.out | refine b_s ?_ GE211.out) | exact HB.out)) hb)
            clear HO_198002
            clear HO_205002
            clear HO_212002
            clear HO221
            clear BK187
            clear BK197
            clear BK204
            clear BK211
            clear HB
            have HO_198002 := n0_
            have HO_205002 := n1_
            have HO_212002 := n2_
            have HO221 := n3_
            have BK187 := n4_
            have BK197 := n5_
            have BK204 := n6_
            have BK211 := n7_
            have HB := n8_
            clear n0_ n1_ n2_ n3_ n4_ n5_ n6_ n7_ n8_
            (try clear hb)
            (try clear hb2)
            (try clear hk)
            (try clear hi)
            refine hK.out _ _ ⟨(blk_cell BK197.out 0).trans rfl, (blk_cell BK197.out 1).trans rfl, (blk_cell BK197.out 2).trans rfl, (blk_cell BK187.out 0).trans rfl, (blk_cell BK187.out 1).trans rfl, (blk_cell BK187.out 2).trans rfl⟩ (fun hHeld => ?_)
            clear hK K
            refine norm_ (a' := ?_) ?_ ?_
            rotate_left
            ·
             show Act.put _ (some 133) _ = _
             simp only [Act.put, l_1, l_2, l_3, i64_w, i32_w]
             rfl
            refine pure_ (i := 11) (N := some 134) (v := ?_) (a' := ?_) #[true, true, true, true, true, true, true, true, true, true, true, true, false] rfl rfl (any_of HT_.out (by kernel_rfl)) (fun _ _ _ h => h) (Or.inl ⟨by rfl, ?_⟩) ?_ ?_
            rotate_left
            ·
             intro w'
             go_simp
             with_reducible rfl
            rotate_left
            ·
             simp only [Act.put, l_1, l_2, l_3, i64_w, i32_w]
             rfl
            refine pure_ (i := 12) (N := some 135) (v := ?_) (a' := ?_) #[true, true, true, true, true, true, true, true, true, true, true, true, true] rfl rfl (any_of HT_.out (by kernel_rfl)) (fun _ _ _ h => h) (Or.inl ⟨by rfl, ?_⟩) ?_ ?_
            rotate_left
            ·
             intro w'
             go_simp
             with_reducible rfl
            rotate_left
            ·
             simp only [Act.put, l_1, l_2, l_3, i64_w, i32_w]
             rfl
            refine done_ (done_of HT_.out (by kernel_rfl)) ?_
            try go_wp2
            go_meet
            case rel => exact ⟨_, H', ⟨by have := HJ3.out; have := HJ20.out; have := HK3.out; have := HJ83.out; have := HJ89.out; first | omega | exact Nat.le_refl _⟩, ⟨by (with_reducible repeat (first | apply Kd.R_alloc | apply Kd.R_drewN | apply Kd.R_drew)); exact Kd.R_mono HO_198002.out (fun _ hk => hk.1)⟩, ⟨by (with_reducible repeat (first | apply Kd.R_alloc | apply Kd.R_drewN | apply Kd.R_drew)); exact Kd.R_mono HO_205002.out (fun _ hk => hk.1)⟩, ⟨by (with_reducible repeat (first | apply Kd.R_alloc | apply Kd.R_drewN | apply Kd.R_drew)); exact HO_212002.out⟩, ⟨by (with_reducible repeat (first | refine k_n ?_ _ | refine k_d ?_ | refine k_a ?_ _)); exact BK187.out⟩, ⟨by (with_reducible repeat (first | refine k_n ?_ _ | refine k_d ?_ | refine k_a ?_ _)); exact BK197.out⟩, ⟨by (with_reducible repeat (first | refine k_n ?_ _ | refine k_d ?_ | refine k_a ?_ _)); exact BK204.out⟩, ⟨by (with_reducible repeat (first | refine k_n ?_ _ | refine k_d ?_ | refine k_a ?_ _)); exact BK211.out⟩, ⟨by repeat (first | (with_reducible first | exact HB.out | apply b_a | apply b_n | apply b_d | refine b_s ?_ GE187.out | refine b_s ?_ GE197.out | refine b_s ?_ GE204.out | refine b_s ?_ GE211.out) | exact HB.out)⟩⟩
           case rest => as_aux_lemma =>
            clear HC96
            try clear c1
            try clear c2
            try clear p2
            try clear c9
            try clear c10
            try clear c11
            try clear c12
            try clear c18
            try clear c27
            try clear c97
            try clear c98
            try clear c98b0
            try clear c98b1
            try clear c101
            try clear c111
            try clear c111b0
            try clear c111b1
            try clear c113
            try clear c114
            try clear c115
            try clear c116
            try clear c119
            try clear c120
            try clear c121
            try clear hcz117_0
            try clear hcz117_1
            try clear hcz117_2
            try clear hcz122_0
            try clear hcz122_1
            try clear hcz122_2
            try clear hfz117_0
            try clear hfz117_1
            try clear hfz117_2
            try clear hfz122_0
            try clear hfz122_1
            try clear hfz122_2
            obtain ⟨kq, HA, HJ95, HO_198002, HO_205002, HO_212002, BK187, BK197, BK204, BK211, HB⟩ := hcut
            cases kq with
            | zero => exact absurd HA.out (by simp [pelotonlaw04_MatmulCuts.j6])
            | succ kj95 =>
             have H := HA.out
             clear HA
             simp only [pelotonlaw04_MatmulCuts.j6] at H
             have HC124 := Aside0.mk H
             clear H
             go_upto_region 21 with (fail)
             go_cut [150] (fun v150 wc => ∃ (kq : Nat) (x150_123 : Bool), v150 = .bool x150_123 ∧ Aside0 (pelotonlaw04_MatmulCuts.j7 kq a1 a2 t203 x150_123 a0_0 a0_1 l0_2 t198 t199 t200 = some r) ∧ Aside0 (kq ≤ kj95) ∧ Aside0 (Kd.R (Kd.int .i8) 35 wc w.heap.size (fun k_ => some k_ ≠ ((.slice Ao34 t200.length co34) : Value).ownBlock) (.slice Ao27 t193.length co27) t193) ∧ Aside0 (Kd.R (Kd.int .i8) 35 wc w.heap.size (fun k_ => some k_ ≠ ((.slice Ao27 t193.length co27) : Value).ownBlock) (.slice Ao34 t200.length co34) t200) ∧ Aside0 (Kd.R (Kd.int .i32) 21 wc w.heap.size (fun _ => True) (.slice Ao42 t207.length co42) t207) ∧ Aside0 (wc.heap[gb187]? = some (.cells #[.int .i64 a0_0, .int .i64 a0_1, (.slice A0_2 l0_2.length c0_2)] 30 (0, 0))) ∧ Aside0 (wc.heap[gb197]? = some (.cells #[.int .i64 t191, .int .i64 t192, (.slice Ao27 t193.length co27)] 30 (0, 0))) ∧ Aside0 (wc.heap[gb204]? = some (.cells #[.int .i64 t198, .int .i64 t199, (.slice Ao34 t200.length co34)] 30 (0, 0))) ∧ Aside0 (wc.heap[gb211]? = some (.cells #[.int .i64 t205, .int .i64 t206, (.slice Ao42 t207.length co42)] 51 (0, 0))) ∧ Aside0 (Below w.heap.size w wc))
             case first =>
              have H := HC124.out
              clear HC124
              by_cases c125 : x14_83 = true
              rotate_left
              ·
               replace c125 := Bool.eq_false_iff.mpr c125
               subst c125
               have H1 : (pelotonlaw04_MatmulCuts.j7 kj95 a1 a2 t203 false a0_0 a0_1 l0_2 t198 t199 t200) = some r := by rw [if_neg (show ¬ (false = true) by decide)] at H; exact H
               clear H
               have H := H1
               clear H1
               have H' := Aside0.mk H
               clear H
               go_wp2
               go_meet
               case rel => exact ⟨_, (false), (by first | rfl | (simp; done) | (simp [*]; done)), H', ⟨by have := HJ3.out; have := HJ20.out; have := HK3.out; have := HJ83.out; have := HJ89.out; have := HJ95.out; first | omega | exact Nat.le_refl _⟩, ⟨by (with_reducible repeat (first | apply Kd.R_alloc | apply Kd.R_drewN | apply Kd.R_drew)); exact HO_198002.out⟩, ⟨by (with_reducible repeat (first | apply Kd.R_alloc | apply Kd.R_drewN | apply Kd.R_drew)); exact HO_205002.out⟩, ⟨by (with_reducible repeat (first | apply Kd.R_alloc | apply Kd.R_drewN | apply Kd.R_drew)); exact HO_212002.out⟩, ⟨by (with_reducible repeat (first | refine k_n ?_ _ | refine k_d ?_ | refine k_a ?_ _)); exact BK187.out⟩, ⟨by (with_reducible repeat (first | refine k_n ?_ _ | refine k_d ?_ | refine k_a ?_ _)); exact BK197.out⟩, ⟨by (with_reducible repeat (first | refine k_n ?_ _ | refine k_d ?_ | refine k_a ?_ _)); exact BK204.out⟩, ⟨by (with_reducible repeat (first | refine k_n ?_ _ | refine k_d ?_ | refine k_a ?_ _)); exact BK211.out⟩, ⟨by repeat (first | (with_reducible first | exact HB.out | apply b_a | apply b_n | apply b_d | refine b_s ?_ GE187.out | refine b_s ?_ GE197.out | refine b_s ?_ GE204.out | refine b_s ?_ GE211.out) | exact HB.out)⟩⟩
              subst c125
              have H1 : (pelotonlaw04_MatmulCuts.j7 kj95 a1 a2 t203 (decide (a2 ≤ a0_1)) a0_0 a0_1 l0_2 t198 t199 t200) = some r := by rw [if_pos rfl] at H; exact H
              clear H
              have H := H1
              clear H1
              have H' := Aside0.mk H
              clear H
              have hnb126 := NB187_197.out
              have hnc126 := NB197_187.out
              have hnb127 := NB187_204.out
              have hnc127 := NB204_187.out
              have hnb128 := NB187_211.out
              have hnc128 := NB211_187.out
              have hcz129_0 : wc.cell? ⟨gb187, 0, none⟩ = some (.int .i64 a0_0) := (blk_cell BK187.out 0).trans rfl
              have hcz129_1 : wc.cell? ⟨gb187, 1, none⟩ = some (.int .i64 a0_1) := (blk_cell BK187.out 1).trans rfl
              have hcz129_2 : wc.cell? ⟨gb187, 2, none⟩ = some (.slice A0_2 l0_2.length c0_2) := (blk_cell BK187.out 2).trans rfl
              have hfz129_0 := blk_frozen BK187.out 0
              have hfz129_1 := blk_frozen BK187.out 1
              have hfz129_2 := blk_frozen BK187.out 2
              go_wp2
              go_meet
              case rel => exact ⟨_, (decide (a2 ≤ a0_1)), (by first | rfl | (simp; done) | (simp [*]; done)), H', ⟨by have := HJ3.out; have := HJ20.out; have := HK3.out; have := HJ83.out; have := HJ89.out; have := HJ95.out; first | omega | exact Nat.le_refl _⟩, ⟨by (with_reducible repeat (first | apply Kd.R_alloc | apply Kd.R_drewN | apply Kd.R_drew)); exact HO_198002.out⟩, ⟨by (with_reducible repeat (first | apply Kd.R_alloc | apply Kd.R_drewN | apply Kd.R_drew)); exact HO_205002.out⟩, ⟨by (with_reducible repeat (first | apply Kd.R_alloc | apply Kd.R_drewN | apply Kd.R_drew)); exact HO_212002.out⟩, ⟨by (with_reducible repeat (first | refine k_n ?_ _ | refine k_d ?_ | refine k_a ?_ _)); exact BK187.out⟩, ⟨by (with_reducible repeat (first | refine k_n ?_ _ | refine k_d ?_ | refine k_a ?_ _)); exact BK197.out⟩, ⟨by (with_reducible repeat (first | refine k_n ?_ _ | refine k_d ?_ | refine k_a ?_ _)); exact BK204.out⟩, ⟨by (with_reducible repeat (first | refine k_n ?_ _ | refine k_d ?_ | refine k_a ?_ _)); exact BK211.out⟩, ⟨by repeat (first | (with_reducible first | exact HB.out | apply b_a | apply b_n | apply b_d | refine b_s ?_ GE187.out | refine b_s ?_ GE197.out | refine b_s ?_ GE204.out | refine b_s ?_ GE211.out) | exact HB.out)⟩⟩
             case rest => as_aux_lemma =>
              clear HC124
              try clear c1
              try clear c2
              try clear p2
              try clear c9
              try clear c10
              try clear c11
              try clear c12
              try clear c18
              try clear c27
              try clear c97
              try clear c98
              try clear c98b0
              try clear c98b1
              try clear c101
              try clear c111
              try clear c111b0
              try clear c111b1
              try clear c113
              try clear c114
              try clear c115
              try clear c116
              try clear c119
              try clear c120
              try clear c121
              try clear c125
              try clear c126
              try clear c127
              try clear c128
              try clear hcz117_0
              try clear hcz117_1
              try clear hcz117_2
              try clear hcz122_0
              try clear hcz122_1
              try clear hcz122_2
              try clear hcz129_0
              try clear hcz129_1
              try clear hcz129_2
              try clear hfz117_0
              try clear hfz117_1
              try clear hfz117_2
              try clear hfz122_0
              try clear hfz122_1
              try clear hfz122_2
              try clear hfz129_0
              try clear hfz129_1
              try clear hfz129_2
              try clear p2
              obtain ⟨kq, x150_123, rfl, HA, HJ123, HO_198002, HO_205002, HO_212002, BK187, BK197, BK204, BK211, HB⟩ := hcut
              cases kq with
              | zero => exact absurd HA.out (by simp [pelotonlaw04_MatmulCuts.j7])
              | succ kj123 =>
               have H := HA.out
               clear HA
               simp only [pelotonlaw04_MatmulCuts.j7] at H
               by_cases c130 : x150_123 = true
               rotate_left
               ·
                replace c130 := Bool.eq_false_iff.mpr c130
                subst c130
                have H1 : (if t203 = 2 then ((pelotonref04_Same.f kj123 t198 t199 t200 0 0 ([] : List Int)).bind fun t230 => (some t230)) else (some false)) = some r := by rw [if_neg (show ¬ (false = true) by decide)] at H; exact H
                clear H
                have H := H1
                clear H1
                by_cases c139 : t203 = 2
                rotate_left
                ·
                 rw [if_neg c139] at H
                 have c139b0 : (t203 == 2) = false := beq_eq_false_iff_ne.mpr c139
                 have c139b1 : (t203 != 2) = true := bne_iff_ne.mpr c139
                 obtain rfl := Option.some.inj H
                 go_wp2
                 go_ret
                 exact ⟨by first | rfl | (simp [errW_none, errW_some] <;> rfl) | (simp [*, errW_none, errW_some] <;> rfl), by repeat (first | (with_reducible first | exact HB.out | apply b_a | apply b_n | apply b_d | refine b_s ?_ GE187.out | refine b_s ?_ GE197.out | refine b_s ?_ GE204.out | refine b_s ?_ GE211.out) | exact HB.out)⟩
                rw [if_pos c139] at H
                have c139b0 : (t203 == 2) = true := beq_iff_eq.mpr c139
                have c139b1 : (t203 != 2) = false := bne_eq_false_iff_eq.mpr c139
                clear c139
                replace H := Option.bind_eq_some_iff.mp H
                obtain ⟨t230, A1400, H⟩ := H
                replace H : (some t230) = some r := H
                have A140 := Aside0.mk A1400
                clear A1400
                obtain rfl := Option.some.inj H
                have hnb141 := NB204_187.out
                have hnc141 := NB187_204.out
                have hnb142 := NB204_197.out
                have hnc142 := NB197_204.out
                have hnb143 := NB204_211.out
                have hnc143 := NB211_204.out
                have hcz144_0 : wc.cell? ⟨gb204, 0, none⟩ = some (.int .i64 t198) := (blk_cell BK204.out 0).trans rfl
                have hcz144_1 : wc.cell? ⟨gb204, 1, none⟩ = some (.int .i64 t199) := (blk_cell BK204.out 1).trans rfl
                have hcz144_2 : wc.cell? ⟨gb204, 2, none⟩ = some (.slice Ao34 t200.length co34) := (blk_cell BK204.out 2).trans rfl
                have hfz144_0 := blk_frozen BK204.out 0
                have hfz144_1 := blk_frozen BK204.out 1
                have hfz144_2 := blk_frozen BK204.out 2
                go_wp2_with (first | (go_at_call 18; (refine (pelotonref04_Same.calls kj123 t198 t199 _ _ t200 0 0 _ _ ([] : List Int) t230 _ ?side1 ?side2 ?side3 ?side4 A140.out).mono ?_); (case side1 => repeat (first | exact (Kd.R_reads' HO_205002.out).2.2 | (with_reducible refine Kd.C_alloc ?_ _) | (with_reducible refine Kd.C_drewN ?_ _) | (with_reducible refine Kd.C_drew ?_))); (case side2 => exact (Kd.R_reads' HO_205002.out).2.1); (case side3 => exact Kd.C_nil _ _); (case side4 => exact Nat.le_refl _); rintro e w145 ⟨rfl, hb⟩; (try clear A140); have n0_ := Aside0.mk (Kd.R_below (by (with_reducible repeat (first | apply Kd.R_alloc | apply Kd.R_drewN | apply Kd.R_drew)); exact HO_198002.out) hb); have n1_ := Aside0.mk (Kd.R_below (by (with_reducible repeat (first | apply Kd.R_alloc | apply Kd.R_drewN | apply Kd.R_drew)); exact HO_205002.out) hb); have n2_ := Aside0.mk (Kd.R_below (by (with_reducible repeat (first | apply Kd.R_alloc | apply Kd.R_drewN | apply Kd.R_drew)); exact HO_212002.out) hb); have n3_ := Aside0.mk (blk_below (g := gb187) (o := .cells #[.int .i64 a0_0, .int .i64 a0_1, .slice A0_2 l0_2.length c0_2] 30 (0, 0)) (by (with_reducible repeat (first | refine k_n ?_ _ | refine k_d ?_ | refine k_a ?_ _)); exact BK187.out) hb); have n4_ := Aside0.mk (blk_below (g := gb197) (o := .cells #[.int .i64 t191, .int .i64 t192, .slice Ao27 t193.length co27] 30 (0, 0)) (by (with_reducible repeat (first | refine k_n ?_ _ | refine k_d ?_ | refine k_a ?_ _)); exact BK197.out) hb); have n5_ := Aside0.mk (blk_below (g := gb204) (o := .cells #[.int .i64 t198, .int .i64 t199, .slice Ao34 t200.length co34] 30 (0, 0)) (by (with_reducible repeat (first | refine k_n ?_ _ | refine k_d ?_ | refine k_a ?_ _)); exact BK204.out) hb); have n6_ := Aside0.mk (blk_below (g := gb211) (o := .cells #[.int .i64 t205, .int .i64 t206, .slice Ao42 t207.length co42] 51 (0, 0)) (by (with_reducible repeat (first | refine k_n ?_ _ | refine k_d ?_ | refine k_a ?_ _)); exact BK211.out) hb); have n7_ := Aside0.mk (below_step (by repeat (first | (with_reducible first | exact HB.out | apply b_a | apply b_n | apply b_d | refine b_s ?_ GE187.out | refine b_s ?_ GE197.out | refine b_s ?_ GE204.out | refine b_s ?_ GE211.out) | exact HB.out)) hb); clear HO_198002; clear HO_205002; clear HO_212002; clear BK187; clear BK197; clear BK204; clear BK211; clear HB; have HO_198002 := n0_; have HO_205002 := n1_; have HO_212002 := n2_; have BK187 := n3_; have BK197 := n4_; have BK204 := n5_; have BK211 := n6_; have HB := n7_; clear n0_ n1_ n2_ n3_ n4_ n5_ n6_ n7_; (try clear hb); (try clear hb2); (try clear hk); (try clear hi)))
                go_ret
                exact ⟨by first | rfl | (simp [errW_none, errW_some] <;> rfl) | (simp [*, errW_none, errW_some] <;> rfl), by repeat (first | (with_reducible first | exact HB.out | apply b_a | apply b_n | apply b_d | refine b_s ?_ GE187.out | refine b_s ?_ GE197.out | refine b_s ?_ GE204.out | refine b_s ?_ GE211.out) | exact HB.out)⟩
               subst c130
               have H1 : (if t203 = 0 then ((pelotonref04_Part.f kj123 a0_0 a0_1 l0_2 0 a0_0 a1 a2).bind fun bt224 => ((pelotonref04_Same.f kj123 t198 t199 t200 bt224.1 bt224.2.1 bt224.2.2).bind fun t229 => (some t229))) else (some false)) = some r := by rw [if_pos rfl] at H; exact H
               clear H
               have H := H1
               clear H1
               by_cases c131 : t203 = 0
               rotate_left
               ·
                rw [if_neg c131] at H
                have c131b0 : (t203 == 0) = false := beq_eq_false_iff_ne.mpr c131
                have c131b1 : (t203 != 0) = true := bne_iff_ne.mpr c131
                obtain rfl := Option.some.inj H
                try go_wp2
                have n0_ := Aside0.mk (Kd.R_drew HO_198002.out)
                have n1_ := Aside0.mk (Kd.R_drew HO_205002.out)
                have n2_ := Aside0.mk (Kd.R_drew HO_212002.out)
                have n3_ := Aside0.mk (k_d BK187.out)
                have n4_ := Aside0.mk (k_d BK197.out)
                have n5_ := Aside0.mk (k_d BK204.out)
                have n6_ := Aside0.mk (k_d BK211.out)
                have n7_ := Aside0.mk (b_d HB.out)
                clear HO_198002
                clear HO_205002
                clear HO_212002
                clear BK187
                clear BK197
                clear BK204
                clear BK211
                clear HB
                have HO_198002 := n0_
                have HO_205002 := n1_
                have HO_212002 := n2_
                have BK187 := n3_
                have BK197 := n4_
                have BK204 := n5_
                have BK211 := n6_
                have HB := n7_
                clear n0_ n1_ n2_ n3_ n4_ n5_ n6_ n7_
                refine start_ (n := 13) (S := fun w' => True) (ds := []) #[false, false, false, false, false, false, false, false, false, false, false, false, false] (by kernel_rfl) rfl rfl trivial (fun hHeld => ?_); refine with_tabW pelotonlaw04_MatmulCuts.tab22 pelotonlaw04_MatmulCuts.bits22 (fun HT_ HW_ => ?_)
                generalize wc.drew = w138 at HO_198002 HO_205002 HO_212002 BK187 BK197 BK204 BK211 HB hHeld ⊢
                refine pure_ (i := 0) (N := some 151) (v := ?_) (a' := ?_) #[true, false, false, false, false, false, false, false, false, false, false, false, false] rfl rfl (any_of HT_.out (by kernel_rfl)) (fun _ _ _ h => h) (Or.inl ⟨by rfl, ?_⟩) ?_ ?_
                rotate_left
                ·
                 intro w'
                 go_simp
                 with_reducible rfl
                rotate_left
                ·
                 simp only [Act.put, l_1, l_2, l_3, i64_w, i32_w]
                 rfl
                refine pure_ (i := 1) (N := some 152) (v := ?_) (a' := ?_) #[true, true, false, false, false, false, false, false, false, false, false, false, false] rfl rfl (any_of HT_.out (by kernel_rfl)) (fun _ _ _ h => h) (Or.inl ⟨by rfl, ?_⟩) ?_ ?_
                rotate_left
                ·
                 intro w'
                 go_simp
                 with_reducible rfl
                rotate_left
                ·
                 simp only [Act.put, l_1, l_2, l_3, i64_w, i32_w]
                 rfl
                refine pure_ (i := 2) (N := some 153) (v := ?_) (a' := ?_) #[true, true, true, false, false, false, false, false, false, false, false, false, false] rfl rfl (any_of HT_.out (by kernel_rfl)) (fun _ _ _ h => h) (Or.inl ⟨by rfl, ?_⟩) ?_ ?_
                rotate_left
                ·
                 intro w'
                 go_simp
                 with_reducible rfl
                rotate_left
                ·
                 simp only [Act.put, l_1, l_2, l_3, i64_w, i32_w]
                 rfl
                refine pure_ (i := 3) (N := some 154) (v := undef) (a' := ?_) #[true, true, true, true, false, false, false, false, false, false, false, false, false] rfl rfl (any_of HT_.out (by kernel_rfl)) (fun _ _ _ h => h) (Or.inr ⟨by rfl, rfl⟩) ?_ ?_
                rotate_left
                ·
                 simp only [Act.put, l_1, l_2, l_3, i64_w, i32_w]
                 rfl
                refine pure_ (i := 4) (N := some 155) (v := undef) (a' := ?_) #[true, true, true, true, true, false, false, false, false, false, false, false, false] rfl rfl (any_of HT_.out (by kernel_rfl)) (fun _ _ _ h => h) (Or.inr ⟨by rfl, rfl⟩) ?_ ?_
                rotate_left
                ·
                 simp only [Act.put, l_1, l_2, l_3, i64_w, i32_w]
                 rfl
                refine pure_ (i := 5) (N := some 156) (v := undef) (a' := ?_) #[true, true, true, true, true, true, false, false, false, false, false, false, false] rfl rfl (any_of HT_.out (by kernel_rfl)) (fun _ _ _ h => h) (Or.inr ⟨by rfl, rfl⟩) ?_ ?_
                rotate_left
                ·
                 simp only [Act.put, l_1, l_2, l_3, i64_w, i32_w]
                 rfl
                refine pure_ (i := 6) (N := some 157) (v := undef) (a' := ?_) #[true, true, true, true, true, true, true, false, false, false, false, false, false] rfl rfl (any_of HT_.out (by kernel_rfl)) (fun _ _ _ h => h) (Or.inr ⟨by rfl, rfl⟩) ?_ ?_
                rotate_left
                ·
                 simp only [Act.put, l_1, l_2, l_3, i64_w, i32_w]
                 rfl
                refine pure_ (i := 7) (N := some 158) (v := undef) (a' := ?_) #[true, true, true, true, true, true, true, true, false, false, false, false, false] rfl rfl (any_of HT_.out (by kernel_rfl)) (fun _ _ _ h => h) (Or.inr ⟨by rfl, rfl⟩) ?_ ?_
                rotate_left
                ·
                 simp only [Act.put, l_1, l_2, l_3, i64_w, i32_w]
                 rfl
                refine pure_ (i := 8) (N := some 159) (v := undef) (a' := ?_) #[true, true, true, true, true, true, true, true, true, false, false, false, false] rfl rfl (any_of HT_.out (by kernel_rfl)) (fun _ _ _ h => h) (Or.inr ⟨by rfl, rfl⟩) ?_ ?_
                rotate_left
                ·
                 simp only [Act.put, l_1, l_2, l_3, i64_w, i32_w]
                 rfl
                refine pure_ (i := 9) (N := some 160) (v := undef) (a' := ?_) #[true, true, true, true, true, true, true, true, true, true, false, false, false] rfl rfl (any_of HT_.out (by kernel_rfl)) (fun _ _ _ h => h) (Or.inr ⟨by rfl, rfl⟩) ?_ ?_
                rotate_left
                ·
                 simp only [Act.put, l_1, l_2, l_3, i64_w, i32_w]
                 rfl
                refine pure_ (i := 10) (N := some 161) (v := undef) (a' := ?_) #[true, true, true, true, true, true, true, true, true, true, true, false, false] rfl rfl (any_of HT_.out (by kernel_rfl)) (fun _ _ _ h => h) (Or.inr ⟨by rfl, rfl⟩) ?_ ?_
                rotate_left
                ·
                 simp only [Act.put, l_1, l_2, l_3, i64_w, i32_w]
                 rfl
                refine pure_ (i := 11) (N := some 162) (v := ?_) (a' := ?_) #[true, true, true, true, true, true, true, true, true, true, true, true, false] rfl rfl (any_of HT_.out (by kernel_rfl)) (fun _ _ _ h => h) (Or.inl ⟨by rfl, ?_⟩) ?_ ?_
                rotate_left
                ·
                 intro w'
                 go_simp
                 with_reducible rfl
                rotate_left
                ·
                 simp only [Act.put, l_1, l_2, l_3, i64_w, i32_w]
                 rfl
                refine pure_ (i := 12) (N := some 6) (v := ?_) (a' := ?_) #[true, true, true, true, true, true, true, true, true, true, true, true, true] rfl rfl (any_of HT_.out (by kernel_rfl)) (fun _ _ _ h => h) (Or.inl ⟨by rfl, ?_⟩) ?_ ?_
                rotate_left
                ·
                 intro w'
                 go_simp
                 with_reducible rfl
                rotate_left
                ·
                 simp only [Act.put, l_1, l_2, l_3, i64_w, i32_w]
                 rfl
                refine done_ (done_of HT_.out (by kernel_rfl)) ?_
                try go_wp2
                go_ret
                exact ⟨by first | rfl | (simp [errW_none, errW_some] <;> rfl) | (simp [*, errW_none, errW_some] <;> rfl), by repeat (first | (with_reducible first | exact HB.out | apply b_a | apply b_n | apply b_d | refine b_s ?_ GE187.out | refine b_s ?_ GE197.out | refine b_s ?_ GE204.out | refine b_s ?_ GE211.out) | exact HB.out)⟩
               rw [if_pos c131] at H
               have c131b0 : (t203 == 0) = true := beq_iff_eq.mpr c131
               have c131b1 : (t203 != 0) = false := bne_eq_false_iff_eq.mpr c131
               clear c131
               replace H := Option.bind_eq_some_iff.mp H
               obtain ⟨⟨t224, t225, t226⟩, A1320, H⟩ := H
               replace H : ((pelotonref04_Same.f kj123 t198 t199 t200 t224 t225 t226).bind fun t229 => (some t229)) = some r := H
               have A132 := Aside0.mk A1320
               clear A1320
               replace H := Option.bind_eq_some_iff.mp H
               obtain ⟨t229, A1330, H⟩ := H
               replace H : (some t229) = some r := H
               have A133 := Aside0.mk A1330
               clear A1330
               obtain rfl := Option.some.inj H
               try go_wp2
               have n0_ := Aside0.mk (Kd.R_drew HO_198002.out)
               have n1_ := Aside0.mk (Kd.R_drew HO_205002.out)
               have n2_ := Aside0.mk (Kd.R_drew HO_212002.out)
               have n3_ := Aside0.mk (k_d BK187.out)
               have n4_ := Aside0.mk (k_d BK197.out)
               have n5_ := Aside0.mk (k_d BK204.out)
               have n6_ := Aside0.mk (k_d BK211.out)
               have n7_ := Aside0.mk (b_d HB.out)
               clear HO_198002
               clear HO_205002
               clear HO_212002
               clear BK187
               clear BK197
               clear BK204
               clear BK211
               clear HB
               have HO_198002 := n0_
               have HO_205002 := n1_
               have HO_212002 := n2_
               have BK187 := n3_
               have BK197 := n4_
               have BK204 := n5_
               have BK211 := n6_
               have HB := n7_
               clear n0_ n1_ n2_ n3_ n4_ n5_ n6_ n7_
               refine start_ (n := 13) (S := fun w' => w'.cell? ⟨gb204, 0, none⟩ = some (.int .i64 t198) ∧ w'.cell? ⟨gb204, 1, none⟩ = some (.int .i64 t199) ∧ w'.cell? ⟨gb204, 2, none⟩ = some (.slice Ao34 t200.length co34) ∧ w'.cell? ⟨gb187, 0, none⟩ = some (.int .i64 a0_0) ∧ w'.cell? ⟨gb187, 1, none⟩ = some (.int .i64 a0_1) ∧ w'.cell? ⟨gb187, 2, none⟩ = some (.slice A0_2 l0_2.length c0_2)) (ds := []) #[false, false, false, false, false, false, false, false, false, false, false, false, false] (by kernel_rfl) rfl rfl ⟨(blk_cell BK204.out 0).trans rfl, (blk_cell BK204.out 1).trans rfl, (blk_cell BK204.out 2).trans rfl, (blk_cell BK187.out 0).trans rfl, (blk_cell BK187.out 1).trans rfl, (blk_cell BK187.out 2).trans rfl⟩ (fun hHeld => ?_); refine with_tabW pelotonlaw04_MatmulCuts.tab22 pelotonlaw04_MatmulCuts.bits22 (fun HT_ HW_ => ?_)
               generalize wc.drew = w134 at HO_198002 HO_205002 HO_212002 BK187 BK197 BK204 BK211 HB hHeld ⊢
               refine pure_ (i := 0) (N := some 151) (v := ?_) (a' := ?_) #[true, false, false, false, false, false, false, false, false, false, false, false, false] rfl rfl (any_of HT_.out (by kernel_rfl)) (fun _ _ _ h => h) (Or.inl ⟨by rfl, ?_⟩) ?_ ?_
               rotate_left
               ·
                intro w'
                go_simp
                with_reducible rfl
               rotate_left
               ·
                simp only [Act.put, l_1, l_2, l_3, i64_w, i32_w]
                rfl
               refine pure_ (i := 1) (N := some 152) (v := ?_) (a' := ?_) #[true, true, false, false, false, false, false, false, false, false, false, false, false] rfl rfl (any_of HT_.out (by kernel_rfl)) (fun _ _ _ h => h) (Or.inl ⟨by rfl, ?_⟩) ?_ ?_
               rotate_left
               ·
                intro w'
                go_simp
                with_reducible rfl
               rotate_left
               ·
                simp only [Act.put, l_1, l_2, l_3, i64_w, i32_w]
                rfl
               refine pure_ (i := 2) (N := some 153) (v := ?_) (a' := ?_) #[true, true, true, false, false, false, false, false, false, false, false, false, false] rfl rfl (any_of HT_.out (by kernel_rfl)) (fun _ _ _ h => h) (Or.inl ⟨by rfl, ?_⟩) ?_ ?_
               rotate_left
               ·
                intro w'
                go_simp
                with_reducible rfl
               rotate_left
               ·
                simp only [Act.put, l_1, l_2, l_3, i64_w, i32_w]
                rfl
               refine pure_ (i := 5) (N := some 156) (v := ?_) (a' := ?_) #[true, true, true, false, false, true, false, false, false, false, false, false, false] rfl rfl (any_of HT_.out (by kernel_rfl)) (fun _ _ _ h => h) (Or.inl ⟨by rfl, ?_⟩) ?_ ?_
               rotate_left
               ·
                intro w'
                go_simp
                with_reducible rfl
               rotate_left
               ·
                simp only [Act.put, l_1, l_2, l_3, i64_w, i32_w]
                rfl
               refine pure_ (i := 7) (N := some 158) (v := ?_) (a' := ?_) #[true, true, true, false, false, true, false, true, false, false, false, false, false] rfl rfl (any_of HT_.out (by kernel_rfl)) (fun _ _ _ h => h) (Or.inl ⟨by rfl, ?_⟩) ?_ ?_
               rotate_left
               ·
                intro w'
                go_simp
                with_reducible rfl
               rotate_left
               ·
                simp only [Act.put, l_1, l_2, l_3, i64_w, i32_w]
                rfl
               refine pure_ (i := 8) (N := some 159) (v := ?_) (a' := ?_) #[true, true, true, false, false, true, false, true, true, false, false, false, false] rfl rfl (any_of HT_.out (by kernel_rfl)) (fun _ _ _ h => h) (Or.inl ⟨by rfl, ?_⟩) ?_ ?_
               rotate_left
               ·
                intro w'
                go_simp
                with_reducible rfl
               rotate_left
               ·
                simp only [Act.put, l_1, l_2, l_3, i64_w, i32_w]
                rfl
               refine take_ (i := 3) (N := some 154) (v := ?_) (a' := ?_) #[true, true, true, true, false, true, false, true, true, false, false, false, false] rfl rfl (take_ofW HT_.out HW_.out (by kernel_rfl)) (fun _ _ _ h => h) (Or.inl ⟨by rfl, ?_⟩) hHeld ?_ ?_
               rotate_left
               ·
                rintro w' ⟨s0, s1, s2, s3, s4, s5⟩
                go_simp
                with_reducible rfl
               rotate_left
               ·
                simp only [Act.put, l_1, l_2, l_3, i64_w, i32_w]
                rfl
               refine take_ (i := 4) (N := some 155) (v := ?_) (a' := ?_) #[true, true, true, true, true, true, false, true, true, false, false, false, false] rfl rfl (take_ofW HT_.out HW_.out (by kernel_rfl)) (fun _ _ _ h => h) (Or.inl ⟨by rfl, ?_⟩) hHeld ?_ ?_
               rotate_left
               ·
                rintro w' ⟨s0, s1, s2, s3, s4, s5⟩
                go_simp
                with_reducible rfl
               rotate_left
               ·
                simp only [Act.put, l_1, l_2, l_3, i64_w, i32_w]
                rfl
               refine take_ (i := 6) (N := some 157) (v := ?_) (a' := ?_) #[true, true, true, true, true, true, true, true, true, false, false, false, false] rfl rfl (take_ofW HT_.out HW_.out (by kernel_rfl)) (fun _ _ _ h => h) (Or.inl ⟨by rfl, ?_⟩) hHeld ?_ ?_
               rotate_left
               ·
                rintro w' ⟨s0, s1, s2, s3, s4, s5⟩
                go_simp
                with_reducible rfl
               rotate_left
               ·
                simp only [Act.put, l_1, l_2, l_3, i64_w, i32_w]
                rfl
               refine one_ (i := 9) (N := some 160) #[true, true, true, true, true, true, true, true, true, true, false, false, false] rfl rfl (one_of HT_.out (by kernel_rfl)) (by decide) (fun K hK => ?_)
               refine goes_ Try.func27 (by kernel_rfl) rfl #[.agg #[.int .i64 a0_0, .int .i64 a0_1, .slice A0_2 l0_2.length c0_2], .int .i64 0, .int .i64 a0_0, .int .i64 a1, .int .i64 a2] (by rfl) rfl rfl (by (try simp only [l_4, l_5, l_6]); first | done | rfl | (simp only [l_7, l_8]; rfl)) ?_
               with_reducible refine (pelotonref04_Part.calls kj123 a0_0 a0_1 _ _ l0_2 0 a0_0 a1 a2 t224 t225 t226 _ ?side1 ?side2 A132.out).mono ?_
               (case side1 => repeat (first | exact (Kd.C_below HR0_2.out HB.out) | (with_reducible refine Kd.C_alloc ?_ _) | (with_reducible refine Kd.C_drewN ?_ _) | (with_reducible refine Kd.C_drew ?_)))
               (case side2 => exact HC0_2.out)
               rintro e w135 ⟨v227, rfl, ho0, hb⟩
               refine ⟨_, rfl, ?_⟩
               have n0_ := Aside0.mk (Kd.R_elder' (by (with_reducible repeat (first | apply Kd.R_alloc | apply Kd.R_drewN | apply Kd.R_drew)); exact HO_198002.out) (Kd.R_base ho0) hb)
               have n1_ := Aside0.mk (Kd.R_elder' (by (with_reducible repeat (first | apply Kd.R_alloc | apply Kd.R_drewN | apply Kd.R_drew)); exact HO_205002.out) (Kd.R_base ho0) hb)
               have n2_ := Aside0.mk (Kd.R_below (by (with_reducible repeat (first | apply Kd.R_alloc | apply Kd.R_drewN | apply Kd.R_drew)); exact HO_212002.out) hb)
               have n3_ := Aside0.mk (Kd.R_lower (Kd.R_new' (Kd.R_new' ho0 (Kd.R_lt (by (with_reducible repeat (first | apply Kd.R_alloc | apply Kd.R_drewN | apply Kd.R_drew)); exact HO_198002.out))) (Kd.R_lt (by (with_reducible repeat (first | apply Kd.R_alloc | apply Kd.R_drewN | apply Kd.R_drew)); exact HO_205002.out))) (below_size (by repeat (first | (with_reducible first | exact HB.out | apply b_a | apply b_n | apply b_d | refine b_s ?_ GE187.out | refine b_s ?_ GE197.out | refine b_s ?_ GE204.out | refine b_s ?_ GE211.out) | exact HB.out))))
               have n4_ := Aside0.mk (blk_below (g := gb187) (o := .cells #[.int .i64 a0_0, .int .i64 a0_1, .slice A0_2 l0_2.length c0_2] 30 (0, 0)) (by (with_reducible repeat (first | refine k_n ?_ _ | refine k_d ?_ | refine k_a ?_ _)); exact BK187.out) hb)
               have n5_ := Aside0.mk (blk_below (g := gb197) (o := .cells #[.int .i64 t191, .int .i64 t192, .slice Ao27 t193.length co27] 30 (0, 0)) (by (with_reducible repeat (first | refine k_n ?_ _ | refine k_d ?_ | refine k_a ?_ _)); exact BK197.out) hb)
               have n6_ := Aside0.mk (blk_below (g := gb204) (o := .cells #[.int .i64 t198, .int .i64 t199, .slice Ao34 t200.length co34] 30 (0, 0)) (by (with_reducible repeat (first | refine k_n ?_ _ | refine k_d ?_ | refine k_a ?_ _)); exact BK204.out) hb)
               have n7_ := Aside0.mk (blk_below (g := gb211) (o := .cells #[.int .i64 t205, .int .i64 t206, .slice Ao42 t207.length co42] 51 (0, 0)) (by (with_reducible repeat (first | refine k_n ?_ _ | refine k_d ?_ | refine k_a ?_ _)); exact BK211.out) hb)
               have n8_ := Aside0.mk (below_step (by repeat (first | (with_reducible first | exact HB.out | apply b_a | apply b_n | apply b_d | refine b_s ?_ GE187.out | refine b_s ?_ GE197.out | refine b_s ?_ GE204.out | refine b_s ?_ GE211.out) | exact HB.out)) hb)
               clear HO_198002
               clear HO_205002
               clear HO_212002
               clear BK187
               clear BK197
               clear BK204
               clear BK211
               clear HB
               have HO_198002 := n0_
               have HO_205002 := n1_
               have HO_212002 := n2_
               have HO228 := n3_
               have BK187 := n4_
               have BK197 := n5_
               have BK204 := n6_
               have BK211 := n7_
               have HB := n8_
               clear n0_ n1_ n2_ n3_ n4_ n5_ n6_ n7_ n8_
               (try clear hb)
               (try clear hb2)
               (try clear hk)
               (try clear hi)
               (try clear ho0)
               obtain ⟨Ao136, co136, eo136⟩ := Kd.R_slice HO228.out
               (first | subst eo136 | (injection eo136 with f1_ f2_ f3_; have f4_ := f1_.symm; have f5_ := f3_.symm; clear f1_ f2_ f3_; subst f4_; subst f5_))
               refine hK.out _ _ ⟨(blk_cell BK204.out 0).trans rfl, (blk_cell BK204.out 1).trans rfl, (blk_cell BK204.out 2).trans rfl, (blk_cell BK187.out 0).trans rfl, (blk_cell BK187.out 1).trans rfl, (blk_cell BK187.out 2).trans rfl⟩ (fun hHeld => ?_)
               clear hK K
               refine norm_ (a' := ?_) ?_ ?_
               rotate_left
               ·
                show Act.put _ (some 160) _ = _
                simp only [Act.put, l_1, l_2, l_3, i64_w, i32_w]
                rfl
               refine one_ (i := 10) (N := some 161) #[true, true, true, true, true, true, true, true, true, true, true, false, false] rfl rfl (one_of HT_.out (by kernel_rfl)) (by decide) (fun K hK => ?_)
               refine goes_ Try.func18 (by kernel_rfl) rfl #[.agg #[.int .i64 t198, .int .i64 t199, .slice Ao34 t200.length co34], .agg #[.int .i64 t224, .int .i64 t225, .slice Ao136 t226.length co136]] (by rfl) rfl rfl (by (try simp only [l_4, l_5, l_6]); first | done | rfl | (simp only [l_7, l_8]; rfl)) ?_
               with_reducible refine (pelotonref04_Same.calls kj123 t198 t199 _ _ t200 t224 t225 _ _ t226 t229 _ ?side1 ?side2 ?side3 ?side4 A133.out).mono ?_
               (case side1 => repeat (first | exact (Kd.R_reads' HO_205002.out).2.2 | (with_reducible refine Kd.C_alloc ?_ _) | (with_reducible refine Kd.C_drewN ?_ _) | (with_reducible refine Kd.C_drew ?_)))
               (case side2 => exact (Kd.R_reads' HO_205002.out).2.1)
               (case side3 => repeat (first | exact (Kd.R_reads' HO228.out).2.2 | (with_reducible refine Kd.C_alloc ?_ _) | (with_reducible refine Kd.C_drewN ?_ _) | (with_reducible refine Kd.C_drew ?_)))
               (case side4 => exact (Kd.R_reads' HO228.out).2.1)
               rintro e w137 ⟨rfl, hb⟩
               refine ⟨_, rfl, ?_⟩
               have n0_ := Aside0.mk (Kd.R_below (by (with_reducible repeat (first | apply Kd.R_alloc | apply Kd.R_drewN | apply Kd.R_drew)); exact HO_198002.out) hb)
               have n1_ := Aside0.mk (Kd.R_below (by (with_reducible repeat (first | apply Kd.R_alloc | apply Kd.R_drewN | apply Kd.R_drew)); exact HO_205002.out) hb)
               have n2_ := Aside0.mk (Kd.R_below (by (with_reducible repeat (first | apply Kd.R_alloc | apply Kd.R_drewN | apply Kd.R_drew)); exact HO_212002.out) hb)
               have n3_ := Aside0.mk (Kd.R_below (by (with_reducible repeat (first | apply Kd.R_alloc | apply Kd.R_drewN | apply Kd.R_drew)); exact HO228.out) hb)
               have n4_ := Aside0.mk (blk_below (g := gb187) (o := .cells #[.int .i64 a0_0, .int .i64 a0_1, .slice A0_2 l0_2.length c0_2] 30 (0, 0)) (by (with_reducible repeat (first | refine k_n ?_ _ | refine k_d ?_ | refine k_a ?_ _)); exact BK187.out) hb)
               have n5_ := Aside0.mk (blk_below (g := gb197) (o := .cells #[.int .i64 t191, .int .i64 t192, .slice Ao27 t193.length co27] 30 (0, 0)) (by (with_reducible repeat (first | refine k_n ?_ _ | refine k_d ?_ | refine k_a ?_ _)); exact BK197.out) hb)
               have n6_ := Aside0.mk (blk_below (g := gb204) (o := .cells #[.int .i64 t198, .int .i64 t199, .slice Ao34 t200.length co34] 30 (0, 0)) (by (with_reducible repeat (first | refine k_n ?_ _ | refine k_d ?_ | refine k_a ?_ _)); exact BK204.out) hb)
               have n7_ := Aside0.mk (blk_below (g := gb211) (o := .cells #[.int .i64 t205, .int .i64 t206, .slice Ao42 t207.length co42] 51 (0, 0)) (by (with_reducible repeat (first | refine k_n ?_ _ | refine k_d ?_ | refine k_a ?_ _)); exact BK211.out) hb)
               have n8_ := Aside0.mk (below_step (by repeat (first | (with_reducible first | exact HB.out | apply b_a | apply b_n | apply b_d | refine b_s ?_ GE187.out | refine b_s ?_ GE197.out | refine b_s ?_ GE204.out | refine b_s ?_ GE211.out) | exact HB.out)) hb)
               clear HO_198002
               clear HO_205002
               clear HO_212002
               clear HO228
               clear BK187
               clear BK197
               clear BK204
               clear BK211
               clear HB
               have HO_198002 := n0_
               have HO_205002 := n1_
               have HO_212002 := n2_
               have HO228 := n3_
               have BK187 := n4_
               have BK197 := n5_
               have BK204 := n6_
               have BK211 := n7_
               have HB := n8_
               clear n0_ n1_ n2_ n3_ n4_ n5_ n6_ n7_ n8_
               (try clear hb)
               (try clear hb2)
               (try clear hk)
               (try clear hi)
               refine hK.out _ _ ⟨(blk_cell BK204.out 0).trans rfl, (blk_cell BK204.out 1).trans rfl, (blk_cell BK204.out 2).trans rfl, (blk_cell BK187.out 0).trans rfl, (blk_cell BK187.out 1).trans rfl, (blk_cell BK187.out 2).trans rfl⟩ (fun hHeld => ?_)
               clear hK K
               refine norm_ (a' := ?_) ?_ ?_
               rotate_left
               ·
                show Act.put _ (some 161) _ = _
                simp only [Act.put, l_1, l_2, l_3, i64_w, i32_w]
                rfl
               refine pure_ (i := 11) (N := some 162) (v := ?_) (a' := ?_) #[true, true, true, true, true, true, true, true, true, true, true, true, false] rfl rfl (any_of HT_.out (by kernel_rfl)) (fun _ _ _ h => h) (Or.inl ⟨by rfl, ?_⟩) ?_ ?_
               rotate_left
               ·
                intro w'
                go_simp
                with_reducible rfl
               rotate_left
               ·
                simp only [Act.put, l_1, l_2, l_3, i64_w, i32_w]
                rfl
               refine pure_ (i := 12) (N := some 6) (v := ?_) (a' := ?_) #[true, true, true, true, true, true, true, true, true, true, true, true, true] rfl rfl (any_of HT_.out (by kernel_rfl)) (fun _ _ _ h => h) (Or.inl ⟨by rfl, ?_⟩) ?_ ?_
               rotate_left
               ·
                intro w'
                go_simp
                with_reducible rfl
               rotate_left
               ·
                simp only [Act.put, l_1, l_2, l_3, i64_w, i32_w]
                rfl
               refine done_ (done_of HT_.out (by kernel_rfl)) ?_
               try go_wp2
               go_ret
               exact ⟨by first | rfl | (simp [errW_none, errW_some] <;> rfl) | (simp [*, errW_none, errW_some] <;> rfl), by repeat (first | (with_reducible first | exact HB.out | apply b_a | apply b_n | apply b_d | refine b_s ?_ GE187.out | refine b_s ?_ GE197.out | refine b_s ?_ GE204.out | refine b_s ?_ GE211.out) | exact HB.out)⟩
/-- THE ONE PURE STATEMENT of pelotonlaw04_MatmulCuts. -/
def pelotonlaw04_MatmulCuts.Pure : Prop := ∀ (a0_0 : Int) (a0_1 : Int) (l0_2 : List Int) (a1 : Int) (a2 : Int), ((Lit.int .i64 a0_0).wf = true ∧ (Lit.int .i64 a0_1).wf = true ∧ l0_2.length ≤ maxLen ∧ ∀ y0 ∈ l0_2, (Lit.int .i8 y0).wf = true) → ((Lit.int .i64 a1).wf = true) → ((Lit.int .i64 a2).wf = true) → ∃ k, pelotonlaw04_MatmulCuts.f k a0_0 a0_1 l0_2 a1 a2 = some true

end Go.Proofs.Ytananmepljeldaa.QMatmulCuts
