-- Written by a program of this session (a turned copy of the print) out of the translation. Lean checks it.
import Derived.Test.YtananmepljeldaaQMatmulPartsx0
import Derived.Test.YtananmepljeldaaQMatmulPartsx1
import Derived.Test.YtananmepljeldaaQMatmulPartsx2
import Derived.Test.YtananmepljeldaaQMatmulPartsx3
namespace Go.Proofs.Ytananmepljeldaa.QMatmulParts
open Go.RowKit Go.Proofs.YtananmepljeldaaW.PrintWords Go.Proofs.YtananmepljeldaaW.PrintLast Go.Proofs.YtananmepljeldaaW.PrintMore
attribute [local go_sem] max2_int min2_int max_two min_two max_three min_three max_four min_four   -- for this text's walks alone
open Go.Proofs.YtananmepljeldaaW.PrintWords renaming below_alloc → b_a, pw_below_drewN → b_n, below_drew1 → b_d, below_set → b_s, blk_drewN → k_n, blk_drew → k_d, blk_alloc → k_a
open List renaming setIfInBounds_toArray → l_1, set_cons_zero → l_2, set_cons_succ → l_3, map_toArray → l_4, map_cons → l_5, map_nil → l_6, length_drop → l_7, length_take → l_8
set_option linter.unusedVariables false
set_option linter.unusedSimpArgs false

/-! ### pelotonlaw04_MatmulParts: function 6 -/
mutual
def pelotonlaw04_MatmulParts.j0 : Nat → List Int → Int → Bool → Int → Int → List Int → Option (Bool)
 | 0, _, _, _, _, _, _ => none
 | k + 1, x1, x2, x38, x168000, x168001, x168002 => if x38 = true then ((pelotonlaw04_awake.f k).bind fun t170 => (some t170)) else ((matmul_Apply.f k x168000 x168001 x168002 x1).bind fun bt171 => (if bt171.2 = 0 then ((matmul_Spans.f k x168000 (wrap64 (1 + (Int.tmod (wrap64 ((Int.tmod x2 9) + 9)) 9)))).bind fun bt175 => ((matmul_Spans.f k x168001 (wrap64 (1 + (Int.tmod (wrap64 ((Int.tmod x2 9) + 9)) 9)))).bind fun bt179 => (if (bt175.1.length : Int) = (wrap64 ((wrap64 (1 + (Int.tmod (wrap64 ((Int.tmod x2 9) + 9)) 9))) + 1)) then (pelotonlaw04_MatmulParts.j1 k x1 bt171.1 (wrap64 (1 + (Int.tmod (wrap64 ((Int.tmod x2 9) + 9)) 9))) bt175.1 bt179.1 ((bt179.1.length : Int) != (wrap64 ((wrap64 (1 + (Int.tmod (wrap64 ((Int.tmod x2 9) + 9)) 9))) + 1))) x168000 x168001 x168002) else (pelotonlaw04_MatmulParts.j1 k x1 bt171.1 (wrap64 (1 + (Int.tmod (wrap64 ((Int.tmod x2 9) + 9)) 9))) bt175.1 bt179.1 true x168000 x168001 x168002)))) else (some true)))
def pelotonlaw04_MatmulParts.j1 : Nat → List Int → List Int → Int → List Int → List Int → Bool → Int → Int → List Int → Option (Bool)
 | 0, _, _, _, _, _, _, _, _, _ => none
 | k + 1, x1, x7, x9, x10, x12, x78, x168000, x168001, x168002 => if x78 = true then (some false) else (if 0 ≤ x168000 then (if (x168000 : Int).toNat ≤ 11728124029610 then (pelotonlaw04_MatmulParts.l0 k x1 x7 x9 x10 x12 ([] : List Int) (List.replicate (x168000 : Int).toNat []) 0 x168000 x168001 x168002) else (none)) else (none))
def pelotonlaw04_MatmulParts.l0 : Nat → List Int → List Int → Int → List Int → List Int → List Int → List (List Int) → Int → Int → Int → List Int → Option (Bool)
 | 0, _, _, _, _, _, _, _, _, _, _, _ => none
 | k + 1, x1, x7, x9, x10, x12, x14, x15, x16, x168000, x168001, x168002 => if x16 < x9 then (if 0 ≤ x16 then (if x16 < (x10.length : Int) then (if 0 ≤ (wrap64 (x16 + 1)) then (if (wrap64 (x16 + 1)) < (x10.length : Int) then ((matmul_Rows.f x168000 x168001 x168002 (rd x10 x16) (rd x10 (wrap64 (x16 + 1)))).bind fun bt188 => ((matmul_Apply.f k bt188.1 bt188.2.1 bt188.2.2.1 x1).bind fun bt195 => (if x16 < (x12.length : Int) then (if (wrap64 (x16 + 1)) < (x12.length : Int) then ((matmul_Cols.f k x168000 x168001 x168002 (rd x12 x16) (rd x12 (wrap64 (x16 + 1)))).bind fun bt201 => (if 0 ≤ (rd x12 x16) then (if (rd x12 x16) ≤ (rd x12 (wrap64 (x16 + 1))) then (if (rd x12 (wrap64 (x16 + 1))) ≤ (x1.length : Int) then ((matmul_Apply.f k bt201.1 bt201.2.1 bt201.2.2.1 ((x1.take ((rd x12 (wrap64 (x16 + 1))) : Int).toNat).drop ((rd x12 x16) : Int).toNat)).bind fun bt211 => (if bt188.2.2.2 = 0 then (if bt195.2 = 0 then (if bt201.2.2.2 = 0 then (if bt211.2 = 0 then (pelotonlaw04_MatmulParts.j3 k x1 x7 x9 x10 x12 x14 x15 x16 bt195.1 bt211.1 ((bt211.1.length : Int) != x168000) x168000 x168001 x168002) else (pelotonlaw04_MatmulParts.j3 k x1 x7 x9 x10 x12 x14 x15 x16 bt195.1 bt211.1 true x168000 x168001 x168002)) else (pelotonlaw04_MatmulParts.j3 k x1 x7 x9 x10 x12 x14 x15 x16 bt195.1 bt211.1 true x168000 x168001 x168002)) else (pelotonlaw04_MatmulParts.j3 k x1 x7 x9 x10 x12 x14 x15 x16 bt195.1 bt211.1 true x168000 x168001 x168002)) else (pelotonlaw04_MatmulParts.j3 k x1 x7 x9 x10 x12 x14 x15 x16 bt195.1 bt211.1 true x168000 x168001 x168002))) else (none)) else (none)) else (none))) else (none)) else (none)))) else (none)) else (none)) else (none)) else (none)) else (pelotonlaw04_MatmulParts.l2 k x7 x14 x15 0 x168000 x168001 x168002)
def pelotonlaw04_MatmulParts.j3 : Nat → List Int → List Int → Int → List Int → List Int → List Int → List (List Int) → Int → List Int → List Int → Bool → Int → Int → List Int → Option (Bool)
 | 0, _, _, _, _, _, _, _, _, _, _, _, _, _, _ => none
 | k + 1, x1, x7, x9, x10, x12, x14, x15, x16, x19, x23, x157, x168000, x168001, x168002 => if x157 = true then (some false) else (if x14.length + x19.length < 35184372088832 then (pelotonlaw04_MatmulParts.l1 k x1 x7 x9 x10 x12 (x14 ++ x19) x15 x16 x23 0 x168000 x168001 x168002) else (none))
def pelotonlaw04_MatmulParts.l1 : Nat → List Int → List Int → Int → List Int → List Int → List Int → List (List Int) → Int → List Int → Int → Int → Int → List Int → Option (Bool)
 | 0, _, _, _, _, _, _, _, _, _, _, _, _, _ => none
 | k + 1, x1, x7, x9, x10, x12, x14, x15, x16, x23, x25, x168000, x168001, x168002 => if x25 < x168000 then (if 0 ≤ x25 then (if x25 < (x15.length : Int) then (if x25 < (x23.length : Int) then (if (rd_L3 x15 x25).length < 35184372088832 then (pelotonlaw04_MatmulParts.l1 k x1 x7 x9 x10 x12 x14 (x15.set (x25 : Int).toNat ((rd_L3 x15 x25) ++ [rd x23 x25])) x16 x23 (wrap64 (x25 + 1)) x168000 x168001 x168002) else (none)) else (none)) else (none)) else (none)) else (pelotonlaw04_MatmulParts.l0 k x1 x7 x9 x10 x12 x14 x15 (wrap64 (x16 + 1)) x168000 x168001 x168002)
def pelotonlaw04_MatmulParts.l2 : Nat → List Int → List Int → List (List Int) → Int → Int → Int → List Int → Option (Bool)
 | 0, _, _, _, _, _, _, _ => none
 | k + 1, x7, x14, x15, x26, x168000, x168001, x168002 => if x26 < x168000 then (if 0 ≤ x26 then (if x26 < (x15.length : Int) then ((round_Sum.f k (rd_L3 x15 x26)).bind fun t225 => (if x26 < (x7.length : Int) then (if t225 = (rd x7 x26) then (pelotonlaw04_MatmulParts.l2 k x7 x14 x15 (wrap64 (x26 + 1)) x168000 x168001 x168002) else (some false)) else (none))) else (none)) else (none)) else ((pelotonref04_Ints.f k x14 x7).bind fun t227 => (some t227))
end
def pelotonlaw04_MatmulParts.f (k : Nat) (a0_0 : Int) (a0_1 : Int) (l0_2 : List Int) (l1 : List Int) (a2 : Int) : Option (Bool) := (pelotonlaw04_awake.f k).bind fun t168 => (if t168 = true then ((pelotonlaw04_small.f a0_0 a0_1 l0_2).bind fun t169 => (if t169 = true then (pelotonlaw04_MatmulParts.j0 k l1 a2 (decide ((l1.length : Int) > 300)) a0_0 a0_1 l0_2) else (pelotonlaw04_MatmulParts.j0 k l1 a2 true a0_0 a0_1 l0_2))) else (pelotonlaw04_MatmulParts.j0 k l1 a2 true a0_0 a0_1 l0_2))
theorem pelotonlaw04_MatmulParts.mono_l : ∀ k, (∀ y0 y1 y2 y3 y4 y5, LeO (pelotonlaw04_MatmulParts.j0 k y0 y1 y2 y3 y4 y5) (pelotonlaw04_MatmulParts.j0 (k + 1) y0 y1 y2 y3 y4 y5)) ∧ (∀ y0 y1 y2 y3 y4 y5 y6 y7 y8, LeO (pelotonlaw04_MatmulParts.j1 k y0 y1 y2 y3 y4 y5 y6 y7 y8) (pelotonlaw04_MatmulParts.j1 (k + 1) y0 y1 y2 y3 y4 y5 y6 y7 y8)) ∧ (∀ y0 y1 y2 y3 y4 y5 y6 y7 y8 y9 y10, LeO (pelotonlaw04_MatmulParts.l0 k y0 y1 y2 y3 y4 y5 y6 y7 y8 y9 y10) (pelotonlaw04_MatmulParts.l0 (k + 1) y0 y1 y2 y3 y4 y5 y6 y7 y8 y9 y10)) ∧ (∀ y0 y1 y2 y3 y4 y5 y6 y7 y8 y9 y10 y11 y12 y13, LeO (pelotonlaw04_MatmulParts.j3 k y0 y1 y2 y3 y4 y5 y6 y7 y8 y9 y10 y11 y12 y13) (pelotonlaw04_MatmulParts.j3 (k + 1) y0 y1 y2 y3 y4 y5 y6 y7 y8 y9 y10 y11 y12 y13)) ∧ (∀ y0 y1 y2 y3 y4 y5 y6 y7 y8 y9 y10 y11 y12, LeO (pelotonlaw04_MatmulParts.l1 k y0 y1 y2 y3 y4 y5 y6 y7 y8 y9 y10 y11 y12) (pelotonlaw04_MatmulParts.l1 (k + 1) y0 y1 y2 y3 y4 y5 y6 y7 y8 y9 y10 y11 y12)) ∧ (∀ y0 y1 y2 y3 y4 y5 y6, LeO (pelotonlaw04_MatmulParts.l2 k y0 y1 y2 y3 y4 y5 y6) (pelotonlaw04_MatmulParts.l2 (k + 1) y0 y1 y2 y3 y4 y5 y6))
 | 0 => ⟨fun _ _ _ _ _ _ r h => by simp [pelotonlaw04_MatmulParts.j0] at h, fun _ _ _ _ _ _ _ _ _ r h => by simp [pelotonlaw04_MatmulParts.j1] at h, fun _ _ _ _ _ _ _ _ _ _ _ r h => by simp [pelotonlaw04_MatmulParts.l0] at h, fun _ _ _ _ _ _ _ _ _ _ _ _ _ _ r h => by simp [pelotonlaw04_MatmulParts.j3] at h, fun _ _ _ _ _ _ _ _ _ _ _ _ _ r h => by simp [pelotonlaw04_MatmulParts.l1] at h, fun _ _ _ _ _ _ _ r h => by simp [pelotonlaw04_MatmulParts.l2] at h⟩
 | k + 1 => by
  obtain ⟨ih0, ih1, ih2, ih3, ih4, ih5⟩ := pelotonlaw04_MatmulParts.mono_l k
  refine ⟨?_, ?_, ?_, ?_, ?_, ?_⟩
  ·
   intro y0 y1 y2 y3 y4 y5
   unfold pelotonlaw04_MatmulParts.j0
   repeat' first
   | (with_reducible exact ih0 _ _ _ _ _ _)
   | (with_reducible exact ih1 _ _ _ _ _ _ _ _ _)
   | (with_reducible exact ih2 _ _ _ _ _ _ _ _ _ _ _)
   | (with_reducible exact ih3 _ _ _ _ _ _ _ _ _ _ _ _ _ _)
   | (with_reducible exact ih4 _ _ _ _ _ _ _ _ _ _ _ _ _)
   | (with_reducible exact ih5 _ _ _ _ _ _ _)
   | (with_reducible exact matmul_Apply.mono _ _ _ _ _)
   | (with_reducible exact matmul_Cols.mono _ _ _ _ _ _)
   | (with_reducible exact matmul_Spans.mono _ _ _)
   | (with_reducible exact pelotonlaw04_awake.mono _)
   | (with_reducible exact pelotonref04_Ints.mono _ _ _)
   | (with_reducible exact round_Sum.mono _ _)
   | (with_reducible exact LeO.refl _)
   | (with_reducible exact LeO.none _)
   | (with_reducible refine LeO.ite ?_ ?_)
   | (with_reducible refine LeO.bind ?_ (fun _ => ?_))
   | exact ih0 _ _ _ _ _ _
   | exact ih1 _ _ _ _ _ _ _ _ _
   | exact ih2 _ _ _ _ _ _ _ _ _ _ _
   | exact ih3 _ _ _ _ _ _ _ _ _ _ _ _ _ _
   | exact ih4 _ _ _ _ _ _ _ _ _ _ _ _ _
   | exact ih5 _ _ _ _ _ _ _
   | exact matmul_Apply.mono _ _ _ _ _
   | exact matmul_Cols.mono _ _ _ _ _ _
   | exact matmul_Spans.mono _ _ _
   | exact pelotonlaw04_awake.mono _
   | exact pelotonref04_Ints.mono _ _ _
   | exact round_Sum.mono _ _
   | exact LeO.none _
   | refine LeO.ite ?_ ?_
   | refine LeO.bind ?_ (fun _ => ?_)
  ·
   intro y0 y1 y2 y3 y4 y5 y6 y7 y8
   unfold pelotonlaw04_MatmulParts.j1
   repeat' first
   | (with_reducible exact ih0 _ _ _ _ _ _)
   | (with_reducible exact ih1 _ _ _ _ _ _ _ _ _)
   | (with_reducible exact ih2 _ _ _ _ _ _ _ _ _ _ _)
   | (with_reducible exact ih3 _ _ _ _ _ _ _ _ _ _ _ _ _ _)
   | (with_reducible exact ih4 _ _ _ _ _ _ _ _ _ _ _ _ _)
   | (with_reducible exact ih5 _ _ _ _ _ _ _)
   | (with_reducible exact matmul_Apply.mono _ _ _ _ _)
   | (with_reducible exact matmul_Cols.mono _ _ _ _ _ _)
   | (with_reducible exact matmul_Spans.mono _ _ _)
   | (with_reducible exact pelotonlaw04_awake.mono _)
   | (with_reducible exact pelotonref04_Ints.mono _ _ _)
   | (with_reducible exact round_Sum.mono _ _)
   | (with_reducible exact LeO.refl _)
   | (with_reducible exact LeO.none _)
   | (with_reducible refine LeO.ite ?_ ?_)
   | (with_reducible refine LeO.bind ?_ (fun _ => ?_))
   | exact ih0 _ _ _ _ _ _
   | exact ih1 _ _ _ _ _ _ _ _ _
   | exact ih2 _ _ _ _ _ _ _ _ _ _ _
   | exact ih3 _ _ _ _ _ _ _ _ _ _ _ _ _ _
   | exact ih4 _ _ _ _ _ _ _ _ _ _ _ _ _
   | exact ih5 _ _ _ _ _ _ _
   | exact matmul_Apply.mono _ _ _ _ _
   | exact matmul_Cols.mono _ _ _ _ _ _
   | exact matmul_Spans.mono _ _ _
   | exact pelotonlaw04_awake.mono _
   | exact pelotonref04_Ints.mono _ _ _
   | exact round_Sum.mono _ _
   | exact LeO.none _
   | refine LeO.ite ?_ ?_
   | refine LeO.bind ?_ (fun _ => ?_)
  ·
   intro y0 y1 y2 y3 y4 y5 y6 y7 y8 y9 y10
   unfold pelotonlaw04_MatmulParts.l0
   repeat' first
   | (with_reducible exact ih0 _ _ _ _ _ _)
   | (with_reducible exact ih1 _ _ _ _ _ _ _ _ _)
   | (with_reducible exact ih2 _ _ _ _ _ _ _ _ _ _ _)
   | (with_reducible exact ih3 _ _ _ _ _ _ _ _ _ _ _ _ _ _)
   | (with_reducible exact ih4 _ _ _ _ _ _ _ _ _ _ _ _ _)
   | (with_reducible exact ih5 _ _ _ _ _ _ _)
   | (with_reducible exact matmul_Apply.mono _ _ _ _ _)
   | (with_reducible exact matmul_Cols.mono _ _ _ _ _ _)
   | (with_reducible exact matmul_Spans.mono _ _ _)
   | (with_reducible exact pelotonlaw04_awake.mono _)
   | (with_reducible exact pelotonref04_Ints.mono _ _ _)
   | (with_reducible exact round_Sum.mono _ _)
   | (with_reducible exact LeO.refl _)
   | (with_reducible exact LeO.none _)
   | (with_reducible refine LeO.ite ?_ ?_)
   | (with_reducible refine LeO.bind ?_ (fun _ => ?_))
   | exact ih0 _ _ _ _ _ _
   | exact ih1 _ _ _ _ _ _ _ _ _
   | exact ih2 _ _ _ _ _ _ _ _ _ _ _
   | exact ih3 _ _ _ _ _ _ _ _ _ _ _ _ _ _
   | exact ih4 _ _ _ _ _ _ _ _ _ _ _ _ _
   | exact ih5 _ _ _ _ _ _ _
   | exact matmul_Apply.mono _ _ _ _ _
   | exact matmul_Cols.mono _ _ _ _ _ _
   | exact matmul_Spans.mono _ _ _
   | exact pelotonlaw04_awake.mono _
   | exact pelotonref04_Ints.mono _ _ _
   | exact round_Sum.mono _ _
   | exact LeO.none _
   | refine LeO.ite ?_ ?_
   | refine LeO.bind ?_ (fun _ => ?_)
  ·
   intro y0 y1 y2 y3 y4 y5 y6 y7 y8 y9 y10 y11 y12 y13
   unfold pelotonlaw04_MatmulParts.j3
   repeat' first
   | (with_reducible exact ih0 _ _ _ _ _ _)
   | (with_reducible exact ih1 _ _ _ _ _ _ _ _ _)
   | (with_reducible exact ih2 _ _ _ _ _ _ _ _ _ _ _)
   | (with_reducible exact ih3 _ _ _ _ _ _ _ _ _ _ _ _ _ _)
   | (with_reducible exact ih4 _ _ _ _ _ _ _ _ _ _ _ _ _)
   | (with_reducible exact ih5 _ _ _ _ _ _ _)
   | (with_reducible exact matmul_Apply.mono _ _ _ _ _)
   | (with_reducible exact matmul_Cols.mono _ _ _ _ _ _)
   | (with_reducible exact matmul_Spans.mono _ _ _)
   | (with_reducible exact pelotonlaw04_awake.mono _)
   | (with_reducible exact pelotonref04_Ints.mono _ _ _)
   | (with_reducible exact round_Sum.mono _ _)
   | (with_reducible exact LeO.refl _)
   | (with_reducible exact LeO.none _)
   | (with_reducible refine LeO.ite ?_ ?_)
   | (with_reducible refine LeO.bind ?_ (fun _ => ?_))
   | exact ih0 _ _ _ _ _ _
   | exact ih1 _ _ _ _ _ _ _ _ _
   | exact ih2 _ _ _ _ _ _ _ _ _ _ _
   | exact ih3 _ _ _ _ _ _ _ _ _ _ _ _ _ _
   | exact ih4 _ _ _ _ _ _ _ _ _ _ _ _ _
   | exact ih5 _ _ _ _ _ _ _
   | exact matmul_Apply.mono _ _ _ _ _
   | exact matmul_Cols.mono _ _ _ _ _ _
   | exact matmul_Spans.mono _ _ _
   | exact pelotonlaw04_awake.mono _
   | exact pelotonref04_Ints.mono _ _ _
   | exact round_Sum.mono _ _
   | exact LeO.none _
   | refine LeO.ite ?_ ?_
   | refine LeO.bind ?_ (fun _ => ?_)
  ·
   intro y0 y1 y2 y3 y4 y5 y6 y7 y8 y9 y10 y11 y12
   unfold pelotonlaw04_MatmulParts.l1
   repeat' first
   | (with_reducible exact ih0 _ _ _ _ _ _)
   | (with_reducible exact ih1 _ _ _ _ _ _ _ _ _)
   | (with_reducible exact ih2 _ _ _ _ _ _ _ _ _ _ _)
   | (with_reducible exact ih3 _ _ _ _ _ _ _ _ _ _ _ _ _ _)
   | (with_reducible exact ih4 _ _ _ _ _ _ _ _ _ _ _ _ _)
   | (with_reducible exact ih5 _ _ _ _ _ _ _)
   | (with_reducible exact matmul_Apply.mono _ _ _ _ _)
   | (with_reducible exact matmul_Cols.mono _ _ _ _ _ _)
   | (with_reducible exact matmul_Spans.mono _ _ _)
   | (with_reducible exact pelotonlaw04_awake.mono _)
   | (with_reducible exact pelotonref04_Ints.mono _ _ _)
   | (with_reducible exact round_Sum.mono _ _)
   | (with_reducible exact LeO.refl _)
   | (with_reducible exact LeO.none _)
   | (with_reducible refine LeO.ite ?_ ?_)
   | (with_reducible refine LeO.bind ?_ (fun _ => ?_))
   | exact ih0 _ _ _ _ _ _
   | exact ih1 _ _ _ _ _ _ _ _ _
   | exact ih2 _ _ _ _ _ _ _ _ _ _ _
   | exact ih3 _ _ _ _ _ _ _ _ _ _ _ _ _ _
   | exact ih4 _ _ _ _ _ _ _ _ _ _ _ _ _
   | exact ih5 _ _ _ _ _ _ _
   | exact matmul_Apply.mono _ _ _ _ _
   | exact matmul_Cols.mono _ _ _ _ _ _
   | exact matmul_Spans.mono _ _ _
   | exact pelotonlaw04_awake.mono _
   | exact pelotonref04_Ints.mono _ _ _
   | exact round_Sum.mono _ _
   | exact LeO.none _
   | refine LeO.ite ?_ ?_
   | refine LeO.bind ?_ (fun _ => ?_)
  ·
   intro y0 y1 y2 y3 y4 y5 y6
   unfold pelotonlaw04_MatmulParts.l2
   repeat' first
   | (with_reducible exact ih0 _ _ _ _ _ _)
   | (with_reducible exact ih1 _ _ _ _ _ _ _ _ _)
   | (with_reducible exact ih2 _ _ _ _ _ _ _ _ _ _ _)
   | (with_reducible exact ih3 _ _ _ _ _ _ _ _ _ _ _ _ _ _)
   | (with_reducible exact ih4 _ _ _ _ _ _ _ _ _ _ _ _ _)
   | (with_reducible exact ih5 _ _ _ _ _ _ _)
   | (with_reducible exact matmul_Apply.mono _ _ _ _ _)
   | (with_reducible exact matmul_Cols.mono _ _ _ _ _ _)
   | (with_reducible exact matmul_Spans.mono _ _ _)
   | (with_reducible exact pelotonlaw04_awake.mono _)
   | (with_reducible exact pelotonref04_Ints.mono _ _ _)
   | (with_reducible exact round_Sum.mono _ _)
   | (with_reducible exact LeO.refl _)
   | (with_reducible exact LeO.none _)
   | (with_reducible refine LeO.ite ?_ ?_)
   | (with_reducible refine LeO.bind ?_ (fun _ => ?_))
   | exact ih0 _ _ _ _ _ _
   | exact ih1 _ _ _ _ _ _ _ _ _
   | exact ih2 _ _ _ _ _ _ _ _ _ _ _
   | exact ih3 _ _ _ _ _ _ _ _ _ _ _ _ _ _
   | exact ih4 _ _ _ _ _ _ _ _ _ _ _ _ _
   | exact ih5 _ _ _ _ _ _ _
   | exact matmul_Apply.mono _ _ _ _ _
   | exact matmul_Cols.mono _ _ _ _ _ _
   | exact matmul_Spans.mono _ _ _
   | exact pelotonlaw04_awake.mono _
   | exact pelotonref04_Ints.mono _ _ _
   | exact round_Sum.mono _ _
   | exact LeO.none _
   | refine LeO.ite ?_ ?_
   | refine LeO.bind ?_ (fun _ => ?_)
theorem pelotonlaw04_MatmulParts.mono : ∀ a0 a1 a2 a3 a4 k, LeO (pelotonlaw04_MatmulParts.f k a0 a1 a2 a3 a4) (pelotonlaw04_MatmulParts.f (k + 1) a0 a1 a2 a3 a4) := by
 intro a0 a1 a2 a3 a4 k
 obtain ⟨ih0, ih1, ih2, ih3, ih4, ih5⟩ := pelotonlaw04_MatmulParts.mono_l k
 unfold pelotonlaw04_MatmulParts.f
 repeat' first
   | (with_reducible exact ih0 _ _ _ _ _ _)
   | (with_reducible exact ih1 _ _ _ _ _ _ _ _ _)
   | (with_reducible exact ih2 _ _ _ _ _ _ _ _ _ _ _)
   | (with_reducible exact ih3 _ _ _ _ _ _ _ _ _ _ _ _ _ _)
   | (with_reducible exact ih4 _ _ _ _ _ _ _ _ _ _ _ _ _)
   | (with_reducible exact ih5 _ _ _ _ _ _ _)
   | (with_reducible exact matmul_Apply.mono _ _ _ _ _)
   | (with_reducible exact matmul_Cols.mono _ _ _ _ _ _)
   | (with_reducible exact matmul_Spans.mono _ _ _)
   | (with_reducible exact pelotonlaw04_awake.mono _)
   | (with_reducible exact pelotonref04_Ints.mono _ _ _)
   | (with_reducible exact round_Sum.mono _ _)
   | (with_reducible exact LeO.refl _)
   | (with_reducible exact LeO.none _)
   | (with_reducible refine LeO.ite ?_ ?_)
   | (with_reducible refine LeO.bind ?_ (fun _ => ?_))
   | exact ih0 _ _ _ _ _ _
   | exact ih1 _ _ _ _ _ _ _ _ _
   | exact ih2 _ _ _ _ _ _ _ _ _ _ _
   | exact ih3 _ _ _ _ _ _ _ _ _ _ _ _ _ _
   | exact ih4 _ _ _ _ _ _ _ _ _ _ _ _ _
   | exact ih5 _ _ _ _ _ _ _
   | exact matmul_Apply.mono _ _ _ _ _
   | exact matmul_Cols.mono _ _ _ _ _ _
   | exact matmul_Spans.mono _ _ _
   | exact pelotonlaw04_awake.mono _
   | exact pelotonref04_Ints.mono _ _ _
   | exact round_Sum.mono _ _
   | exact LeO.none _
   | refine LeO.ite ?_ ?_
   | refine LeO.bind ?_ (fun _ => ?_)
def pelotonlaw04_MatmulParts.T16 : Bool × List (List Nat × List Nat) := (true, [([], []), ([], []), ([], []), ([1, 2], [1, 2]), ([3], [3]), ([], []), ([], []), ([6], [6]), ([5, 7], [5, 7]), ([8], [8]), ([0, 4, 9], [0, 4, 9]), ([10], [10]), ([11], [11]), ([11], [11]), ([], []), ([14, 12, 10, 0, 1, 2, 3, 4, 5, 6, 7, 8, 9, 10, 11, 12, 14], [12, 14]), ([13, 15, 0, 1, 2, 3, 4, 5, 6, 7, 8, 9, 10, 11, 12, 13, 14, 15], [13])])
def pelotonlaw04_MatmulParts.B16 : List Nat := [0, 0, 0, 6, 14, 0, 0, 64, 224, 480, 1023, 2047, 4095, 4095, 0, 24575, 65535]
theorem pelotonlaw04_MatmulParts.tab16 : rtab .any (opsOf Try.f6 16) = pelotonlaw04_MatmulParts.T16 := by kernel_rfl
theorem pelotonlaw04_MatmulParts.bits16 : waitsOk pelotonlaw04_MatmulParts.T16.2 pelotonlaw04_MatmulParts.B16 = true := by kernel_rfl
def pelotonlaw04_MatmulParts.T18 : Bool × List (List Nat × List Nat) := (true, [([], []), ([], []), ([], []), ([1, 2], [1, 2]), ([3], [3]), ([], []), ([], []), ([6], [6]), ([5, 7], [5, 7]), ([8], [8]), ([0, 4, 9], [0, 4, 9]), ([10], [10]), ([11], [11]), ([11], [11]), ([], []), ([14, 12, 10, 0, 1, 2, 3, 4, 5, 6, 7, 8, 9, 10, 11, 12, 14], [12, 14]), ([13, 15, 0, 1, 2, 3, 4, 5, 6, 7, 8, 9, 10, 11, 12, 13, 14, 15], [13])])
def pelotonlaw04_MatmulParts.B18 : List Nat := [0, 0, 0, 6, 14, 0, 0, 64, 224, 480, 1023, 2047, 4095, 4095, 0, 24575, 65535]
theorem pelotonlaw04_MatmulParts.tab18 : rtab .any (opsOf Try.f6 18) = pelotonlaw04_MatmulParts.T18 := by kernel_rfl
theorem pelotonlaw04_MatmulParts.bits18 : waitsOk pelotonlaw04_MatmulParts.T18.2 pelotonlaw04_MatmulParts.B18 = true := by kernel_rfl
def pelotonlaw04_MatmulParts.T19 : Bool × List (List Nat × List Nat) := (true, [([], []), ([], []), ([], []), ([], []), ([2, 3], [2, 3]), ([4], [4]), ([], []), ([], []), ([7], [7]), ([6, 8], [6, 8]), ([9], [9]), ([1, 5, 10], [1, 5, 10]), ([0, 11], [0, 11]), ([12], [12]), ([13], [13]), ([13], [13]), ([14, 12, 0, 1, 2, 3, 4, 5, 6, 7, 8, 9, 10, 11, 12, 13, 14], [14]), ([15, 16, 0, 1, 2, 3, 4, 5, 6, 7, 8, 9, 10, 11, 12, 13, 14, 15, 16], [15])])
def pelotonlaw04_MatmulParts.B19 : List Nat := [0, 0, 0, 0, 12, 28, 0, 0, 128, 448, 960, 2046, 4095, 8191, 16383, 16383, 32767, 131071]
theorem pelotonlaw04_MatmulParts.tab19 : rtab .any (opsOf Try.f6 19) = pelotonlaw04_MatmulParts.T19 := by kernel_rfl
theorem pelotonlaw04_MatmulParts.bits19 : waitsOk pelotonlaw04_MatmulParts.T19.2 pelotonlaw04_MatmulParts.B19 = true := by kernel_rfl
def pelotonlaw04_MatmulParts.T26 : Bool × List (List Nat × List Nat) := (true, [([], []), ([], []), ([], []), ([], []), ([2, 3], [2, 3]), ([4], [4]), ([], []), ([], []), ([6, 7], [6, 7]), ([8], [8]), ([9], [9]), ([5, 10], [5, 10]), ([0, 1, 0, 1, 2, 3, 4, 5, 6, 7, 8, 9, 10, 11], [0, 1]), ([12, 11, 11, 0, 1, 2, 3, 4, 5, 6, 7, 8, 9, 10, 11], [11, 12])])
def pelotonlaw04_MatmulParts.B26 : List Nat := [0, 0, 0, 0, 12, 28, 0, 0, 192, 448, 960, 2044, 4095, 8191]
theorem pelotonlaw04_MatmulParts.tab26 : rtab .any (opsOf Try.f6 26) = pelotonlaw04_MatmulParts.T26 := by kernel_rfl
theorem pelotonlaw04_MatmulParts.bits26 : waitsOk pelotonlaw04_MatmulParts.T26.2 pelotonlaw04_MatmulParts.B26 = true := by kernel_rfl
def pelotonlaw04_MatmulParts.T30 : Bool × List (List Nat × List Nat) := (true, [([], []), ([], []), ([0, 1], [0, 1]), ([2], [2]), ([3], [3]), ([], []), ([], []), ([5, 6], [5, 6]), ([7], [7]), ([4, 8], [4, 8])])
def pelotonlaw04_MatmulParts.B30 : List Nat := [0, 0, 3, 7, 15, 0, 0, 96, 224, 511]
theorem pelotonlaw04_MatmulParts.tab30 : rtab .any (opsOf Try.f6 30) = pelotonlaw04_MatmulParts.T30 := by kernel_rfl
theorem pelotonlaw04_MatmulParts.bits30 : waitsOk pelotonlaw04_MatmulParts.T30.2 pelotonlaw04_MatmulParts.B30 = true := by kernel_rfl
set_option maxHeartbeats 8000000 in
set_option maxRecDepth 100000 in
theorem pelotonlaw04_MatmulParts.calls (k : Nat) (a0_0 : Int) (a0_1 : Int) (A0_2 : Option Addr) (c0_2 : Nat) (l0_2 : List Int) (A1 : Option Addr) (c1 : Nat) (l1 : List Int) (a2 : Int) (r : Bool) (w : World) (hr0_2 : Kd.C (Kd.int .i8) w A0_2 l0_2.length l0_2) (hc0_2 : l0_2.length ≤ c0_2) (hr1 : Kd.C (Kd.int .i8) w A1 l1.length l1) (hc1 : l1.length ≤ c1) (h : pelotonlaw04_MatmulParts.f k a0_0 a0_1 l0_2 l1 a2 = some r) :
  Calls Try.prog 6 #[.agg #[.int .i64 a0_0, .int .i64 a0_1, .slice A0_2 l0_2.length c0_2], .slice A1 l1.length c1, .int .i64 a2] w fun e w' => e = .returned (.bool r) ∧ Below w.heap.size w w' := by
 have hu30 := Try.underlying30
 have HR0_2 := Aside0.mk hr0_2
 have HC0_2 := Aside0.mk hc0_2
 clear hr0_2 hc0_2
 have HR1 := Aside0.mk hr1
 have HC1 := Aside0.mk hc1
 clear hr1 hc1
 have HB := Aside0.mk (Below.refl w.heap.size w)
 have H : ((pelotonlaw04_awake.f k).bind fun t168 => (if t168 = true then ((pelotonlaw04_small.f a0_0 a0_1 l0_2).bind fun t169 => (if t169 = true then (pelotonlaw04_MatmulParts.j0 k l1 a2 (decide ((l1.length : Int) > 300)) a0_0 a0_1 l0_2) else (pelotonlaw04_MatmulParts.j0 k l1 a2 true a0_0 a0_1 l0_2))) else (pelotonlaw04_MatmulParts.j0 k l1 a2 true a0_0 a0_1 l0_2))) = some r := h
 clear h
 have HC4 := Aside0.mk H
 clear H
 go_enter Try.func6, Try.ntmps6
 go_upto_region 1 with (first | ((with_reducible refine gate_dst (N := 3) rfl ?_); (try (refine gate_guard (by rfl) ?_; dsimp only)); refine box_event ?hg (N := 3) ?hd (cs := #[.int .i64 a0_0, .int .i64 a0_1, .slice A0_2 l0_2.length c0_2]) (t := 30) ?hr ?_; (case hd => rfl); (case hg => rfl); (case hr => first | (go_simp; done) | (go_simp; rfl)); intro gb167 hg w5 hbox hb; have n0_ := Aside0.mk (below_step (by repeat (first | (with_reducible first | exact HB.out | apply b_a | apply b_n | apply b_d) | exact HB.out)) hb); have n1_ := Aside0.mk (hbox); have n2_ := Aside0.mk ((by rw [hg]; exact (below_size (by repeat (first | (with_reducible first | exact HB.out | apply b_a | apply b_n | apply b_d) | exact HB.out))) : w.heap.size ≤ gb167)); have n3_ := Aside0.mk ((by rw [hg]; exact (below_size (by repeat (first | (with_reducible first | exact HB.out | apply b_a | apply b_n | apply b_d) | exact HB.out))) : w.heap.size ≤ gb167)); clear HB; have HB := n0_; have BK167 := n1_; have GW167 := n2_; have GE167 := n3_; clear n0_ n1_ n2_ n3_; clear hb hbox hg))
 (try simp only [Act.put, l_1, l_2, l_3])
 go_cut [38] (fun v38 wc => ∃ (kq : Nat) (x38_3 : Bool), v38 = .bool x38_3 ∧ Aside0 (pelotonlaw04_MatmulParts.j0 kq l1 a2 x38_3 a0_0 a0_1 l0_2 = some r) ∧ Aside0 (kq ≤ k) ∧ Aside0 (wc.heap[gb167]? = some (.cells #[.int .i64 a0_0, .int .i64 a0_1, (.slice A0_2 l0_2.length c0_2)] 30 (0, 0))) ∧ Aside0 (Below w.heap.size w wc))
 case first =>
  have H := HC4.out
  clear HC4
  replace H := Option.bind_eq_some_iff.mp H
  obtain ⟨t168, A60, H⟩ := H
  replace H : (if t168 = true then ((pelotonlaw04_small.f a0_0 a0_1 l0_2).bind fun t169 => (if t169 = true then (pelotonlaw04_MatmulParts.j0 k l1 a2 (decide ((l1.length : Int) > 300)) a0_0 a0_1 l0_2) else (pelotonlaw04_MatmulParts.j0 k l1 a2 true a0_0 a0_1 l0_2))) else (pelotonlaw04_MatmulParts.j0 k l1 a2 true a0_0 a0_1 l0_2)) = some r := H
  have A6 := Aside0.mk A60
  clear A60
  by_cases c7 : t168 = true
  rotate_left
  ·
   replace c7 := Bool.eq_false_iff.mpr c7
   subst c7
   have H1 : (pelotonlaw04_MatmulParts.j0 k l1 a2 true a0_0 a0_1 l0_2) = some r := by rw [if_neg (show ¬ (false = true) by decide)] at H; exact H
   clear H
   have H := H1
   clear H1
   have H' := Aside0.mk H
   clear H
   go_wp2_with (first | ((with_reducible refine gate_callee (f := 10) rfl ?_); refine goesL_ (some 27) rfl rfl Try.func10 (by kernel_rfl) rfl #[] rfl (by (try simp only [l_4, l_5, l_6]); first | done | rfl | (simp only [l_7, l_8]; rfl)) ?_; (with_reducible refine (pelotonlaw04_awake.calls k  false _ A6.out).mono ?_); rintro e w16 ⟨rfl, hb⟩; refine ⟨_, rfl, ?_⟩; have n0_ := Aside0.mk (blk_below (g := gb167) (o := .cells #[.int .i64 a0_0, .int .i64 a0_1, .slice A0_2 l0_2.length c0_2] 30 (0, 0)) (by (with_reducible repeat (first | refine k_n ?_ _ | refine k_d ?_ | refine k_a ?_ _)); exact BK167.out) hb); have n1_ := Aside0.mk (below_step (by repeat (first | (with_reducible first | exact HB.out | apply b_a | apply b_n | apply b_d | refine b_s ?_ GE167.out) | exact HB.out)) hb); clear BK167; clear HB; have BK167 := n0_; have HB := n1_; clear n0_ n1_; (try clear hb); (try clear hb2); (try clear hk); (try clear hi)))
   go_meet
   case rel => exact ⟨_, (true), (by first | rfl | (simp; done) | (simp [*]; done)), H', ⟨by first | omega | exact Nat.le_refl _⟩, ⟨by (with_reducible repeat (first | refine k_n ?_ _ | refine k_d ?_ | refine k_a ?_ _)); exact BK167.out⟩, ⟨by repeat (first | (with_reducible first | exact HB.out | apply b_a | apply b_n | apply b_d | refine b_s ?_ GE167.out) | exact HB.out)⟩⟩
  subst c7
  have H1 : ((pelotonlaw04_small.f a0_0 a0_1 l0_2).bind fun t169 => (if t169 = true then (pelotonlaw04_MatmulParts.j0 k l1 a2 (decide ((l1.length : Int) > 300)) a0_0 a0_1 l0_2) else (pelotonlaw04_MatmulParts.j0 k l1 a2 true a0_0 a0_1 l0_2))) = some r := by rw [if_pos rfl] at H; exact H
  clear H
  have H := H1
  clear H1
  replace H := Option.bind_eq_some_iff.mp H
  obtain ⟨t169, A80, H⟩ := H
  replace H : (if t169 = true then (pelotonlaw04_MatmulParts.j0 k l1 a2 (decide ((l1.length : Int) > 300)) a0_0 a0_1 l0_2) else (pelotonlaw04_MatmulParts.j0 k l1 a2 true a0_0 a0_1 l0_2)) = some r := H
  have A8 := Aside0.mk A80
  clear A80
  by_cases c9 : t169 = true
  ·
   subst c9
   have H1 : (pelotonlaw04_MatmulParts.j0 k l1 a2 (decide ((l1.length : Int) > 300)) a0_0 a0_1 l0_2) = some r := by rw [if_pos rfl] at H; exact H
   clear H
   have H := H1
   clear H1
   have H' := Aside0.mk H
   clear H
   go_wp2_with (first | ((with_reducible refine gate_callee (f := 10) rfl ?_); refine goesL_ (some 27) rfl rfl Try.func10 (by kernel_rfl) rfl #[] rfl (by (try simp only [l_4, l_5, l_6]); first | done | rfl | (simp only [l_7, l_8]; rfl)) ?_; (with_reducible refine (pelotonlaw04_awake.calls k  true _ A6.out).mono ?_); rintro e w10 ⟨rfl, hb⟩; refine ⟨_, rfl, ?_⟩; have n0_ := Aside0.mk (blk_below (g := gb167) (o := .cells #[.int .i64 a0_0, .int .i64 a0_1, .slice A0_2 l0_2.length c0_2] 30 (0, 0)) (by (with_reducible repeat (first | refine k_n ?_ _ | refine k_d ?_ | refine k_a ?_ _)); exact BK167.out) hb); have n1_ := Aside0.mk (below_step (by repeat (first | (with_reducible first | exact HB.out | apply b_a | apply b_n | apply b_d | refine b_s ?_ GE167.out) | exact HB.out)) hb); clear BK167; clear HB; have BK167 := n0_; have HB := n1_; clear n0_ n1_; (try clear hb); (try clear hb2); (try clear hk); (try clear hi); have hcz11_0 : w10.cell? ⟨gb167, 0, none⟩ = some (.int .i64 a0_0) := (blk_cell BK167.out 0).trans rfl; have hcz11_1 : w10.cell? ⟨gb167, 1, none⟩ = some (.int .i64 a0_1) := (blk_cell BK167.out 1).trans rfl; have hcz11_2 : w10.cell? ⟨gb167, 2, none⟩ = some (.slice A0_2 l0_2.length c0_2) := (blk_cell BK167.out 2).trans rfl; have hfz11_0 := blk_frozen BK167.out 0; have hfz11_1 := blk_frozen BK167.out 1; have hfz11_2 := blk_frozen BK167.out 2) | (go_at_call 12; (with_reducible refine (pelotonlaw04_small.calls a0_0 a0_1 _ _ l0_2 true _ ?side1 ?side2 A8.out).mono ?_); (case side1 => repeat (first | exact (Kd.C_below HR0_2.out HB.out) | (with_reducible refine Kd.C_alloc ?_ _) | (with_reducible refine Kd.C_drewN ?_ _) | (with_reducible refine Kd.C_drew ?_))); (case side2 => exact HC0_2.out); rintro e w12 ⟨rfl, hb⟩; have n0_ := Aside0.mk (blk_below (g := gb167) (o := .cells #[.int .i64 a0_0, .int .i64 a0_1, .slice A0_2 l0_2.length c0_2] 30 (0, 0)) (by (with_reducible repeat (first | refine k_n ?_ _ | refine k_d ?_ | refine k_a ?_ _)); exact BK167.out) hb); have n1_ := Aside0.mk (below_step (by repeat (first | (with_reducible first | exact HB.out | apply b_a | apply b_n | apply b_d | refine b_s ?_ GE167.out) | exact HB.out)) hb); clear BK167; clear HB; have BK167 := n0_; have HB := n1_; clear n0_ n1_; (try clear hb); (try clear hb2); (try clear hk); (try clear hi)))
   go_meet
   case rel => exact ⟨_, (decide ((l1.length : Int) > 300)), (by first | rfl | (simp; done) | (simp [*]; done)), H', ⟨by first | omega | exact Nat.le_refl _⟩, ⟨by (with_reducible repeat (first | refine k_n ?_ _ | refine k_d ?_ | refine k_a ?_ _)); exact BK167.out⟩, ⟨by repeat (first | (with_reducible first | exact HB.out | apply b_a | apply b_n | apply b_d | refine b_s ?_ GE167.out) | exact HB.out)⟩⟩
  replace c9 := Bool.eq_false_iff.mpr c9
  subst c9
  have H1 : (pelotonlaw04_MatmulParts.j0 k l1 a2 true a0_0 a0_1 l0_2) = some r := by rw [if_neg (show ¬ (false = true) by decide)] at H; exact H
  clear H
  have H := H1
  clear H1
  have H' := Aside0.mk H
  clear H
  go_wp2_with (first | ((with_reducible refine gate_callee (f := 10) rfl ?_); refine goesL_ (some 27) rfl rfl Try.func10 (by kernel_rfl) rfl #[] rfl (by (try simp only [l_4, l_5, l_6]); first | done | rfl | (simp only [l_7, l_8]; rfl)) ?_; (with_reducible refine (pelotonlaw04_awake.calls k  true _ A6.out).mono ?_); rintro e w13 ⟨rfl, hb⟩; refine ⟨_, rfl, ?_⟩; have n0_ := Aside0.mk (blk_below (g := gb167) (o := .cells #[.int .i64 a0_0, .int .i64 a0_1, .slice A0_2 l0_2.length c0_2] 30 (0, 0)) (by (with_reducible repeat (first | refine k_n ?_ _ | refine k_d ?_ | refine k_a ?_ _)); exact BK167.out) hb); have n1_ := Aside0.mk (below_step (by repeat (first | (with_reducible first | exact HB.out | apply b_a | apply b_n | apply b_d | refine b_s ?_ GE167.out) | exact HB.out)) hb); clear BK167; clear HB; have BK167 := n0_; have HB := n1_; clear n0_ n1_; (try clear hb); (try clear hb2); (try clear hk); (try clear hi); have hcz14_0 : w13.cell? ⟨gb167, 0, none⟩ = some (.int .i64 a0_0) := (blk_cell BK167.out 0).trans rfl; have hcz14_1 : w13.cell? ⟨gb167, 1, none⟩ = some (.int .i64 a0_1) := (blk_cell BK167.out 1).trans rfl; have hcz14_2 : w13.cell? ⟨gb167, 2, none⟩ = some (.slice A0_2 l0_2.length c0_2) := (blk_cell BK167.out 2).trans rfl; have hfz14_0 := blk_frozen BK167.out 0; have hfz14_1 := blk_frozen BK167.out 1; have hfz14_2 := blk_frozen BK167.out 2) | (go_at_call 12; (with_reducible refine (pelotonlaw04_small.calls a0_0 a0_1 _ _ l0_2 false _ ?side1 ?side2 A8.out).mono ?_); (case side1 => repeat (first | exact (Kd.C_below HR0_2.out HB.out) | (with_reducible refine Kd.C_alloc ?_ _) | (with_reducible refine Kd.C_drewN ?_ _) | (with_reducible refine Kd.C_drew ?_))); (case side2 => exact HC0_2.out); rintro e w15 ⟨rfl, hb⟩; have n0_ := Aside0.mk (blk_below (g := gb167) (o := .cells #[.int .i64 a0_0, .int .i64 a0_1, .slice A0_2 l0_2.length c0_2] 30 (0, 0)) (by (with_reducible repeat (first | refine k_n ?_ _ | refine k_d ?_ | refine k_a ?_ _)); exact BK167.out) hb); have n1_ := Aside0.mk (below_step (by repeat (first | (with_reducible first | exact HB.out | apply b_a | apply b_n | apply b_d | refine b_s ?_ GE167.out) | exact HB.out)) hb); clear BK167; clear HB; have BK167 := n0_; have HB := n1_; clear n0_ n1_; (try clear hb); (try clear hb2); (try clear hk); (try clear hi)))
  go_meet
  case rel => exact ⟨_, (true), (by first | rfl | (simp; done) | (simp [*]; done)), H', ⟨by first | omega | exact Nat.le_refl _⟩, ⟨by (with_reducible repeat (first | refine k_n ?_ _ | refine k_d ?_ | refine k_a ?_ _)); exact BK167.out⟩, ⟨by repeat (first | (with_reducible first | exact HB.out | apply b_a | apply b_n | apply b_d | refine b_s ?_ GE167.out) | exact HB.out)⟩⟩
 case rest =>
  clear HC4
  try clear c1
  try clear p2
  try clear c6
  try clear c7
  try clear c9
  try clear c10
  try clear hcz11_0
  try clear hcz11_1
  try clear hcz11_2
  try clear hcz14_0
  try clear hcz14_1
  try clear hcz14_2
  try clear hfz11_0
  try clear hfz11_1
  try clear hfz11_2
  try clear hfz14_0
  try clear hfz14_1
  try clear hfz14_2
  obtain ⟨kq, x38_3, rfl, HA, HJ3, BK167, HB⟩ := hcut
  cases kq with
  | zero => exact absurd HA.out (by simp [pelotonlaw04_MatmulParts.j0])
  | succ kj3 =>
   have H := HA.out
   clear HA
   simp only [pelotonlaw04_MatmulParts.j0] at H
   by_cases c17 : x38_3 = true
   ·
    subst c17
    have H1 : ((pelotonlaw04_awake.f kj3).bind fun t170 => (some t170)) = some r := by rw [if_pos rfl] at H; exact H
    clear H
    have H := H1
    clear H1
    replace H := Option.bind_eq_some_iff.mp H
    obtain ⟨t170, A180, H⟩ := H
    replace H : (some t170) = some r := H
    have A18 := Aside0.mk A180
    clear A180
    obtain rfl := Option.some.inj H
    go_wp2_with (first | ((with_reducible refine gate_callee (f := 10) rfl ?_); refine goesL_ (some 39) rfl rfl Try.func10 (by kernel_rfl) rfl #[] rfl (by (try simp only [l_4, l_5, l_6]); first | done | rfl | (simp only [l_7, l_8]; rfl)) ?_; (with_reducible refine (pelotonlaw04_awake.calls kj3  t170 _ A18.out).mono ?_); rintro e w19 ⟨rfl, hb⟩; refine ⟨_, rfl, ?_⟩; have n0_ := Aside0.mk (blk_below (g := gb167) (o := .cells #[.int .i64 a0_0, .int .i64 a0_1, .slice A0_2 l0_2.length c0_2] 30 (0, 0)) (by (with_reducible repeat (first | refine k_n ?_ _ | refine k_d ?_ | refine k_a ?_ _)); exact BK167.out) hb); have n1_ := Aside0.mk (below_step (by repeat (first | (with_reducible first | exact HB.out | apply b_a | apply b_n | apply b_d | refine b_s ?_ GE167.out) | exact HB.out)) hb); clear BK167; clear HB; have BK167 := n0_; have HB := n1_; clear n0_ n1_; (try clear hb); (try clear hb2); (try clear hk); (try clear hi)))
    go_ret
    exact ⟨by first | rfl | (simp [errW_none, errW_some] <;> rfl) | (simp [*, errW_none, errW_some] <;> rfl), by repeat (first | (with_reducible first | exact HB.out | apply b_a | apply b_n | apply b_d | refine b_s ?_ GE167.out) | exact HB.out)⟩
   replace c17 := Bool.eq_false_iff.mpr c17
   subst c17
   have H1 : ((matmul_Apply.f kj3 a0_0 a0_1 l0_2 l1).bind fun bt171 => (if bt171.2 = 0 then ((matmul_Spans.f kj3 a0_0 (wrap64 (1 + (Int.tmod (wrap64 ((Int.tmod a2 9) + 9)) 9)))).bind fun bt175 => ((matmul_Spans.f kj3 a0_1 (wrap64 (1 + (Int.tmod (wrap64 ((Int.tmod a2 9) + 9)) 9)))).bind fun bt179 => (if (bt175.1.length : Int) = (wrap64 ((wrap64 (1 + (Int.tmod (wrap64 ((Int.tmod a2 9) + 9)) 9))) + 1)) then (pelotonlaw04_MatmulParts.j1 kj3 l1 bt171.1 (wrap64 (1 + (Int.tmod (wrap64 ((Int.tmod a2 9) + 9)) 9))) bt175.1 bt179.1 ((bt179.1.length : Int) != (wrap64 ((wrap64 (1 + (Int.tmod (wrap64 ((Int.tmod a2 9) + 9)) 9))) + 1))) a0_0 a0_1 l0_2) else (pelotonlaw04_MatmulParts.j1 kj3 l1 bt171.1 (wrap64 (1 + (Int.tmod (wrap64 ((Int.tmod a2 9) + 9)) 9))) bt175.1 bt179.1 true a0_0 a0_1 l0_2)))) else (some true))) = some r := by rw [if_neg (show ¬ (false = true) by decide)] at H; exact H
   clear H
   have H := H1
   clear H1
   replace H := Option.bind_eq_some_iff.mp H
   obtain ⟨⟨t171, t174⟩, A200, H⟩ := H
   replace H : (if t174 = 0 then ((matmul_Spans.f kj3 a0_0 (wrap64 (1 + (Int.tmod (wrap64 ((Int.tmod a2 9) + 9)) 9)))).bind fun bt175 => ((matmul_Spans.f kj3 a0_1 (wrap64 (1 + (Int.tmod (wrap64 ((Int.tmod a2 9) + 9)) 9)))).bind fun bt179 => (if (bt175.1.length : Int) = (wrap64 ((wrap64 (1 + (Int.tmod (wrap64 ((Int.tmod a2 9) + 9)) 9))) + 1)) then (pelotonlaw04_MatmulParts.j1 kj3 l1 t171 (wrap64 (1 + (Int.tmod (wrap64 ((Int.tmod a2 9) + 9)) 9))) bt175.1 bt179.1 ((bt179.1.length : Int) != (wrap64 ((wrap64 (1 + (Int.tmod (wrap64 ((Int.tmod a2 9) + 9)) 9))) + 1))) a0_0 a0_1 l0_2) else (pelotonlaw04_MatmulParts.j1 kj3 l1 t171 (wrap64 (1 + (Int.tmod (wrap64 ((Int.tmod a2 9) + 9)) 9))) bt175.1 bt179.1 true a0_0 a0_1 l0_2)))) else (some true)) = some r := H
   have A20 := Aside0.mk A200
   clear A200
   by_cases c21 : t174 = 0
   rotate_left
   ·
    rw [if_neg c21] at H
    have c21b0 : (t174 == 0) = false := beq_eq_false_iff_ne.mpr c21
    have c21b1 : (t174 != 0) = true := bne_iff_ne.mpr c21
    obtain rfl := Option.some.inj H
    have hcz132_0 : wc.cell? ⟨gb167, 0, none⟩ = some (.int .i64 a0_0) := (blk_cell BK167.out 0).trans rfl
    have hcz132_1 : wc.cell? ⟨gb167, 1, none⟩ = some (.int .i64 a0_1) := (blk_cell BK167.out 1).trans rfl
    have hcz132_2 : wc.cell? ⟨gb167, 2, none⟩ = some (.slice A0_2 l0_2.length c0_2) := (blk_cell BK167.out 2).trans rfl
    have hfz132_0 := blk_frozen BK167.out 0
    have hfz132_1 := blk_frozen BK167.out 1
    have hfz132_2 := blk_frozen BK167.out 2
    go_wp2_with (first | ((with_reducible refine gate_callee (f := 14) rfl ?_); refine goesL_ (some 43) rfl rfl Try.func14 (by kernel_rfl) rfl #[.agg #[.int .i64 a0_0, .int .i64 a0_1, .slice A0_2 l0_2.length c0_2], .slice A1 l1.length c1] rfl (by (try simp only [l_4, l_5, l_6]); first | done | rfl | (simp only [l_7, l_8]; rfl)) ?_; (with_reducible refine (matmul_Apply.calls kj3 a0_0 a0_1 _ _ l0_2 _ _ l1 t171 t174 _ ?side1 ?side2 ?side3 ?side4 A20.out).mono ?_); (case side1 => repeat (first | exact (Kd.C_below HR0_2.out HB.out) | (with_reducible refine Kd.C_alloc ?_ _) | (with_reducible refine Kd.C_drewN ?_ _) | (with_reducible refine Kd.C_drew ?_))); (case side2 => exact HC0_2.out); (case side3 => repeat (first | exact (Kd.C_below HR1.out HB.out) | (with_reducible refine Kd.C_alloc ?_ _) | (with_reducible refine Kd.C_drewN ?_ _) | (with_reducible refine Kd.C_drew ?_))); (case side4 => exact HC1.out); rintro e w133 ⟨v172, rfl, ho0, hb⟩; refine ⟨_, rfl, ?_⟩; have n0_ := Aside0.mk (Kd.R_lower ho0 (below_size (by repeat (first | (with_reducible first | exact HB.out | apply b_a | apply b_n | apply b_d | refine b_s ?_ GE167.out) | exact HB.out)))); have n1_ := Aside0.mk (blk_below (g := gb167) (o := .cells #[.int .i64 a0_0, .int .i64 a0_1, .slice A0_2 l0_2.length c0_2] 30 (0, 0)) (by (with_reducible repeat (first | refine k_n ?_ _ | refine k_d ?_ | refine k_a ?_ _)); exact BK167.out) hb); have n2_ := Aside0.mk (below_step (by repeat (first | (with_reducible first | exact HB.out | apply b_a | apply b_n | apply b_d | refine b_s ?_ GE167.out) | exact HB.out)) hb); clear BK167; clear HB; have HO173 := n0_; have BK167 := n1_; have HB := n2_; clear n0_ n1_ n2_; (try clear hb); (try clear hb2); (try clear hk); (try clear hi); (try clear ho0)))
    go_ret
    exact ⟨by first | rfl | (simp [errW_none, errW_some] <;> rfl) | (simp [*, errW_none, errW_some] <;> rfl), by repeat (first | (with_reducible first | exact HB.out | apply b_a | apply b_n | apply b_d | refine b_s ?_ GE167.out) | exact HB.out)⟩

   rw [if_pos c21] at H
   have c21b0 : (t174 == 0) = true := beq_iff_eq.mpr c21
   have c21b1 : (t174 != 0) = false := bne_eq_false_iff_eq.mpr c21
   clear c21
   replace H := Option.bind_eq_some_iff.mp H
   obtain ⟨⟨t175, t176⟩, A220, H⟩ := H
   replace H : ((matmul_Spans.f kj3 a0_1 (wrap64 (1 + (Int.tmod (wrap64 ((Int.tmod a2 9) + 9)) 9)))).bind fun bt179 => (if (t175.length : Int) = (wrap64 ((wrap64 (1 + (Int.tmod (wrap64 ((Int.tmod a2 9) + 9)) 9))) + 1)) then (pelotonlaw04_MatmulParts.j1 kj3 l1 t171 (wrap64 (1 + (Int.tmod (wrap64 ((Int.tmod a2 9) + 9)) 9))) t175 bt179.1 ((bt179.1.length : Int) != (wrap64 ((wrap64 (1 + (Int.tmod (wrap64 ((Int.tmod a2 9) + 9)) 9))) + 1))) a0_0 a0_1 l0_2) else (pelotonlaw04_MatmulParts.j1 kj3 l1 t171 (wrap64 (1 + (Int.tmod (wrap64 ((Int.tmod a2 9) + 9)) 9))) t175 bt179.1 true a0_0 a0_1 l0_2))) = some r := H
   have A22 := Aside0.mk A220
   clear A220
   replace H := Option.bind_eq_some_iff.mp H
   obtain ⟨⟨t179, t180⟩, A230, H⟩ := H
   replace H : (if (t175.length : Int) = (wrap64 ((wrap64 (1 + (Int.tmod (wrap64 ((Int.tmod a2 9) + 9)) 9))) + 1)) then (pelotonlaw04_MatmulParts.j1 kj3 l1 t171 (wrap64 (1 + (Int.tmod (wrap64 ((Int.tmod a2 9) + 9)) 9))) t175 t179 ((t179.length : Int) != (wrap64 ((wrap64 (1 + (Int.tmod (wrap64 ((Int.tmod a2 9) + 9)) 9))) + 1))) a0_0 a0_1 l0_2) else (pelotonlaw04_MatmulParts.j1 kj3 l1 t171 (wrap64 (1 + (Int.tmod (wrap64 ((Int.tmod a2 9) + 9)) 9))) t175 t179 true a0_0 a0_1 l0_2)) = some r := H
   have A23 := Aside0.mk A230
   clear A230
   have HC24 := Aside0.mk H
   clear H
   have hcz25_0 : wc.cell? ⟨gb167, 0, none⟩ = some (.int .i64 a0_0) := (blk_cell BK167.out 0).trans rfl
   have hcz25_1 : wc.cell? ⟨gb167, 1, none⟩ = some (.int .i64 a0_1) := (blk_cell BK167.out 1).trans rfl
   have hcz25_2 : wc.cell? ⟨gb167, 2, none⟩ = some (.slice A0_2 l0_2.length c0_2) := (blk_cell BK167.out 2).trans rfl
   have hfz25_0 := blk_frozen BK167.out 0
   have hfz25_1 := blk_frozen BK167.out 1
   have hfz25_2 := blk_frozen BK167.out 2
   go_upto_region 9 with (first | ((with_reducible refine gate_callee (f := 14) rfl ?_); refine goesL_ (some 43) rfl rfl Try.func14 (by kernel_rfl) rfl #[.agg #[.int .i64 a0_0, .int .i64 a0_1, .slice A0_2 l0_2.length c0_2], .slice A1 l1.length c1] rfl (by (try simp only [l_4, l_5, l_6]); first | done | rfl | (simp only [l_7, l_8]; rfl)) ?_; (with_reducible refine (matmul_Apply.calls kj3 a0_0 a0_1 _ _ l0_2 _ _ l1 t171 t174 _ ?side1 ?side2 ?side3 ?side4 A20.out).mono ?_); (case side1 => repeat (first | exact (Kd.C_below HR0_2.out HB.out) | (with_reducible refine Kd.C_alloc ?_ _) | (with_reducible refine Kd.C_drewN ?_ _) | (with_reducible refine Kd.C_drew ?_))); (case side2 => exact HC0_2.out); (case side3 => repeat (first | exact (Kd.C_below HR1.out HB.out) | (with_reducible refine Kd.C_alloc ?_ _) | (with_reducible refine Kd.C_drewN ?_ _) | (with_reducible refine Kd.C_drew ?_))); (case side4 => exact HC1.out); rintro e w26 ⟨v172, rfl, ho0, hb⟩; refine ⟨_, rfl, ?_⟩; have n0_ := Aside0.mk (Kd.R_lower ho0 (below_size (by repeat (first | (with_reducible first | exact HB.out | apply b_a | apply b_n | apply b_d | refine b_s ?_ GE167.out) | exact HB.out)))); have n1_ := Aside0.mk (blk_below (g := gb167) (o := .cells #[.int .i64 a0_0, .int .i64 a0_1, .slice A0_2 l0_2.length c0_2] 30 (0, 0)) (by (with_reducible repeat (first | refine k_n ?_ _ | refine k_d ?_ | refine k_a ?_ _)); exact BK167.out) hb); have n2_ := Aside0.mk (below_step (by repeat (first | (with_reducible first | exact HB.out | apply b_a | apply b_n | apply b_d | refine b_s ?_ GE167.out) | exact HB.out)) hb); clear BK167; clear HB; have HO173 := n0_; have BK167 := n1_; have HB := n2_; clear n0_ n1_ n2_; (try clear hb); (try clear hb2); (try clear hk); (try clear hi); (try clear ho0); have hcz27_0 : w26.cell? ⟨gb167, 0, none⟩ = some (.int .i64 a0_0) := (blk_cell BK167.out 0).trans rfl; have hcz27_1 : w26.cell? ⟨gb167, 1, none⟩ = some (.int .i64 a0_1) := (blk_cell BK167.out 1).trans rfl; have hcz27_2 : w26.cell? ⟨gb167, 2, none⟩ = some (.slice A0_2 l0_2.length c0_2) := (blk_cell BK167.out 2).trans rfl; have hfz27_0 := blk_frozen BK167.out 0; have hfz27_1 := blk_frozen BK167.out 1; have hfz27_2 := blk_frozen BK167.out 2) | ((with_reducible refine gate_callee (f := 11) rfl ?_); refine goesL_ (some 57) rfl rfl Try.func11 (by kernel_rfl) rfl #[.int .i64 a0_0, .int .i64 (wrap64 (1 + (Int.tmod (wrap64 ((Int.tmod a2 9) + 9)) 9)))] rfl (by (try simp only [l_4, l_5, l_6]); first | done | rfl | (simp only [l_7, l_8]; rfl)) ?_; (with_reducible refine (matmul_Spans.calls kj3 a0_0 (wrap64 (1 + (Int.tmod (wrap64 ((Int.tmod a2 9) + 9)) 9))) t175 t176 _ A22.out).mono ?_); rintro e w28 ⟨v177, rfl, ho0, hb⟩; refine ⟨_, rfl, ?_⟩; have n0_ := Aside0.mk (Kd.R_below (by (with_reducible repeat (first | apply Kd.R_alloc | apply Kd.R_drewN | apply Kd.R_drew)); exact HO173.out) hb); have n1_ := Aside0.mk (Kd.R_lower ho0 (below_size (by repeat (first | (with_reducible first | exact HB.out | apply b_a | apply b_n | apply b_d | refine b_s ?_ GE167.out) | exact HB.out)))); have n2_ := Aside0.mk (blk_below (g := gb167) (o := .cells #[.int .i64 a0_0, .int .i64 a0_1, .slice A0_2 l0_2.length c0_2] 30 (0, 0)) (by (with_reducible repeat (first | refine k_n ?_ _ | refine k_d ?_ | refine k_a ?_ _)); exact BK167.out) hb); have n3_ := Aside0.mk (below_step (by repeat (first | (with_reducible first | exact HB.out | apply b_a | apply b_n | apply b_d | refine b_s ?_ GE167.out) | exact HB.out)) hb); clear HO173; clear BK167; clear HB; have HO173 := n0_; have HO178 := n1_; have BK167 := n2_; have HB := n3_; clear n0_ n1_ n2_ n3_; (try clear hb); (try clear hb2); (try clear hk); (try clear hi); (try clear ho0); have hcz29_0 : w28.cell? ⟨gb167, 0, none⟩ = some (.int .i64 a0_0) := (blk_cell BK167.out 0).trans rfl; have hcz29_1 : w28.cell? ⟨gb167, 1, none⟩ = some (.int .i64 a0_1) := (blk_cell BK167.out 1).trans rfl; have hcz29_2 : w28.cell? ⟨gb167, 2, none⟩ = some (.slice A0_2 l0_2.length c0_2) := (blk_cell BK167.out 2).trans rfl; have hfz29_0 := blk_frozen BK167.out 0; have hfz29_1 := blk_frozen BK167.out 1; have hfz29_2 := blk_frozen BK167.out 2) | ((with_reducible refine gate_callee (f := 11) rfl ?_); refine goesL_ (some 64) rfl rfl Try.func11 (by kernel_rfl) rfl #[.int .i64 a0_1, .int .i64 (wrap64 (1 + (Int.tmod (wrap64 ((Int.tmod a2 9) + 9)) 9)))] rfl (by (try simp only [l_4, l_5, l_6]); first | done | rfl | (simp only [l_7, l_8]; rfl)) ?_; (with_reducible refine (matmul_Spans.calls kj3 a0_1 (wrap64 (1 + (Int.tmod (wrap64 ((Int.tmod a2 9) + 9)) 9))) t179 t180 _ A23.out).mono ?_); rintro e w30 ⟨v181, rfl, ho0, hb⟩; refine ⟨_, rfl, ?_⟩; have n0_ := Aside0.mk (Kd.R_below (by (with_reducible repeat (first | apply Kd.R_alloc | apply Kd.R_drewN | apply Kd.R_drew)); exact HO173.out) hb); have n1_ := Aside0.mk (Kd.R_elder' (by (with_reducible repeat (first | apply Kd.R_alloc | apply Kd.R_drewN | apply Kd.R_drew)); exact HO178.out) (Kd.R_base ho0) hb); have n2_ := Aside0.mk (Kd.R_lower (Kd.R_new' ho0 (Kd.R_lt (by (with_reducible repeat (first | apply Kd.R_alloc | apply Kd.R_drewN | apply Kd.R_drew)); exact HO178.out))) (below_size (by repeat (first | (with_reducible first | exact HB.out | apply b_a | apply b_n | apply b_d | refine b_s ?_ GE167.out) | exact HB.out)))); have n3_ := Aside0.mk (blk_below (g := gb167) (o := .cells #[.int .i64 a0_0, .int .i64 a0_1, .slice A0_2 l0_2.length c0_2] 30 (0, 0)) (by (with_reducible repeat (first | refine k_n ?_ _ | refine k_d ?_ | refine k_a ?_ _)); exact BK167.out) hb); have n4_ := Aside0.mk (below_step (by repeat (first | (with_reducible first | exact HB.out | apply b_a | apply b_n | apply b_d | refine b_s ?_ GE167.out) | exact HB.out)) hb); clear HO173; clear HO178; clear BK167; clear HB; have HO173 := n0_; have HO178 := n1_; have HO182 := n2_; have BK167 := n3_; have HB := n4_; clear n0_ n1_ n2_ n3_ n4_; (try clear hb); (try clear hb2); (try clear hk); (try clear hi); (try clear ho0)))
   (try simp only [Act.put, l_1, l_2, l_3])
   go_cut [78] (fun v78 wc => ∃ (kq : Nat) (x78_23 : Bool), v78 = .bool x78_23 ∧ Aside0 (pelotonlaw04_MatmulParts.j1 kq l1 t171 (wrap64 (1 + (Int.tmod (wrap64 ((Int.tmod a2 9) + 9)) 9))) t175 t179 x78_23 a0_0 a0_1 l0_2 = some r) ∧ Aside0 (kq ≤ kj3) ∧ Aside0 (Kd.R (Kd.int .i32) 21 wc w.heap.size (fun _ => True) v172 t171) ∧ Aside0 (Kd.R (Kd.int .i64) 3 wc w.heap.size (fun k_ => some k_ ≠ (v181 : Value).ownBlock) v177 t175) ∧ Aside0 (Kd.R (Kd.int .i64) 3 wc w.heap.size (fun k_ => some k_ ≠ (v177 : Value).ownBlock) v181 t179) ∧ Aside0 (wc.heap[gb167]? = some (.cells #[.int .i64 a0_0, .int .i64 a0_1, (.slice A0_2 l0_2.length c0_2)] 30 (0, 0))) ∧ Aside0 (Below w.heap.size w wc))
   case first =>
    have H := HC24.out
    clear HC24
    by_cases c31 : (t175.length : Int) = (wrap64 ((wrap64 (1 + (Int.tmod (wrap64 ((Int.tmod a2 9) + 9)) 9))) + 1))
    rotate_left
    ·
     rw [if_neg c31] at H
     have c31b0 : ((t175.length : Int) == (wrap64 ((wrap64 (1 + (Int.tmod (wrap64 ((Int.tmod a2 9) + 9)) 9))) + 1))) = false := beq_eq_false_iff_ne.mpr c31
     have c31b1 : ((t175.length : Int) != (wrap64 ((wrap64 (1 + (Int.tmod (wrap64 ((Int.tmod a2 9) + 9)) 9))) + 1))) = true := bne_iff_ne.mpr c31
     (first | rw [c31b0] | (simp only [i64_w, i32_w]; rw [c31b0]) | skip)
     have H' := Aside0.mk H
     clear H
     obtain ⟨Ao34, co34, eo34⟩ := Kd.R_slice HO178.out
     subst eo34
     go_wp2
     go_meet
     case rel => exact ⟨_, (true), (by first | rfl | (simp; done) | (simp [*]; done)), H', ⟨by have := HJ3.out; first | omega | exact Nat.le_refl _⟩, ⟨by (with_reducible repeat (first | apply Kd.R_alloc | apply Kd.R_drewN | apply Kd.R_drew)); exact HO173.out⟩, ⟨by (with_reducible repeat (first | apply Kd.R_alloc | apply Kd.R_drewN | apply Kd.R_drew)); exact Kd.R_mono HO178.out (fun _ hk => hk.2)⟩, ⟨by (with_reducible repeat (first | apply Kd.R_alloc | apply Kd.R_drewN | apply Kd.R_drew)); exact Kd.R_mono HO182.out (fun _ hk => hk.2)⟩, ⟨by (with_reducible repeat (first | refine k_n ?_ _ | refine k_d ?_ | refine k_a ?_ _)); exact BK167.out⟩, ⟨by repeat (first | (with_reducible first | exact HB.out | apply b_a | apply b_n | apply b_d | refine b_s ?_ GE167.out) | exact HB.out)⟩⟩
    rw [if_pos c31] at H
    have c31b0 : ((t175.length : Int) == (wrap64 ((wrap64 (1 + (Int.tmod (wrap64 ((Int.tmod a2 9) + 9)) 9))) + 1))) = true := beq_iff_eq.mpr c31
    have c31b1 : ((t175.length : Int) != (wrap64 ((wrap64 (1 + (Int.tmod (wrap64 ((Int.tmod a2 9) + 9)) 9))) + 1))) = false := bne_eq_false_iff_eq.mpr c31
    clear c31
    (first | rw [c31b0] | (simp only [i64_w, i32_w]; rw [c31b0]) | skip)
    have H' := Aside0.mk H
    clear H
    obtain ⟨Ao32, co32, eo32⟩ := Kd.R_slice HO178.out
    subst eo32
    obtain ⟨Ao33, co33, eo33⟩ := Kd.R_slice HO182.out
    subst eo33
    go_wp2
    go_meet
    case rel => exact ⟨_, (((t179.length : Int) != (wrap64 ((wrap64 (1 + (Int.tmod (wrap64 ((Int.tmod a2 9) + 9)) 9))) + 1)))), (by first | rfl | (simp; done) | (simp [*]; done)), H', ⟨by have := HJ3.out; first | omega | exact Nat.le_refl _⟩, ⟨by (with_reducible repeat (first | apply Kd.R_alloc | apply Kd.R_drewN | apply Kd.R_drew)); exact HO173.out⟩, ⟨by (with_reducible repeat (first | apply Kd.R_alloc | apply Kd.R_drewN | apply Kd.R_drew)); exact Kd.R_mono HO178.out (fun _ hk => hk.2)⟩, ⟨by (with_reducible repeat (first | apply Kd.R_alloc | apply Kd.R_drewN | apply Kd.R_drew)); exact Kd.R_mono HO182.out (fun _ hk => hk.2)⟩, ⟨by (with_reducible repeat (first | refine k_n ?_ _ | refine k_d ?_ | refine k_a ?_ _)); exact BK167.out⟩, ⟨by repeat (first | (with_reducible first | exact HB.out | apply b_a | apply b_n | apply b_d | refine b_s ?_ GE167.out) | exact HB.out)⟩⟩
   case rest =>
    clear HC24
    try clear c1
    try clear c2
    try clear p2
    try clear c3
    try clear c6
    try clear p6
    try clear c7
    try clear c9
    try clear c10
    try clear c11
    try clear c14
    try clear c17
    try clear c21
    try clear c21b0
    try clear c21b1
    try clear c31
    try clear c31b0
    try clear c31b1
    try clear hcz11_0
    try clear hcz11_1
    try clear hcz11_2
    try clear hcz14_0
    try clear hcz14_1
    try clear hcz14_2
    try clear hcz25_0
    try clear hcz25_1
    try clear hcz25_2
    try clear hcz27_0
    try clear hcz27_1
    try clear hcz27_2
    try clear hcz29_0
    try clear hcz29_1
    try clear hcz29_2
    try clear hfz11_0
    try clear hfz11_1
    try clear hfz11_2
    try clear hfz14_0
    try clear hfz14_1
    try clear hfz14_2
    try clear hfz25_0
    try clear hfz25_1
    try clear hfz25_2
    try clear hfz27_0
    try clear hfz27_1
    try clear hfz27_2
    try clear hfz29_0
    try clear hfz29_1
    try clear hfz29_2
    try clear p2
    obtain ⟨kq, x78_23, rfl, HA, HJ23, HO_7, HO_10, HO_12, BK167, HB⟩ := hcut
    cases kq with
    | zero => exact absurd HA.out (by simp [pelotonlaw04_MatmulParts.j1])
    | succ kj23 =>
     have H := HA.out
     clear HA
     simp only [pelotonlaw04_MatmulParts.j1] at H
     by_cases c35 : x78_23 = true
     ·
      subst c35
      have H1 : (some false) = some r := by rw [if_pos rfl] at H; exact H
      clear H
      have H := H1
      clear H1
      obtain rfl := Option.some.inj H
      go_wp2
      go_ret
      exact ⟨by first | rfl | (simp [errW_none, errW_some] <;> rfl) | (simp [*, errW_none, errW_some] <;> rfl), by repeat (first | (with_reducible first | exact HB.out | apply b_a | apply b_n | apply b_d | refine b_s ?_ GE167.out) | exact HB.out)⟩
     replace c35 := Bool.eq_false_iff.mpr c35
     subst c35
     have H1 : (if 0 ≤ a0_0 then (if (a0_0 : Int).toNat ≤ 11728124029610 then (pelotonlaw04_MatmulParts.l0 kj23 l1 t171 (wrap64 (1 + (Int.tmod (wrap64 ((Int.tmod a2 9) + 9)) 9))) t175 t179 ([] : List Int) (List.replicate (a0_0 : Int).toNat []) 0 a0_0 a0_1 l0_2) else (none)) else (none)) = some r := by rw [if_neg (show ¬ (false = true) by decide)] at H; exact H
     clear H
     have H := H1
     clear H1
     by_cases c36 : 0 ≤ a0_0
     rotate_left
     ·
      rw [if_neg c36] at H
      exact absurd H (by simp)
     rw [if_pos c36] at H
     have c36b0 := eq_true c36
     have c36b1 : decide (0 ≤ a0_0) = true := decide_eq_true c36
     clear c36
     by_cases c37 : (a0_0 : Int).toNat ≤ 11728124029610
     rotate_left
     ·
      rw [if_neg c37] at H
      exact absurd H (by simp)
     rw [if_pos c37] at H
     have c37b0 := eq_true c37
     have c37b1 : decide ((a0_0 : Int).toNat ≤ 11728124029610) = true := decide_eq_true c37
     clear c37
     obtain ⟨y183, hy183⟩ : ∃ y_ : List (List Int), y_ = (List.replicate (a0_0 : Int).toNat []) := ⟨_, rfl⟩
     replace H : (pelotonlaw04_MatmulParts.l0 kj23 l1 t171 (wrap64 (1 + (Int.tmod (wrap64 ((Int.tmod a2 9) + 9)) 9))) t175 t179 ([] : List Int) y183 0 a0_0 a0_1 l0_2) = some r := by first | (rw [hy183]; with_reducible exact H) | (have H2_ := (Option.bind_some _ _).symm.trans H; rw [hy183]; with_reducible exact H2_) | (have H2_ := (Option.bind_some _ _).symm.trans H; with_reducible exact H2_) | with_reducible exact H | (rw [hy183]; exact H) | exact H
     have Ny183 := Aside0.mk hy183
     clear hy183
     have H' := Aside0.mk H
     clear H
     have hcz38_0 : wc.cell? ⟨gb167, 0, none⟩ = some (.int .i64 a0_0) := (blk_cell BK167.out 0).trans rfl
     have hcz38_1 : wc.cell? ⟨gb167, 1, none⟩ = some (.int .i64 a0_1) := (blk_cell BK167.out 1).trans rfl
     have hcz38_2 : wc.cell? ⟨gb167, 2, none⟩ = some (.slice A0_2 l0_2.length c0_2) := (blk_cell BK167.out 2).trans rfl
     have hfz38_0 := blk_frozen BK167.out 0
     have hfz38_1 := blk_frozen BK167.out 1
     have hfz38_2 := blk_frozen BK167.out 2
     go_wp2_with (first | ((with_reducible refine gate_dst (N := 81) rfl ?_); (try (refine gate_guard (by rfl) ?_; dsimp only)); refine Kd.S_make (Kd.slice 21 (Kd.int .i32)) _ 32 rfl (N := 81) rfl 38 _ _ rfl a0_0 rfl rfl Try.underlying38 (.slice none 0 0) 24 info32 rfl (by decide) (by omega) [] (ok := fun _ => True) (okp := fun _ => True) ⟨_, rfl, Kd.R_nil _ _ _ _ _⟩ (fun _ hk => hk) trivial (of_decide_eq_true (by first | (with_reducible assumption) | assumption)) (Nat.le_trans (Nat.mul_le_mul_right _ (of_decide_eq_true (by first | (with_reducible assumption) | assumption) : a0_0.toNat ≤ 11728124029610)) (by omega)) (Below.refl _ _) (Nat.le_refl _) ?_; intro v184 w39 ho40 hb hg_ hnew_; clear hg_ hnew_; (first | rw [← Ny183.out] at ho40 | (simp only [Int.reduceToNat] at ho40; rw [← Ny183.out] at ho40)); have n0_ := Aside0.mk (Kd.R_below (by (with_reducible repeat (first | apply Kd.R_alloc | apply Kd.R_drewN | apply Kd.R_drew)); exact HO_7.out) hb); have n1_ := Aside0.mk (Kd.R_below (by (with_reducible repeat (first | apply Kd.R_alloc | apply Kd.R_drewN | apply Kd.R_drew)); exact HO_10.out) hb); have n2_ := Aside0.mk (Kd.R_below (by (with_reducible repeat (first | apply Kd.R_alloc | apply Kd.R_drewN | apply Kd.R_drew)); exact HO_12.out) hb); have n3_ := Aside0.mk (Kd.S_lower (Kd.S_new' ho40 (Kd.R_lt (by (with_reducible repeat (first | apply Kd.R_alloc | apply Kd.R_drewN | apply Kd.R_drew)); exact HO_7.out))) (below_size (by repeat (first | (with_reducible first | exact HB.out | apply b_a | apply b_n | apply b_d | refine b_s ?_ GE167.out) | exact HB.out)))); have n4_ := Aside0.mk (blk_below (g := gb167) (o := .cells #[.int .i64 a0_0, .int .i64 a0_1, .slice A0_2 l0_2.length c0_2] 30 (0, 0)) (by (with_reducible repeat (first | refine k_n ?_ _ | refine k_d ?_ | refine k_a ?_ _)); exact BK167.out) hb); have n5_ := Aside0.mk (below_step (by repeat (first | (with_reducible first | exact HB.out | apply b_a | apply b_n | apply b_d | refine b_s ?_ GE167.out) | exact HB.out)) hb); clear HO_7; clear HO_10; clear HO_12; clear BK167; clear HB; have HO_7 := n0_; have HO_10 := n1_; have HO_12 := n2_; have HO185 := n3_; have BK167 := n4_; have HB := n5_; clear n0_ n1_ n2_ n3_ n4_ n5_; clear hb ho40))
     go_loopg [14, 16] kj23 (fun kq v14 v16 w' => ∃ (x14_3 : List Int) (x15_3 : List (List Int)) (x16_3 : Int), v16 = .int .i64 x16_3 ∧ Aside0 (pelotonlaw04_MatmulParts.l0 kq l1 t171 (wrap64 (1 + (Int.tmod (wrap64 ((Int.tmod a2 9) + 9)) 9))) t175 t179 x14_3 x15_3 x16_3 a0_0 a0_1 l0_2 = some r) ∧ Aside0 (kq ≤ kj23) ∧ Aside0 (Kd.R (Kd.int .i32) 21 w' w.heap.size (fun k_ => some k_ ≠ (v14 : Value).ownBlock) v172 t171) ∧ Aside0 (Kd.R (Kd.int .i64) 3 w' w.heap.size (fun k_ => some k_ ≠ (v181 : Value).ownBlock) v177 t175) ∧ Aside0 (Kd.R (Kd.int .i64) 3 w' w.heap.size (fun k_ => some k_ ≠ (v177 : Value).ownBlock) v181 t179) ∧ Aside0 (Kd.R (Kd.int .i32) 21 w' w.heap.size (fun k_ => some k_ ≠ (v172 : Value).ownBlock) v14 x14_3) ∧ Aside0 (Kd.S (Kd.slice 21 (Kd.int .i32)) 32 w' w.heap.size (fun k_ => some k_ ≠ (v172 : Value).ownBlock ∧ some k_ ≠ (v14 : Value).ownBlock) v184 x15_3) ∧ Aside0 (w'.heap[gb167]? = some (.cells #[.int .i64 a0_0, .int .i64 a0_1, (.slice A0_2 l0_2.length c0_2)] 30 (0, 0))) ∧ Aside0 (Below w.heap.size w w'))
     case atStart => exact ⟨(([] : List Int)), (y183), (0), (by first | rfl | (simp; done) | (simp [*]; done)), H', ⟨Nat.le_refl _⟩, ⟨by (with_reducible repeat (first | apply Kd.R_alloc | apply Kd.R_drewN | apply Kd.R_drew)); exact Kd.R_mono HO_7.out (fun _ hk => (by simp [Value.ownBlock]))⟩, ⟨by (with_reducible repeat (first | apply Kd.R_alloc | apply Kd.R_drewN | apply Kd.R_drew)); exact HO_10.out⟩, ⟨by (with_reducible repeat (first | apply Kd.R_alloc | apply Kd.R_drewN | apply Kd.R_drew)); exact HO_12.out⟩, ⟨by first | exact Kd.R_nil _ _ _ _ _ | exact Kd.N_nil _ _ _ _ _ | exact Kd.V_nil _ _ _ _ _ | exact Kd.Q_nil _ _ _ _ _ | exact Kd.S_nil _ _ _ _ _⟩, ⟨by (with_reducible repeat (first | apply Kd.S_alloc | apply Kd.S_drewN | apply Kd.S_drew)); exact Kd.S_mono HO185.out (fun _ hk => ⟨hk.2, (by simp [Value.ownBlock])⟩)⟩, ⟨by (with_reducible repeat (first | refine k_n ?_ _ | refine k_d ?_ | refine k_a ?_ _)); exact BK167.out⟩, ⟨by repeat (first | (with_reducible first | exact HB.out | apply b_a | apply b_n | apply b_d | refine b_s ?_ GE167.out) | exact HB.out)⟩⟩
     case round =>
      clear H'
      try clear c1
      try clear c2
      try clear p2
      try clear c3
      try clear c6
      try clear p6
      try clear c7
      try clear c9
      try clear c10
      try clear c11
      try clear c14
      try clear c17
      try clear c21
      try clear c21b0
      try clear c21b1
      try clear c31
      try clear c31b0
      try clear c31b1
      try clear c35
      try clear c36
      try clear c36b0
      try clear c36b1
      try clear c37
      try clear c37b0
      try clear c37b1
      try clear hcz11_0
      try clear hcz11_1
      try clear hcz11_2
      try clear hcz14_0
      try clear hcz14_1
      try clear hcz14_2
      try clear hcz25_0
      try clear hcz25_1
      try clear hcz25_2
      try clear hcz27_0
      try clear hcz27_1
      try clear hcz27_2
      try clear hcz29_0
      try clear hcz29_1
      try clear hcz29_2
      try clear hcz38_0
      try clear hcz38_1
      try clear hcz38_2
      try clear hfz11_0
      try clear hfz11_1
      try clear hfz11_2
      try clear hfz14_0
      try clear hfz14_1
      try clear hfz14_2
      try clear hfz25_0
      try clear hfz25_1
      try clear hfz25_2
      try clear hfz27_0
      try clear hfz27_1
      try clear hfz27_2
      try clear hfz29_0
      try clear hfz29_1
      try clear hfz29_2
      try clear hfz38_0
      try clear hfz38_1
      try clear hfz38_2
      try clear p2
      try clear p6
      obtain ⟨x14_3, x15_3, x16_3, rfl, HA, HK3, HO_7, HO_10, HO_12, HO_14, HO_15, BK167, HB⟩ := hrel
      cases gk with
      | zero => exact absurd HA.out (by simp [pelotonlaw04_MatmulParts.l0])
      | succ k3 =>
       have H := HA.out
       clear HA
       simp only [pelotonlaw04_MatmulParts.l0] at H
       by_cases c41 : x16_3 < (wrap64 (1 + (Int.tmod (wrap64 ((Int.tmod a2 9) + 9)) 9)))
       rotate_left
       ·
        rw [if_neg c41] at H
        have c41b0 : decide (x16_3 < (wrap64 (1 + (Int.tmod (wrap64 ((Int.tmod a2 9) + 9)) 9)))) = false := decide_eq_false c41
        clear c41
        have H' := Aside0.mk H
        clear H
        go_wp2
        go_loopg [26] k3 (fun kq v26 w' => ∃ (x26_4 : Int), v26 = .int .i64 x26_4 ∧ Aside0 (pelotonlaw04_MatmulParts.l2 kq t171 x14_3 x15_3 x26_4 a0_0 a0_1 l0_2 = some r) ∧ Aside0 (kq ≤ k3) ∧ Aside0 (Kd.R (Kd.int .i32) 21 w' w.heap.size (fun k_ => some k_ ≠ (u14 : Value).ownBlock) v172 t171) ∧ Aside0 (Kd.R (Kd.int .i32) 21 w' w.heap.size (fun k_ => some k_ ≠ (v172 : Value).ownBlock) u14 x14_3) ∧ Aside0 (Kd.S (Kd.slice 21 (Kd.int .i32)) 32 w' w.heap.size (fun k_ => some k_ ≠ (v172 : Value).ownBlock ∧ some k_ ≠ (u14 : Value).ownBlock) v184 x15_3) ∧ Aside0 (w'.heap[gb167]? = some (.cells #[.int .i64 a0_0, .int .i64 a0_1, (.slice A0_2 l0_2.length c0_2)] 30 (0, 0))) ∧ Aside0 (Below w.heap.size w w'))
        case atStart => exact ⟨(0), (by first | rfl | (simp; done) | (simp [*]; done)), H', ⟨Nat.le_refl _⟩, ⟨by (with_reducible repeat (first | apply Kd.R_alloc | apply Kd.R_drewN | apply Kd.R_drew)); exact HO_7.out⟩, ⟨by (with_reducible repeat (first | apply Kd.R_alloc | apply Kd.R_drewN | apply Kd.R_drew)); exact HO_14.out⟩, ⟨by (with_reducible repeat (first | apply Kd.S_alloc | apply Kd.S_drewN | apply Kd.S_drew)); exact HO_15.out⟩, ⟨by (with_reducible repeat (first | refine k_n ?_ _ | refine k_d ?_ | refine k_a ?_ _)); exact BK167.out⟩, ⟨by repeat (first | (with_reducible first | exact HB.out | apply b_a | apply b_n | apply b_d | refine b_s ?_ GE167.out) | exact HB.out)⟩⟩
        case round =>
         clear H'
         try clear c1
         try clear hx1
         try clear c2
         try clear p2
         try clear q2
         try clear hx2
         try clear c4
         try clear c5
         try clear p6
         try clear c8
         try clear c9
         try clear p9
         try clear q9
         try clear c10
         try clear hx10
         try clear hf10
         try clear c11
         try clear c14
         try clear p20
         try clear q20
         try clear hx20
         try clear c21
         try clear p21
         try clear q21
         try clear hx21
         try clear c41
         try clear c41b0
         try clear c42
         try clear c43
         try clear c45
         try clear c46
         try clear c49
         try clear c50
         try clear c52
         try clear c53
         try clear c54
         try clear p64
         try clear c82
         try clear c82b0
         try clear c82b1
         try clear c83
         try clear c83b0
         try clear c83b1
         try clear c84
         try clear c84b0
         try clear c84b1
         try clear c85
         try clear c85b0
         try clear c85b1
         try clear c87
         try clear c88
         try clear c90
         try clear c91
         try clear c94
         try clear c94b0
         try clear c95
         try clear c95b0
         try clear c96
         try clear c96b0
         try clear c97
         try clear c97b0
         try clear c98
         try clear p99
         try clear q99
         try clear c100
         try clear c101
         try clear c106
         try clear c108
         try clear hx108
         try clear hf108
         try clear c111
         try clear c112
         try clear hcz102_0
         try clear hcz102_1
         try clear hcz102_2
         try clear hcz113_0
         try clear hcz113_1
         try clear hcz113_2
         try clear hcz89_0
         try clear hcz89_1
         try clear hcz89_2
         try clear hfz102_0
         try clear hfz102_1
         try clear hfz102_2
         try clear hfz113_0
         try clear hfz113_1
         try clear hfz113_2
         try clear hfz89_0
         try clear hfz89_1
         try clear hfz89_2
         try clear hx108_0
         try clear hx208_0
         try clear hx209_0
         try clear hx218_0
         try clear hx219_0
         try clear p2
         try clear p20
         try clear p208
         try clear p209
         try clear p218
         try clear p219
         try clear p6
         try clear p64
         try clear p99
         try clear q2
         try clear q20
         try clear q208
         try clear q209
         try clear q218
         try clear q219
         try clear q99
         obtain ⟨x26_4, rfl, HA, HK4, HO_7, HO_14, HO_15, BK167, HB⟩ := hrel
         cases gk with
         | zero => exact absurd HA.out (by simp [pelotonlaw04_MatmulParts.l2])
         | succ k4 =>
          have H := HA.out
          clear HA
          simp only [pelotonlaw04_MatmulParts.l2] at H
          by_cases c114 : x26_4 < a0_0
          rotate_left
          ·
           rw [if_neg c114] at H
           have c114b0 : decide (x26_4 < a0_0) = false := decide_eq_false c114
           clear c114
           replace H := Option.bind_eq_some_iff.mp H
           obtain ⟨t227, A1280, H⟩ := H
           replace H : (some t227) = some r := H
           have A128 := Aside0.mk A1280
           clear A1280
           obtain rfl := Option.some.inj H
           have hcz129_0 : wr.cell? ⟨gb167, 0, none⟩ = some (.int .i64 a0_0) := (blk_cell BK167.out 0).trans rfl
           have hcz129_1 : wr.cell? ⟨gb167, 1, none⟩ = some (.int .i64 a0_1) := (blk_cell BK167.out 1).trans rfl
           have hcz129_2 : wr.cell? ⟨gb167, 2, none⟩ = some (.slice A0_2 l0_2.length c0_2) := (blk_cell BK167.out 2).trans rfl
           have hfz129_0 := blk_frozen BK167.out 0
           have hfz129_1 := blk_frozen BK167.out 1
           have hfz129_2 := blk_frozen BK167.out 2
           obtain ⟨Ao130, co130, eo130⟩ := Kd.R_slice HO_14.out
           subst eo130
           obtain ⟨Ao131, co131, eo131⟩ := Kd.R_slice HO_7.out
           subst eo131
           go_wp2_with (first | ((with_reducible refine gate_callee (f := 15) rfl ?_); refine goesL_ (some 198) rfl rfl Try.func15 (by kernel_rfl) rfl #[.slice Ao130 x14_3.length co130, .slice Ao131 t171.length co131] rfl (by (try simp only [l_4, l_5, l_6]); first | done | rfl | (simp only [l_7, l_8]; rfl)) ?_; (with_reducible refine (pelotonref04_Ints.calls k4 _ _ x14_3 _ _ t171 t227 _ ?side1 ?side2 ?side3 ?side4 A128.out).mono ?_); (case side1 => repeat (first | exact (Kd.R_reads' HO_14.out).2.2 | (with_reducible refine Kd.C_alloc ?_ _) | (with_reducible refine Kd.C_drewN ?_ _) | (with_reducible refine Kd.C_drew ?_))); (case side2 => exact (Kd.R_reads' HO_14.out).2.1); (case side3 => repeat (first | exact (Kd.R_reads' HO_7.out).2.2 | (with_reducible refine Kd.C_alloc ?_ _) | (with_reducible refine Kd.C_drewN ?_ _) | (with_reducible refine Kd.C_drew ?_))); (case side4 => exact (Kd.R_reads' HO_7.out).2.1); rintro e w' ⟨rfl, ⟨nd, rfl⟩⟩; refine ⟨_, rfl, ?_⟩))
           go_ret
           exact ⟨by first | rfl | (simp [errW_none, errW_some] <;> rfl) | (simp [*, errW_none, errW_some] <;> rfl), by repeat (first | (with_reducible first | exact HB.out | apply b_a | apply b_n | apply b_d | refine b_s ?_ GE167.out) | exact HB.out)⟩
          rw [if_pos c114] at H
          have c114b0 : decide (x26_4 < a0_0) = true := decide_eq_true c114
          clear c114
          by_cases c115 : 0 ≤ x26_4
          rotate_left
          ·
           rw [if_neg c115] at H
           exact absurd H (by simp)
          rw [if_pos c115] at H
          have c115b0 : decide (0 ≤ x26_4) = true := decide_eq_true c115
          clear c115
          by_cases c116 : x26_4 < (x15_3.length : Int)
          rotate_left
          ·
           rw [if_neg c116] at H
           exact absurd H (by simp)
          rw [if_pos c116] at H
          have c116b0 : decide (x26_4 < (x15_3.length : Int)) = true := decide_eq_true c116
          clear c116
          replace H := Option.bind_eq_some_iff.mp H
          obtain ⟨t225, A1170, H⟩ := H
          replace H : (if x26_4 < (t171.length : Int) then (if t225 = (rd t171 x26_4) then (pelotonlaw04_MatmulParts.l2 k4 t171 x14_3 x15_3 (wrap64 (x26_4 + 1)) a0_0 a0_1 l0_2) else (some false)) else (none)) = some r := H
          have A117 := Aside0.mk A1170
          clear A1170
          by_cases c118 : x26_4 < (t171.length : Int)
          rotate_left
          ·
           rw [if_neg c118] at H
           exact absurd H (by simp)
          rw [if_pos c118] at H
          have c118b0 : decide (x26_4 < (t171.length : Int)) = true := decide_eq_true c118
          clear c118
          by_cases c119 : t225 = (rd t171 x26_4)
          rotate_left
          ·
           rw [if_neg c119] at H
           have c119b0 : (t225 == (rd t171 x26_4)) = false := beq_eq_false_iff_ne.mpr c119
           have c119b1 : (t225 != (rd t171 x26_4)) = true := bne_iff_ne.mpr c119
           obtain rfl := Option.some.inj H
           have hcz124_0 : wr.cell? ⟨gb167, 0, none⟩ = some (.int .i64 a0_0) := (blk_cell BK167.out 0).trans rfl
           have hcz124_1 : wr.cell? ⟨gb167, 1, none⟩ = some (.int .i64 a0_1) := (blk_cell BK167.out 1).trans rfl
           have hcz124_2 : wr.cell? ⟨gb167, 2, none⟩ = some (.slice A0_2 l0_2.length c0_2) := (blk_cell BK167.out 2).trans rfl
           have hfz124_0 := blk_frozen BK167.out 0
           have hfz124_1 := blk_frozen BK167.out 1
           have hfz124_2 := blk_frozen BK167.out 2
           try go_wp2
           have n0_ := Aside0.mk (Kd.R_drew HO_7.out)
           have n1_ := Aside0.mk (Kd.R_drew HO_14.out)
           have n2_ := Aside0.mk (Kd.S_drew HO_15.out)
           have n3_ := Aside0.mk (k_d BK167.out)
           have n4_ := Aside0.mk (b_d HB.out)
           clear HO_7
           clear HO_14
           clear HO_15
           clear BK167
           clear HB
           have HO_7 := n0_
           have HO_14 := n1_
           have HO_15 := n2_
           have BK167 := n3_
           have HB := n4_
           clear n0_ n1_ n2_ n3_ n4_
           obtain ⟨Ao126, co126, eo126⟩ := Kd.S_slice HO_15.out
           (first | subst eo126 | (injection eo126 with f1_ f2_ f3_; have f4_ := f1_.symm; have f5_ := f3_.symm; clear f1_ f2_ f3_; subst f4_; subst f5_))
           have p224 : 0 ≤ (x26_4 : Int) := of_decide_eq_true (by first | (with_reducible assumption) | assumption)
           have q224 : x26_4 < (x15_3.length : Int) := of_decide_eq_true (by first | (with_reducible assumption) | assumption)
           obtain ⟨ad224, A224_0, c224_0, e224, hx224_0, hl224_0, hi224_0⟩ := at_L3 (Kd.S_reads' HO_15.out).2.2 x26_4 p224 q224
           cases e224
           obtain ⟨ce224, hce224, hMe224, hcc224⟩ := Kd.S_get HO_15.out [] x26_4 p224 (by first | exact q224 | exact of_decide_eq_true (by first | (with_reducible assumption) | assumption) | (have e_ := (Kd.S_reads' HO_15.out).1; omega))
           obtain ⟨ve224_0, rfl, ge224_0⟩ := hMe224
           have hv224_0 := hcc224 0 _ rfl
           rw [Nat.add_zero, show ((Kd.slice 21 (Kd.int .i32))).sz = 1 from rfl, Nat.mul_one] at hv224_0
           replace hv224_0 := Option.some.inj (hv224_0.symm.trans hx224_0)
           rw [hv224_0] at ge224_0
           have HL224_0 := Aside0.mk (show Kd.R (Kd.int .i32) 21 _ _ _ _ (rd_L3 x15_3 x26_4) from ge224_0)
           clear hv224_0 ge224_0
           have HX224_0 := Aside0.mk hx224_0
           clear hcc224 hce224
           have HR224_0 := Aside0.mk hi224_0
           have HC224_0 := Aside0.mk hl224_0
           clear hi224_0 hl224_0
           replace p224 := eq_true p224
           replace q224 := eq_true q224
           obtain ⟨Ao127, co127, eo127⟩ := Kd.R_slice HO_7.out
           (first | subst eo127 | (injection eo127 with f1_ f2_ f3_; have f4_ := f1_.symm; have f5_ := f3_.symm; clear f1_ f2_ f3_; subst f4_; subst f5_))
           have p226 : 0 ≤ (x26_4 : Int) := of_decide_eq_true (by first | (with_reducible assumption) | assumption)
           have q226 : x26_4 < (t171.length : Int) := of_decide_eq_true (by first | (with_reducible assumption) | assumption)
           obtain ⟨ad226, e226, hx226_0⟩ := Kd.at_int (Kd.R_reads' HO_7.out).2.2 x26_4 p226 q226
           cases e226
           replace p226 := eq_true p226
           replace q226 := eq_true q226
           refine start_ (n := 10) (S := fun w' => w'.cell? (ad224.add (x26_4).toNat) = some (.slice A224_0 (rd_L3 x15_3 x26_4).length c224_0) ∧ w'.cell? (ad226.add (x26_4).toNat) = some (.int .i32 (rd t171 x26_4))) (ds := []) #[false, false, false, false, false, false, false, false, false, false] (by kernel_rfl) rfl rfl ⟨hx224_0, hx226_0⟩ (fun hHeld => ?_); refine with_tabW pelotonlaw04_MatmulParts.tab30 pelotonlaw04_MatmulParts.bits30 (fun HT_ HW_ => ?_)
           generalize wr.drew = w125 at HO_7 HO_14 HO_15 BK167 HB HL224_0 HR224_0 HX224_0 hx224_0 hx226_0 hHeld ⊢
           refine pure_ (i := 0) (N := some 186) (v := ?_) (a' := ?_) #[true, false, false, false, false, false, false, false, false, false] rfl rfl (any_of HT_.out (by kernel_rfl)) (fun _ _ _ h => h) (Or.inl ⟨by rfl, ?_⟩) ?_ ?_
           rotate_left
           ·
            intro w'
            go_simp
            with_reducible rfl
           rotate_left
           ·
            simp only [Act.put, l_1, l_2, l_3, i64_w, i32_w]
            rfl
           refine pure_ (i := 1) (N := some 187) (v := ?_) (a' := ?_) #[true, true, false, false, false, false, false, false, false, false] rfl rfl (any_of HT_.out (by kernel_rfl)) (fun _ _ _ h => h) (Or.inl ⟨by rfl, ?_⟩) ?_ ?_
           rotate_left
           ·
            intro w'
            go_simp
            with_reducible rfl
           rotate_left
           ·
            simp only [Act.put, l_1, l_2, l_3, i64_w, i32_w]
            rfl
           refine pure_ (i := 2) (N := some 188) (v := ?_) (a' := ?_) #[true, true, true, false, false, false, false, false, false, false] rfl rfl (any_of HT_.out (by kernel_rfl)) (fun _ _ _ h => h) (Or.inl ⟨by rfl, ?_⟩) ?_ ?_
           rotate_left
           ·
            intro w'
            go_simp
            with_reducible rfl
           rotate_left
           ·
            simp only [Act.put, l_1, l_2, l_3, i64_w, i32_w]
            rfl
           refine pure_ (i := 5) (N := some 191) (v := ?_) (a' := ?_) #[true, true, true, false, false, true, false, false, false, false] rfl rfl (any_of HT_.out (by kernel_rfl)) (fun _ _ _ h => h) (Or.inl ⟨by rfl, ?_⟩) ?_ ?_
           rotate_left
           ·
            intro w'
            go_simp
            with_reducible rfl
           rotate_left
           ·
            simp only [Act.put, l_1, l_2, l_3, i64_w, i32_w]
            rfl
           refine pure_ (i := 6) (N := some 192) (v := ?_) (a' := ?_) #[true, true, true, false, false, true, true, false, false, false] rfl rfl (any_of HT_.out (by kernel_rfl)) (fun _ _ _ h => h) (Or.inl ⟨by rfl, ?_⟩) ?_ ?_
           rotate_left
           ·
            intro w'
            go_simp
            with_reducible rfl
           rotate_left
           ·
            simp only [Act.put, l_1, l_2, l_3, i64_w, i32_w]
            rfl
           refine pure_ (i := 7) (N := some 193) (v := ?_) (a' := ?_) #[true, true, true, false, false, true, true, true, false, false] rfl rfl (any_of HT_.out (by kernel_rfl)) (fun _ _ _ h => h) (Or.inl ⟨by rfl, ?_⟩) ?_ ?_
           rotate_left
           ·
            intro w'
            go_simp
            with_reducible rfl
           rotate_left
           ·
            simp only [Act.put, l_1, l_2, l_3, i64_w, i32_w]
            rfl
           refine take_ (i := 3) (N := some 189) (v := ?_) (a' := ?_) #[true, true, true, true, false, true, true, true, false, false] rfl rfl (take_ofW HT_.out HW_.out (by kernel_rfl)) (fun _ _ _ h => h) (Or.inl ⟨by rfl, ?_⟩) hHeld ?_ ?_
           rotate_left
           ·
            rintro w' ⟨s0, s1⟩
            go_simp
            with_reducible rfl
           rotate_left
           ·
            simp only [Act.put, l_1, l_2, l_3, i64_w, i32_w]
            rfl
           refine take_ (i := 8) (N := some 194) (v := ?_) (a' := ?_) #[true, true, true, true, false, true, true, true, true, false] rfl rfl (take_ofW HT_.out HW_.out (by kernel_rfl)) (fun _ _ _ h => h) (Or.inl ⟨by rfl, ?_⟩) hHeld ?_ ?_
           rotate_left
           ·
            rintro w' ⟨s0, s1⟩
            go_simp
            with_reducible rfl
           rotate_left
           ·
            simp only [Act.put, l_1, l_2, l_3, i64_w, i32_w]
            rfl
           refine one_ (i := 4) (N := some 190) #[true, true, true, true, true, true, true, true, true, false] rfl rfl (one_of HT_.out (by kernel_rfl)) (by decide) (fun K hK => ?_)
           refine goes_ Try.func22 (by kernel_rfl) rfl #[.slice A224_0 (rd_L3 x15_3 x26_4).length c224_0] (by rfl) rfl rfl (by (try simp only [l_4, l_5, l_6]); first | done | rfl | (simp only [l_7, l_8]; rfl)) ?_
           with_reducible refine (round_Sum.calls k4 _ _ (rd_L3 x15_3 x26_4) t225 _ ?side1 ?side2 A117.out).mono ?_
           (case side1 => repeat (first | exact (by repeat (first | (with_reducible exact HR224_0.out) | (with_reducible refine Kd.C_alloc ?_ _) | (with_reducible refine Kd.C_drewN ?_ _) | (with_reducible refine Kd.C_drew ?_) | exact HR224_0.out)) | (with_reducible refine Kd.C_alloc ?_ _) | (with_reducible refine Kd.C_drewN ?_ _) | (with_reducible refine Kd.C_drew ?_)))
           (case side2 => exact HC224_0.out)
           rintro e w' ⟨rfl, ⟨nd, rfl⟩⟩
           refine ⟨_, rfl, ?_⟩
           refine hK.out _ _ ⟨hHeld.1, hHeld.2⟩ (fun hHeld => ?_)
           clear hK K
           refine norm_ (a' := ?_) ?_ ?_
           rotate_left
           ·
            show Act.put _ (some 190) _ = _
            simp only [Act.put, l_1, l_2, l_3, i64_w, i32_w]
            rfl
           refine pure_ (i := 9) (N := some 195) (v := ?_) (a' := ?_) #[true, true, true, true, true, true, true, true, true, true] rfl rfl (any_of HT_.out (by kernel_rfl)) (fun _ _ _ h => h) (Or.inl ⟨by rfl, ?_⟩) ?_ ?_
           rotate_left
           ·
            intro w'
            go_simp
            with_reducible rfl
           rotate_left
           ·
            simp only [Act.put, l_1, l_2, l_3, i64_w, i32_w]
            rfl
           refine done_ (done_of HT_.out (by kernel_rfl)) ?_
           try go_wp2
           go_ret
           exact ⟨by first | rfl | (simp [errW_none, errW_some] <;> rfl) | (simp [*, errW_none, errW_some] <;> rfl), by repeat (first | (with_reducible first | exact HB.out | apply b_a | apply b_n | apply b_d | refine b_s ?_ GE167.out) | exact HB.out)⟩
          rw [if_pos c119] at H
          have c119b0 : (t225 == (rd t171 x26_4)) = true := beq_iff_eq.mpr c119
          have c119b1 : (t225 != (rd t171 x26_4)) = false := bne_eq_false_iff_eq.mpr c119
          clear c119
          have H' := Aside0.mk H
          clear H
          have hcz120_0 : wr.cell? ⟨gb167, 0, none⟩ = some (.int .i64 a0_0) := (blk_cell BK167.out 0).trans rfl
          have hcz120_1 : wr.cell? ⟨gb167, 1, none⟩ = some (.int .i64 a0_1) := (blk_cell BK167.out 1).trans rfl
          have hcz120_2 : wr.cell? ⟨gb167, 2, none⟩ = some (.slice A0_2 l0_2.length c0_2) := (blk_cell BK167.out 2).trans rfl
          have hfz120_0 := blk_frozen BK167.out 0
          have hfz120_1 := blk_frozen BK167.out 1
          have hfz120_2 := blk_frozen BK167.out 2
          try go_wp2
          have n0_ := Aside0.mk (Kd.R_drew HO_7.out)
          have n1_ := Aside0.mk (Kd.R_drew HO_14.out)
          have n2_ := Aside0.mk (Kd.S_drew HO_15.out)
          have n3_ := Aside0.mk (k_d BK167.out)
          have n4_ := Aside0.mk (b_d HB.out)
          clear HO_7
          clear HO_14
          clear HO_15
          clear BK167
          clear HB
          have HO_7 := n0_
          have HO_14 := n1_
          have HO_15 := n2_
          have BK167 := n3_
          have HB := n4_
          clear n0_ n1_ n2_ n3_ n4_
          obtain ⟨Ao122, co122, eo122⟩ := Kd.S_slice HO_15.out
          (first | subst eo122 | (injection eo122 with f1_ f2_ f3_; have f4_ := f1_.symm; have f5_ := f3_.symm; clear f1_ f2_ f3_; subst f4_; subst f5_))
          have p224 : 0 ≤ (x26_4 : Int) := of_decide_eq_true (by first | (with_reducible assumption) | assumption)
          have q224 : x26_4 < (x15_3.length : Int) := of_decide_eq_true (by first | (with_reducible assumption) | assumption)
          obtain ⟨ad224, A224_0, c224_0, e224, hx224_0, hl224_0, hi224_0⟩ := at_L3 (Kd.S_reads' HO_15.out).2.2 x26_4 p224 q224
          cases e224
          obtain ⟨ce224, hce224, hMe224, hcc224⟩ := Kd.S_get HO_15.out [] x26_4 p224 (by first | exact q224 | exact of_decide_eq_true (by first | (with_reducible assumption) | assumption) | (have e_ := (Kd.S_reads' HO_15.out).1; omega))
          obtain ⟨ve224_0, rfl, ge224_0⟩ := hMe224
          have hv224_0 := hcc224 0 _ rfl
          rw [Nat.add_zero, show ((Kd.slice 21 (Kd.int .i32))).sz = 1 from rfl, Nat.mul_one] at hv224_0
          replace hv224_0 := Option.some.inj (hv224_0.symm.trans hx224_0)
          rw [hv224_0] at ge224_0
          have HL224_0 := Aside0.mk (show Kd.R (Kd.int .i32) 21 _ _ _ _ (rd_L3 x15_3 x26_4) from ge224_0)
          clear hv224_0 ge224_0
          have HX224_0 := Aside0.mk hx224_0
          clear hcc224 hce224
          have HR224_0 := Aside0.mk hi224_0
          have HC224_0 := Aside0.mk hl224_0
          clear hi224_0 hl224_0
          replace p224 := eq_true p224
          replace q224 := eq_true q224
          obtain ⟨Ao123, co123, eo123⟩ := Kd.R_slice HO_7.out
          (first | subst eo123 | (injection eo123 with f1_ f2_ f3_; have f4_ := f1_.symm; have f5_ := f3_.symm; clear f1_ f2_ f3_; subst f4_; subst f5_))
          have p226 : 0 ≤ (x26_4 : Int) := of_decide_eq_true (by first | (with_reducible assumption) | assumption)
          have q226 : x26_4 < (t171.length : Int) := of_decide_eq_true (by first | (with_reducible assumption) | assumption)
          obtain ⟨ad226, e226, hx226_0⟩ := Kd.at_int (Kd.R_reads' HO_7.out).2.2 x26_4 p226 q226
          cases e226
          replace p226 := eq_true p226
          replace q226 := eq_true q226
          refine start_ (n := 10) (S := fun w' => w'.cell? (ad224.add (x26_4).toNat) = some (.slice A224_0 (rd_L3 x15_3 x26_4).length c224_0) ∧ w'.cell? (ad226.add (x26_4).toNat) = some (.int .i32 (rd t171 x26_4))) (ds := []) #[false, false, false, false, false, false, false, false, false, false] (by kernel_rfl) rfl rfl ⟨hx224_0, hx226_0⟩ (fun hHeld => ?_); refine with_tabW pelotonlaw04_MatmulParts.tab30 pelotonlaw04_MatmulParts.bits30 (fun HT_ HW_ => ?_)
          generalize wr.drew = w121 at HO_7 HO_14 HO_15 BK167 HB HL224_0 HR224_0 HX224_0 hx224_0 hx226_0 hHeld ⊢
          refine pure_ (i := 0) (N := some 186) (v := ?_) (a' := ?_) #[true, false, false, false, false, false, false, false, false, false] rfl rfl (any_of HT_.out (by kernel_rfl)) (fun _ _ _ h => h) (Or.inl ⟨by rfl, ?_⟩) ?_ ?_
          rotate_left
          ·
           intro w'
           go_simp
           with_reducible rfl
          rotate_left
          ·
           simp only [Act.put, l_1, l_2, l_3, i64_w, i32_w]
           rfl
          refine pure_ (i := 1) (N := some 187) (v := ?_) (a' := ?_) #[true, true, false, false, false, false, false, false, false, false] rfl rfl (any_of HT_.out (by kernel_rfl)) (fun _ _ _ h => h) (Or.inl ⟨by rfl, ?_⟩) ?_ ?_
          rotate_left
          ·
           intro w'
           go_simp
           with_reducible rfl
          rotate_left
          ·
           simp only [Act.put, l_1, l_2, l_3, i64_w, i32_w]
           rfl
          refine pure_ (i := 2) (N := some 188) (v := ?_) (a' := ?_) #[true, true, true, false, false, false, false, false, false, false] rfl rfl (any_of HT_.out (by kernel_rfl)) (fun _ _ _ h => h) (Or.inl ⟨by rfl, ?_⟩) ?_ ?_
          rotate_left
          ·
           intro w'
           go_simp
           with_reducible rfl
          rotate_left
          ·
           simp only [Act.put, l_1, l_2, l_3, i64_w, i32_w]
           rfl
          refine pure_ (i := 5) (N := some 191) (v := ?_) (a' := ?_) #[true, true, true, false, false, true, false, false, false, false] rfl rfl (any_of HT_.out (by kernel_rfl)) (fun _ _ _ h => h) (Or.inl ⟨by rfl, ?_⟩) ?_ ?_
          rotate_left
          ·
           intro w'
           go_simp
           with_reducible rfl
          rotate_left
          ·
           simp only [Act.put, l_1, l_2, l_3, i64_w, i32_w]
           rfl
          refine pure_ (i := 6) (N := some 192) (v := ?_) (a' := ?_) #[true, true, true, false, false, true, true, false, false, false] rfl rfl (any_of HT_.out (by kernel_rfl)) (fun _ _ _ h => h) (Or.inl ⟨by rfl, ?_⟩) ?_ ?_
          rotate_left
          ·
           intro w'
           go_simp
           with_reducible rfl
          rotate_left
          ·
           simp only [Act.put, l_1, l_2, l_3, i64_w, i32_w]
           rfl
          refine pure_ (i := 7) (N := some 193) (v := ?_) (a' := ?_) #[true, true, true, false, false, true, true, true, false, false] rfl rfl (any_of HT_.out (by kernel_rfl)) (fun _ _ _ h => h) (Or.inl ⟨by rfl, ?_⟩) ?_ ?_
          rotate_left
          ·
           intro w'
           go_simp
           with_reducible rfl
          rotate_left
          ·
           simp only [Act.put, l_1, l_2, l_3, i64_w, i32_w]
           rfl
          refine take_ (i := 3) (N := some 189) (v := ?_) (a' := ?_) #[true, true, true, true, false, true, true, true, false, false] rfl rfl (take_ofW HT_.out HW_.out (by kernel_rfl)) (fun _ _ _ h => h) (Or.inl ⟨by rfl, ?_⟩) hHeld ?_ ?_
          rotate_left
          ·
           rintro w' ⟨s0, s1⟩
           go_simp
           with_reducible rfl
          rotate_left
          ·
           simp only [Act.put, l_1, l_2, l_3, i64_w, i32_w]
           rfl
          refine take_ (i := 8) (N := some 194) (v := ?_) (a' := ?_) #[true, true, true, true, false, true, true, true, true, false] rfl rfl (take_ofW HT_.out HW_.out (by kernel_rfl)) (fun _ _ _ h => h) (Or.inl ⟨by rfl, ?_⟩) hHeld ?_ ?_
          rotate_left
          ·
           rintro w' ⟨s0, s1⟩
           go_simp
           with_reducible rfl
          rotate_left
          ·
           simp only [Act.put, l_1, l_2, l_3, i64_w, i32_w]
           rfl
          refine one_ (i := 4) (N := some 190) #[true, true, true, true, true, true, true, true, true, false] rfl rfl (one_of HT_.out (by kernel_rfl)) (by decide) (fun K hK => ?_)
          refine goes_ Try.func22 (by kernel_rfl) rfl #[.slice A224_0 (rd_L3 x15_3 x26_4).length c224_0] (by rfl) rfl rfl (by (try simp only [l_4, l_5, l_6]); first | done | rfl | (simp only [l_7, l_8]; rfl)) ?_
          with_reducible refine (round_Sum.calls k4 _ _ (rd_L3 x15_3 x26_4) t225 _ ?side1 ?side2 A117.out).mono ?_
          (case side1 => repeat (first | exact (by repeat (first | (with_reducible exact HR224_0.out) | (with_reducible refine Kd.C_alloc ?_ _) | (with_reducible refine Kd.C_drewN ?_ _) | (with_reducible refine Kd.C_drew ?_) | exact HR224_0.out)) | (with_reducible refine Kd.C_alloc ?_ _) | (with_reducible refine Kd.C_drewN ?_ _) | (with_reducible refine Kd.C_drew ?_)))
          (case side2 => exact HC224_0.out)
          rintro e w' ⟨rfl, ⟨nd, rfl⟩⟩
          refine ⟨_, rfl, ?_⟩
          refine hK.out _ _ ⟨hHeld.1, hHeld.2⟩ (fun hHeld => ?_)
          clear hK K
          refine norm_ (a' := ?_) ?_ ?_
          rotate_left
          ·
           show Act.put _ (some 190) _ = _
           simp only [Act.put, l_1, l_2, l_3, i64_w, i32_w]
           rfl
          refine pure_ (i := 9) (N := some 195) (v := ?_) (a' := ?_) #[true, true, true, true, true, true, true, true, true, true] rfl rfl (any_of HT_.out (by kernel_rfl)) (fun _ _ _ h => h) (Or.inl ⟨by rfl, ?_⟩) ?_ ?_
          rotate_left
          ·
           intro w'
           go_simp
           with_reducible rfl
          rotate_left
          ·
           simp only [Act.put, l_1, l_2, l_3, i64_w, i32_w]
           rfl
          refine done_ (done_of HT_.out (by kernel_rfl)) ?_
          try go_wp2
          go_roundg k4
          case measure => have := HJ3.out; have := HJ23.out; have := HK3.out; have := HK4.out; omega
          case rel => exact ⟨(wrap64 (x26_4 + 1)), (by first | rfl | (simp; done) | (simp [*]; done)), H', ⟨by have := HJ3.out; have := HJ23.out; have := HK3.out; have := HK4.out; omega⟩, ⟨by (with_reducible repeat (first | apply Kd.R_alloc | apply Kd.R_drewN | apply Kd.R_drew)); exact HO_7.out⟩, ⟨by (with_reducible repeat (first | apply Kd.R_alloc | apply Kd.R_drewN | apply Kd.R_drew)); exact HO_14.out⟩, ⟨by (with_reducible repeat (first | apply Kd.S_alloc | apply Kd.S_drewN | apply Kd.S_drew)); exact HO_15.out⟩, ⟨by (with_reducible repeat (first | refine k_n ?_ _ | refine k_d ?_ | refine k_a ?_ _)); exact BK167.out⟩, ⟨by repeat (first | (with_reducible first | exact HB.out | apply b_a | apply b_n | apply b_d | refine b_s ?_ GE167.out) | exact HB.out)⟩⟩
       rw [if_pos c41] at H
       have c41b0 : decide (x16_3 < (wrap64 (1 + (Int.tmod (wrap64 ((Int.tmod a2 9) + 9)) 9)))) = true := decide_eq_true c41
       clear c41
       by_cases c42 : 0 ≤ x16_3
       rotate_left
       ·
        rw [if_neg c42] at H
        exact absurd H (by simp)
       rw [if_pos c42] at H
       have c42b0 : decide (0 ≤ x16_3) = true := decide_eq_true c42
       clear c42
       by_cases c43 : x16_3 < (t175.length : Int)
       rotate_left
       ·
        rw [if_neg c43] at H
        exact absurd H (by simp)
       rw [if_pos c43] at H
       have c43b0 : decide (x16_3 < (t175.length : Int)) = true := decide_eq_true c43
       clear c43
       obtain ⟨ji44, hji44⟩ : ∃ j_ : Int, (wrap64 (x16_3 + 1)) = j_ := ⟨_, rfl⟩
       replace H : (if 0 ≤ (ji44) then (if (ji44) < (t175.length : Int) then ((matmul_Rows.f a0_0 a0_1 l0_2 (rd t175 x16_3) (rd t175 (ji44))).bind fun bt188 => ((matmul_Apply.f k3 bt188.1 bt188.2.1 bt188.2.2.1 l1).bind fun bt195 => (if x16_3 < (t179.length : Int) then (if (ji44) < (t179.length : Int) then ((matmul_Cols.f k3 a0_0 a0_1 l0_2 (rd t179 x16_3) (rd t179 (ji44))).bind fun bt201 => (if 0 ≤ (rd t179 x16_3) then (if (rd t179 x16_3) ≤ (rd t179 (ji44)) then (if (rd t179 (ji44)) ≤ (l1.length : Int) then ((matmul_Apply.f k3 bt201.1 bt201.2.1 bt201.2.2.1 ((l1.take ((rd t179 (ji44)) : Int).toNat).drop ((rd t179 x16_3) : Int).toNat)).bind fun bt211 => (if bt188.2.2.2 = 0 then (if bt195.2 = 0 then (if bt201.2.2.2 = 0 then (if bt211.2 = 0 then (pelotonlaw04_MatmulParts.j3 k3 l1 t171 (wrap64 (1 + (Int.tmod (wrap64 ((Int.tmod a2 9) + 9)) 9))) t175 t179 x14_3 x15_3 x16_3 bt195.1 bt211.1 ((bt211.1.length : Int) != a0_0) a0_0 a0_1 l0_2) else (pelotonlaw04_MatmulParts.j3 k3 l1 t171 (wrap64 (1 + (Int.tmod (wrap64 ((Int.tmod a2 9) + 9)) 9))) t175 t179 x14_3 x15_3 x16_3 bt195.1 bt211.1 true a0_0 a0_1 l0_2)) else (pelotonlaw04_MatmulParts.j3 k3 l1 t171 (wrap64 (1 + (Int.tmod (wrap64 ((Int.tmod a2 9) + 9)) 9))) t175 t179 x14_3 x15_3 x16_3 bt195.1 bt211.1 true a0_0 a0_1 l0_2)) else (pelotonlaw04_MatmulParts.j3 k3 l1 t171 (wrap64 (1 + (Int.tmod (wrap64 ((Int.tmod a2 9) + 9)) 9))) t175 t179 x14_3 x15_3 x16_3 bt195.1 bt211.1 true a0_0 a0_1 l0_2)) else (pelotonlaw04_MatmulParts.j3 k3 l1 t171 (wrap64 (1 + (Int.tmod (wrap64 ((Int.tmod a2 9) + 9)) 9))) t175 t179 x14_3 x15_3 x16_3 bt195.1 bt211.1 true a0_0 a0_1 l0_2))) else (none)) else (none)) else (none))) else (none)) else (none)))) else (none)) else (none)) = some r := by first | (rw [hji44] at H; exact H) | (simp only [hji44] at H ⊢; exact H)
       have hji44w : (IntKind.i64.wrap (x16_3 + 1)) = ji44 := (i64_w _).trans hji44
       by_cases c45 : 0 ≤ (ji44)
       rotate_left
       ·
        rw [if_neg c45] at H
        exact absurd H (by simp)
       rw [if_pos c45] at H
       have c45b0 : decide (0 ≤ (ji44)) = true := decide_eq_true c45
       clear c45
       by_cases c46 : (ji44) < (t175.length : Int)
       rotate_left
       ·
        rw [if_neg c46] at H
        exact absurd H (by simp)
       rw [if_pos c46] at H
       have c46b0 : decide ((ji44) < (t175.length : Int)) = true := decide_eq_true c46
       clear c46
       replace H := Option.bind_eq_some_iff.mp H
       obtain ⟨⟨t188, t189, t190, t193⟩, A470, H⟩ := H
       replace H : ((matmul_Apply.f k3 t188 t189 t190 l1).bind fun bt195 => (if x16_3 < (t179.length : Int) then (if (ji44) < (t179.length : Int) then ((matmul_Cols.f k3 a0_0 a0_1 l0_2 (rd t179 x16_3) (rd t179 (ji44))).bind fun bt201 => (if 0 ≤ (rd t179 x16_3) then (if (rd t179 x16_3) ≤ (rd t179 (ji44)) then (if (rd t179 (ji44)) ≤ (l1.length : Int) then ((matmul_Apply.f k3 bt201.1 bt201.2.1 bt201.2.2.1 ((l1.take ((rd t179 (ji44)) : Int).toNat).drop ((rd t179 x16_3) : Int).toNat)).bind fun bt211 => (if t193 = 0 then (if bt195.2 = 0 then (if bt201.2.2.2 = 0 then (if bt211.2 = 0 then (pelotonlaw04_MatmulParts.j3 k3 l1 t171 (wrap64 (1 + (Int.tmod (wrap64 ((Int.tmod a2 9) + 9)) 9))) t175 t179 x14_3 x15_3 x16_3 bt195.1 bt211.1 ((bt211.1.length : Int) != a0_0) a0_0 a0_1 l0_2) else (pelotonlaw04_MatmulParts.j3 k3 l1 t171 (wrap64 (1 + (Int.tmod (wrap64 ((Int.tmod a2 9) + 9)) 9))) t175 t179 x14_3 x15_3 x16_3 bt195.1 bt211.1 true a0_0 a0_1 l0_2)) else (pelotonlaw04_MatmulParts.j3 k3 l1 t171 (wrap64 (1 + (Int.tmod (wrap64 ((Int.tmod a2 9) + 9)) 9))) t175 t179 x14_3 x15_3 x16_3 bt195.1 bt211.1 true a0_0 a0_1 l0_2)) else (pelotonlaw04_MatmulParts.j3 k3 l1 t171 (wrap64 (1 + (Int.tmod (wrap64 ((Int.tmod a2 9) + 9)) 9))) t175 t179 x14_3 x15_3 x16_3 bt195.1 bt211.1 true a0_0 a0_1 l0_2)) else (pelotonlaw04_MatmulParts.j3 k3 l1 t171 (wrap64 (1 + (Int.tmod (wrap64 ((Int.tmod a2 9) + 9)) 9))) t175 t179 x14_3 x15_3 x16_3 bt195.1 bt211.1 true a0_0 a0_1 l0_2))) else (none)) else (none)) else (none))) else (none)) else (none))) = some r := H
       have A47 := Aside0.mk A470
       clear A470
       replace H := Option.bind_eq_some_iff.mp H
       obtain ⟨⟨t195, t198⟩, A480, H⟩ := H
       replace H : (if x16_3 < (t179.length : Int) then (if (ji44) < (t179.length : Int) then ((matmul_Cols.f k3 a0_0 a0_1 l0_2 (rd t179 x16_3) (rd t179 (ji44))).bind fun bt201 => (if 0 ≤ (rd t179 x16_3) then (if (rd t179 x16_3) ≤ (rd t179 (ji44)) then (if (rd t179 (ji44)) ≤ (l1.length : Int) then ((matmul_Apply.f k3 bt201.1 bt201.2.1 bt201.2.2.1 ((l1.take ((rd t179 (ji44)) : Int).toNat).drop ((rd t179 x16_3) : Int).toNat)).bind fun bt211 => (if t193 = 0 then (if t198 = 0 then (if bt201.2.2.2 = 0 then (if bt211.2 = 0 then (pelotonlaw04_MatmulParts.j3 k3 l1 t171 (wrap64 (1 + (Int.tmod (wrap64 ((Int.tmod a2 9) + 9)) 9))) t175 t179 x14_3 x15_3 x16_3 t195 bt211.1 ((bt211.1.length : Int) != a0_0) a0_0 a0_1 l0_2) else (pelotonlaw04_MatmulParts.j3 k3 l1 t171 (wrap64 (1 + (Int.tmod (wrap64 ((Int.tmod a2 9) + 9)) 9))) t175 t179 x14_3 x15_3 x16_3 t195 bt211.1 true a0_0 a0_1 l0_2)) else (pelotonlaw04_MatmulParts.j3 k3 l1 t171 (wrap64 (1 + (Int.tmod (wrap64 ((Int.tmod a2 9) + 9)) 9))) t175 t179 x14_3 x15_3 x16_3 t195 bt211.1 true a0_0 a0_1 l0_2)) else (pelotonlaw04_MatmulParts.j3 k3 l1 t171 (wrap64 (1 + (Int.tmod (wrap64 ((Int.tmod a2 9) + 9)) 9))) t175 t179 x14_3 x15_3 x16_3 t195 bt211.1 true a0_0 a0_1 l0_2)) else (pelotonlaw04_MatmulParts.j3 k3 l1 t171 (wrap64 (1 + (Int.tmod (wrap64 ((Int.tmod a2 9) + 9)) 9))) t175 t179 x14_3 x15_3 x16_3 t195 bt211.1 true a0_0 a0_1 l0_2))) else (none)) else (none)) else (none))) else (none)) else (none)) = some r := H
       have A48 := Aside0.mk A480
       clear A480
       by_cases c49 : x16_3 < (t179.length : Int)
       rotate_left
       ·
        rw [if_neg c49] at H
        exact absurd H (by simp)
       rw [if_pos c49] at H
       have c49b0 : decide (x16_3 < (t179.length : Int)) = true := decide_eq_true c49
       clear c49
       by_cases c50 : (ji44) < (t179.length : Int)
       rotate_left
       ·
        rw [if_neg c50] at H
        exact absurd H (by simp)
       rw [if_pos c50] at H
       have c50b0 : decide ((ji44) < (t179.length : Int)) = true := decide_eq_true c50
       clear c50
       replace H := Option.bind_eq_some_iff.mp H
       obtain ⟨⟨t201, t202, t203, t206⟩, A510, H⟩ := H
       replace H : (if 0 ≤ (rd t179 x16_3) then (if (rd t179 x16_3) ≤ (rd t179 (ji44)) then (if (rd t179 (ji44)) ≤ (l1.length : Int) then ((matmul_Apply.f k3 t201 t202 t203 ((l1.take ((rd t179 (ji44)) : Int).toNat).drop ((rd t179 x16_3) : Int).toNat)).bind fun bt211 => (if t193 = 0 then (if t198 = 0 then (if t206 = 0 then (if bt211.2 = 0 then (pelotonlaw04_MatmulParts.j3 k3 l1 t171 (wrap64 (1 + (Int.tmod (wrap64 ((Int.tmod a2 9) + 9)) 9))) t175 t179 x14_3 x15_3 x16_3 t195 bt211.1 ((bt211.1.length : Int) != a0_0) a0_0 a0_1 l0_2) else (pelotonlaw04_MatmulParts.j3 k3 l1 t171 (wrap64 (1 + (Int.tmod (wrap64 ((Int.tmod a2 9) + 9)) 9))) t175 t179 x14_3 x15_3 x16_3 t195 bt211.1 true a0_0 a0_1 l0_2)) else (pelotonlaw04_MatmulParts.j3 k3 l1 t171 (wrap64 (1 + (Int.tmod (wrap64 ((Int.tmod a2 9) + 9)) 9))) t175 t179 x14_3 x15_3 x16_3 t195 bt211.1 true a0_0 a0_1 l0_2)) else (pelotonlaw04_MatmulParts.j3 k3 l1 t171 (wrap64 (1 + (Int.tmod (wrap64 ((Int.tmod a2 9) + 9)) 9))) t175 t179 x14_3 x15_3 x16_3 t195 bt211.1 true a0_0 a0_1 l0_2)) else (pelotonlaw04_MatmulParts.j3 k3 l1 t171 (wrap64 (1 + (Int.tmod (wrap64 ((Int.tmod a2 9) + 9)) 9))) t175 t179 x14_3 x15_3 x16_3 t195 bt211.1 true a0_0 a0_1 l0_2))) else (none)) else (none)) else (none)) = some r := H
       have A51 := Aside0.mk A510
       clear A510
       by_cases c52 : 0 ≤ (rd t179 x16_3)
       rotate_left
       ·
        rw [if_neg c52] at H
        exact absurd H (by simp)
       rw [if_pos c52] at H
       have c52b0 := eq_true c52
       have c52b1 : decide (0 ≤ (rd t179 x16_3)) = true := decide_eq_true c52
       clear c52
       by_cases c53 : (rd t179 x16_3) ≤ (rd t179 (ji44))
       rotate_left
       ·
        rw [if_neg c53] at H
        exact absurd H (by simp)
       rw [if_pos c53] at H
       have c53b0 := eq_true c53
       have c53b1 : decide ((rd t179 x16_3) ≤ (rd t179 (ji44))) = true := decide_eq_true c53
       clear c53
       by_cases c54 : (rd t179 (ji44)) ≤ (l1.length : Int)
       rotate_left
       ·
        rw [if_neg c54] at H
        exact absurd H (by simp)
       rw [if_pos c54] at H
       have c54b0 := eq_true c54
       have c54b1 : decide ((rd t179 (ji44)) ≤ (l1.length : Int)) = true := decide_eq_true c54
       clear c54
       replace H := Option.bind_eq_some_iff.mp H
       obtain ⟨⟨t211, t214⟩, A550, H⟩ := H
       replace H : (if t193 = 0 then (if t198 = 0 then (if t206 = 0 then (if t214 = 0 then (pelotonlaw04_MatmulParts.j3 k3 l1 t171 (wrap64 (1 + (Int.tmod (wrap64 ((Int.tmod a2 9) + 9)) 9))) t175 t179 x14_3 x15_3 x16_3 t195 t211 ((t211.length : Int) != a0_0) a0_0 a0_1 l0_2) else (pelotonlaw04_MatmulParts.j3 k3 l1 t171 (wrap64 (1 + (Int.tmod (wrap64 ((Int.tmod a2 9) + 9)) 9))) t175 t179 x14_3 x15_3 x16_3 t195 t211 true a0_0 a0_1 l0_2)) else (pelotonlaw04_MatmulParts.j3 k3 l1 t171 (wrap64 (1 + (Int.tmod (wrap64 ((Int.tmod a2 9) + 9)) 9))) t175 t179 x14_3 x15_3 x16_3 t195 t211 true a0_0 a0_1 l0_2)) else (pelotonlaw04_MatmulParts.j3 k3 l1 t171 (wrap64 (1 + (Int.tmod (wrap64 ((Int.tmod a2 9) + 9)) 9))) t175 t179 x14_3 x15_3 x16_3 t195 t211 true a0_0 a0_1 l0_2)) else (pelotonlaw04_MatmulParts.j3 k3 l1 t171 (wrap64 (1 + (Int.tmod (wrap64 ((Int.tmod a2 9) + 9)) 9))) t175 t179 x14_3 x15_3 x16_3 t195 t211 true a0_0 a0_1 l0_2)) = some r := H
       have A55 := Aside0.mk A550
       clear A550
       have HC56 := Aside0.mk H
       clear H
       try go_wp2
       have n0_ := Aside0.mk (Kd.R_drew HO_7.out)
       have n1_ := Aside0.mk (Kd.R_drew HO_10.out)
       have n2_ := Aside0.mk (Kd.R_drew HO_12.out)
       have n3_ := Aside0.mk (Kd.R_drew HO_14.out)
       have n4_ := Aside0.mk (Kd.S_drew HO_15.out)
       have n5_ := Aside0.mk (k_d BK167.out)
       have n6_ := Aside0.mk (b_d HB.out)
       clear HO_7
       clear HO_10
       clear HO_12
       clear HO_14
       clear HO_15
       clear BK167
       clear HB
       have HO_7 := n0_
       have HO_10 := n1_
       have HO_12 := n2_
       have HO_14 := n3_
       have HO_15 := n4_
       have BK167 := n5_
       have HB := n6_
       clear n0_ n1_ n2_ n3_ n4_ n5_ n6_
       obtain ⟨Ao58, co58, eo58⟩ := Kd.R_slice HO_10.out
       (first | subst eo58 | (injection eo58 with f1_ f2_ f3_; have f4_ := f1_.symm; have f5_ := f3_.symm; clear f1_ f2_ f3_; subst f4_; subst f5_))
       have p186 : 0 ≤ (x16_3 : Int) := of_decide_eq_true (by first | (with_reducible assumption) | assumption)
       have q186 : x16_3 < (t175.length : Int) := of_decide_eq_true (by first | (with_reducible assumption) | assumption)
       obtain ⟨ad186, e186, hx186_0⟩ := Kd.at_int (Kd.R_reads' HO_10.out).2.2 x16_3 p186 q186
       cases e186
       replace p186 := eq_true p186
       replace q186 := eq_true q186
       have p187 : 0 ≤ ((ji44) : Int) := of_decide_eq_true (by first | (with_reducible assumption) | assumption)
       have q187 : (ji44) < (t175.length : Int) := of_decide_eq_true (by first | (with_reducible assumption) | assumption)
       obtain ⟨ad187, e187, hx187_0⟩ := Kd.at_int (Kd.R_reads' HO_10.out).2.2 (ji44) p187 q187
       obtain rfl : ad186 = ad187 := (by injection e187)
       replace p187 := eq_true p187
       replace q187 := eq_true q187
       refine start_ (n := 17) (S := fun w' => w'.cell? ⟨gb167, 0, none⟩ = some (.int .i64 a0_0) ∧ w'.cell? ⟨gb167, 1, none⟩ = some (.int .i64 a0_1) ∧ w'.cell? ⟨gb167, 2, none⟩ = some (.slice A0_2 l0_2.length c0_2) ∧ w'.cell? (ad186.add (x16_3).toNat) = some (.int .i64 (rd t175 x16_3)) ∧ w'.cell? (ad186.add ((ji44)).toNat) = some (.int .i64 (rd t175 (ji44)))) (ds := []) #[false, false, false, false, false, false, false, false, false, false, false, false, false, false, false, false, false] (by kernel_rfl) rfl rfl ⟨(blk_cell BK167.out 0).trans rfl, (blk_cell BK167.out 1).trans rfl, (blk_cell BK167.out 2).trans rfl, hx186_0, hx187_0⟩ (fun hHeld => ?_); refine with_tabW pelotonlaw04_MatmulParts.tab16 pelotonlaw04_MatmulParts.bits16 (fun HT_ HW_ => ?_)
       generalize wr.drew = w57 at HO_7 HO_10 HO_12 HO_14 HO_15 BK167 HB hx186_0 hx187_0 hHeld ⊢
       refine pure_ (i := 1) (N := some 89) (v := ?_) (a' := ?_) #[false, true, false, false, false, false, false, false, false, false, false, false, false, false, false, false, false] rfl rfl (any_of HT_.out (by kernel_rfl)) (fun _ _ _ h => h) (Or.inl ⟨by rfl, ?_⟩) ?_ ?_
       rotate_left
       ·
        intro w'
        go_simp
        with_reducible rfl
       rotate_left
       ·
        simp only [Act.put, l_1, l_2, l_3, i64_w, i32_w]
        rfl
       refine pure_ (i := 2) (N := some 90) (v := ?_) (a' := ?_) #[false, true, true, false, false, false, false, false, false, false, false, false, false, false, false, false, false] rfl rfl (any_of HT_.out (by kernel_rfl)) (fun _ _ _ h => h) (Or.inl ⟨by rfl, ?_⟩) ?_ ?_
       rotate_left
       ·
        intro w'
        go_simp
        with_reducible rfl
       rotate_left
       ·
        simp only [Act.put, l_1, l_2, l_3, i64_w, i32_w]
        rfl
       refine pure_ (i := 3) (N := some 91) (v := ?_) (a' := ?_) #[false, true, true, true, false, false, false, false, false, false, false, false, false, false, false, false, false] rfl rfl (any_of HT_.out (by kernel_rfl)) (fun _ _ _ h => h) (Or.inl ⟨by rfl, ?_⟩) ?_ ?_
       rotate_left
       ·
        intro w'
        go_simp
        with_reducible rfl
       rotate_left
       ·
        simp only [Act.put, l_1, l_2, l_3, i64_w, i32_w]
        rfl
       refine pure_ (i := 5) (N := some 93) (v := ?_) (a' := ?_) #[false, true, true, true, false, true, false, false, false, false, false, false, false, false, false, false, false] rfl rfl (any_of HT_.out (by kernel_rfl)) (fun _ _ _ h => h) (Or.inl ⟨by rfl, ?_⟩) ?_ ?_
       rotate_left
       ·
        intro w'
        go_simp
        with_reducible rfl
       rotate_left
       ·
        simp only [Act.put, l_1, l_2, l_3, i64_w, i32_w]
        rfl
       refine pure_ (i := 6) (N := some 94) (v := ?_) (a' := ?_) #[false, true, true, true, false, true, true, false, false, false, false, false, false, false, false, false, false] rfl rfl (any_of HT_.out (by kernel_rfl)) (fun _ _ _ h => h) (Or.inl ⟨by rfl, ?_⟩) ?_ ?_
       rotate_left
       ·
        intro w'
        go_simp
        with_reducible rfl
       rotate_left
       ·
        simp only [Act.put, l_1, l_2, l_3, i64_w, i32_w]
        rfl
       refine pure_ (i := 7) (N := some 95) (v := ?_) (a' := ?_) #[false, true, true, true, false, true, true, true, false, false, false, false, false, false, false, false, false] rfl rfl (any_of HT_.out (by kernel_rfl)) (fun _ _ _ h => h) (Or.inl ⟨by rfl, ?_⟩) ?_ ?_
       rotate_left
       ·
        intro w'
        go_simp
        with_reducible rfl
       rotate_left
       ·
        simp only [Act.put, l_1, l_2, l_3, i64_w, i32_w]
        rfl
       refine pure_ (i := 8) (N := some 96) (v := ?_) (a' := ?_) #[false, true, true, true, false, true, true, true, true, false, false, false, false, false, false, false, false] rfl rfl (any_of HT_.out (by kernel_rfl)) (fun _ _ _ h => h) (Or.inl ⟨by rfl, ?_⟩) ?_ ?_
       rotate_left
       ·
        intro w'
        go_simp
        with_reducible rfl
       rotate_left
       ·
        simp only [Act.put, l_1, l_2, l_3, i64_w, i32_w]
        rfl
       refine take_ (i := 0) (N := some 88) (v := ?_) (a' := ?_) #[true, true, true, true, false, true, true, true, true, false, false, false, false, false, false, false, false] rfl rfl (take_ofW HT_.out HW_.out (by kernel_rfl)) (fun _ _ _ h => h) (Or.inl ⟨by rfl, ?_⟩) hHeld ?_ ?_
       rotate_left
       ·
        rintro w' ⟨s0, s1, s2, s3, s4⟩
        go_simp
        with_reducible rfl
       rotate_left
       ·
        simp only [Act.put, l_1, l_2, l_3, i64_w, i32_w]
        rfl
       refine take_ (i := 4) (N := some 92) (v := ?_) (a' := ?_) #[true, true, true, true, true, true, true, true, true, false, false, false, false, false, false, false, false] rfl rfl (take_ofW HT_.out HW_.out (by kernel_rfl)) (fun _ _ _ h => h) (Or.inl ⟨by rfl, ?_⟩) hHeld ?_ ?_
       rotate_left
       ·
        rintro w' ⟨s0, s1, s2, s3, s4⟩
        go_simp
        with_reducible rfl
       rotate_left
       ·
        simp only [Act.put, l_1, l_2, l_3, i64_w, i32_w]
        rfl
       refine take_ (i := 9) (N := some 97) (v := ?_) (a' := ?_) #[true, true, true, true, true, true, true, true, true, true, false, false, false, false, false, false, false] rfl rfl (take_ofW HT_.out HW_.out (by kernel_rfl)) (fun _ _ _ h => h) (Or.inl ⟨by rfl, ?_⟩) hHeld ?_ ?_
       rotate_left
       ·
        rintro w' ⟨s0, s1, s2, s3, s4⟩
        go_simp
        with_reducible rfl
       rotate_left
       ·
        simp only [Act.put, l_1, l_2, l_3, i64_w, i32_w]
        rfl
       refine join_ (σ := Value × Nat) 2 #[true, true, true, true, true, true, true, true, true, true, true, true, true, true, true, false, false] (fun s_ => [(98, .tuple #[.agg #[.int .i64 t188, .int .i64 t189, s_.1], .int .i64 t193]), (17, .pointer (some ⟨s_.2, 0, none⟩)), (87, .tuple #[.agg #[.int .i64 t188, .int .i64 t189, s_.1], .int .i64 t193]), (99, .agg #[.int .i64 t188, .int .i64 t189, s_.1]), (100, .int .i64 t193)]) (fun s_ w' => (w'.cell? ⟨gb167, 0, none⟩ = some (.int .i64 a0_0) ∧ w'.cell? ⟨gb167, 1, none⟩ = some (.int .i64 a0_1) ∧ w'.cell? ⟨gb167, 2, none⟩ = some (.slice A0_2 l0_2.length c0_2) ∧ w'.cell? (ad186.add (x16_3).toNat) = some (.int .i64 (rd t175 x16_3)) ∧ w'.cell? (ad186.add ((ji44)).toNat) = some (.int .i64 (rd t175 (ji44)))) ∧ (Kd.R (Kd.int .i8) 35 w' w.heap.size (fun _ => True) s_.1 t190) ∧ (Kd.R (Kd.int .i64) 3 w' w.heap.size (fun k_ => some k_ ≠ (v181 : Value).ownBlock) (.slice (some ad186) t175.length co58) t175) ∧ (Kd.R (Kd.int .i64) 3 w' w.heap.size (fun k_ => some k_ ≠ (.slice (some ad186) t175.length co58 : Value).ownBlock) v181 t179) ∧ (Kd.R (Kd.int .i32) 21 w' w.heap.size (fun k_ => some k_ ≠ (v172 : Value).ownBlock) u14 x14_3) ∧ (Kd.S (Kd.slice 21 (Kd.int .i32)) 32 w' w.heap.size (fun k_ => some k_ ≠ (u14 : Value).ownBlock ∧ some k_ ≠ (v172 : Value).ownBlock) v184 x15_3) ∧ (Kd.R (Kd.int .i32) 21 w' w.heap.size (fun k_ => some k_ ≠ (u14 : Value).ownBlock) v172 t171) ∧ (w'.heap[gb167]? = some (.cells #[.int .i64 a0_0, .int .i64 a0_1, .slice A0_2 l0_2.length c0_2] 30 (0, 0))) ∧ (w'.heap[s_.2]? = some (.cells #[.int .i64 0, .int .i64 0, .slice none 0 0] 30 (0, 0))) ∧ (w.heap.size ≤ s_.2) ∧ (w.heap.size ≤ s_.2) ∧ (gb167 ≠ s_.2) ∧ (s_.2 ≠ gb167) ∧ (Below w.heap.size w w')) ?_ ?_
       rotate_left
       ·
        intro hCont
        refine two_ (i := 10) (j := 14) (Ni := some 98) (Nj := some 17) #[true, true, true, true, true, true, true, true, true, true, true, false, false, false, false, false, false] #[true, true, true, true, true, true, true, true, true, true, false, false, false, false, true, false, false] rfl rfl rfl rfl (two_of HT_.out (by kernel_rfl)) (by decide) (by decide) (fun K hK => ?_) (fun K hK => ?_)
        ·
         skip
         refine goes_ Try.func20 (by kernel_rfl) rfl #[.agg #[.int .i64 a0_0, .int .i64 a0_1, .slice A0_2 l0_2.length c0_2], .int .i64 (rd t175 x16_3), .int .i64 (rd t175 (ji44))] (by rfl) rfl rfl (by (try simp only [l_4, l_5, l_6]); first | done | (simp only [hji44]; rfl) | rfl | (simp only [l_7, l_8]; rfl)) ?_
         with_reducible refine (matmul_Rows.calls a0_0 a0_1 _ _ l0_2 (rd t175 x16_3) (rd t175 (ji44)) t188 t189 t190 t193 _ ?side1 ?side2 A47.out).mono ?_
         (case side1 => repeat (first | exact (Kd.C_below HR0_2.out HB.out) | (with_reducible refine Kd.C_alloc ?_ _) | (with_reducible refine Kd.C_drewN ?_ _) | (with_reducible refine Kd.C_drew ?_)))
         (case side2 => exact HC0_2.out)
         rintro e w59 ⟨v191, rfl, ho0, hb⟩
         have HS3_ := (hb.cell (World.block_lt_of_cell? _ _ (hHeld.2.2.2.1))).trans (hHeld.2.2.2.1)
         have HS4_ := (hb.cell (World.block_lt_of_cell? _ _ (hHeld.2.2.2.2))).trans (hHeld.2.2.2.2)
         refine ⟨_, rfl, ?_⟩
         have n0_ := Aside0.mk (Kd.R_below (by (with_reducible repeat (first | apply Kd.R_alloc | apply Kd.R_drewN | apply Kd.R_drew)); exact HO_7.out) hb)
         have n1_ := Aside0.mk (Kd.R_below (by (with_reducible repeat (first | apply Kd.R_alloc | apply Kd.R_drewN | apply Kd.R_drew)); exact HO_10.out) hb)
         have n2_ := Aside0.mk (Kd.R_below (by (with_reducible repeat (first | apply Kd.R_alloc | apply Kd.R_drewN | apply Kd.R_drew)); exact HO_12.out) hb)
         have n3_ := Aside0.mk (Kd.R_below (by (with_reducible repeat (first | apply Kd.R_alloc | apply Kd.R_drewN | apply Kd.R_drew)); exact HO_14.out) hb)
         have n4_ := Aside0.mk (Kd.S_below (by (with_reducible repeat (first | apply Kd.S_alloc | apply Kd.S_drewN | apply Kd.S_drew)); exact HO_15.out) hb)
         have n5_ := Aside0.mk (Kd.R_lower ho0 (below_size (by repeat (first | (with_reducible first | exact HB.out | apply b_a | apply b_n | apply b_d | refine b_s ?_ GE167.out) | exact HB.out))))
         have n6_ := Aside0.mk (blk_below (g := gb167) (o := .cells #[.int .i64 a0_0, .int .i64 a0_1, .slice A0_2 l0_2.length c0_2] 30 (0, 0)) (by (with_reducible repeat (first | refine k_n ?_ _ | refine k_d ?_ | refine k_a ?_ _)); exact BK167.out) hb)
         have n7_ := Aside0.mk (below_step (by repeat (first | (with_reducible first | exact HB.out | apply b_a | apply b_n | apply b_d | refine b_s ?_ GE167.out) | exact HB.out)) hb)
         clear HO_7
         clear HO_10
         clear HO_12
         clear HO_14
         clear HO_15
         clear BK167
         clear HB
         have HO_7 := n0_
         have HO_10 := n1_
         have HO_12 := n2_
         have HO_14 := n3_
         have HO_15 := n4_
         have HO192 := n5_
         have BK167 := n6_
         have HB := n7_
         clear n0_ n1_ n2_ n3_ n4_ n5_ n6_ n7_
         (try clear hb)
         (try clear hb2)
         (try clear hk)
         (try clear hi)
         (try clear ho0)
         refine hK.out _ _ ⟨(blk_cell BK167.out 0).trans rfl, (blk_cell BK167.out 1).trans rfl, (blk_cell BK167.out 2).trans rfl, HS3_, HS4_⟩ (fun hHeld => ?_)
         clear hK K
         refine norm_ (a' := ?_) ?_ ?_
         rotate_left
         ·
          show Act.put _ (some 98) _ = _
          simp only [Act.put, l_1, l_2, l_3, i64_w, i32_w]
          rfl
         refine pure_ (i := 11) (N := some 87) (v := ?_) (a' := ?_) #[true, true, true, true, true, true, true, true, true, true, true, true, false, false, false, false, false] rfl rfl (any_of HT_.out (by kernel_rfl)) (fun _ _ _ h => h) (Or.inl ⟨by rfl, ?_⟩) ?_ ?_
         rotate_left
         ·
          intro w'
          go_simp
          with_reducible rfl
         rotate_left
         ·
          simp only [Act.put, l_1, l_2, l_3, i64_w, i32_w]
          rfl
         refine pure_ (i := 12) (N := some 99) (v := ?_) (a' := ?_) #[true, true, true, true, true, true, true, true, true, true, true, true, true, false, false, false, false] rfl rfl (any_of HT_.out (by kernel_rfl)) (fun _ _ _ h => h) (Or.inl ⟨by rfl, ?_⟩) ?_ ?_
         rotate_left
         ·
          intro w'
          go_simp
          with_reducible rfl
         rotate_left
         ·
          simp only [Act.put, l_1, l_2, l_3, i64_w, i32_w]
          rfl
         refine pure_ (i := 13) (N := some 100) (v := ?_) (a' := ?_) #[true, true, true, true, true, true, true, true, true, true, true, true, true, true, false, false, false] rfl rfl (any_of HT_.out (by kernel_rfl)) (fun _ _ _ h => h) (Or.inl ⟨by rfl, ?_⟩) ?_ ?_
         rotate_left
         ·
          intro w'
          go_simp
          with_reducible rfl
         rotate_left
         ·
          simp only [Act.put, l_1, l_2, l_3, i64_w, i32_w]
          rfl
         refine one_ (i := 14) (N := some 17) #[true, true, true, true, true, true, true, true, true, true, true, true, true, true, true, false, false] rfl rfl (one_of HT_.out (by kernel_rfl)) (by decide) (fun K hK => ?_)
         refine box_step ?hg (N := 17) ?hd (cs := #[.int .i64 0, .int .i64 0, .slice none 0 0]) (t := 30) ?hr ?_; (case hd => rfl); (case hg => rfl); (case hr => first | (go_simp; done) | (go_simp; rfl))
         intro gb194 hg w60 hbox hb
         have HS3_ := (hb.cell (World.block_lt_of_cell? _ _ (hHeld.2.2.2.1))).trans (hHeld.2.2.2.1)
         have HS4_ := (hb.cell (World.block_lt_of_cell? _ _ (hHeld.2.2.2.2))).trans (hHeld.2.2.2.2)
         have n0_ := Aside0.mk (Kd.R_below (by (with_reducible repeat (first | apply Kd.R_alloc | apply Kd.R_drewN | apply Kd.R_drew)); exact HO_7.out) hb)
         have n1_ := Aside0.mk (Kd.R_below (by (with_reducible repeat (first | apply Kd.R_alloc | apply Kd.R_drewN | apply Kd.R_drew)); exact HO_10.out) hb)
         have n2_ := Aside0.mk (Kd.R_below (by (with_reducible repeat (first | apply Kd.R_alloc | apply Kd.R_drewN | apply Kd.R_drew)); exact HO_12.out) hb)
         have n3_ := Aside0.mk (Kd.R_below (by (with_reducible repeat (first | apply Kd.R_alloc | apply Kd.R_drewN | apply Kd.R_drew)); exact HO_14.out) hb)
         have n4_ := Aside0.mk (Kd.S_below (by (with_reducible repeat (first | apply Kd.S_alloc | apply Kd.S_drewN | apply Kd.S_drew)); exact HO_15.out) hb)
         have n5_ := Aside0.mk (Kd.R_below (by (with_reducible repeat (first | apply Kd.R_alloc | apply Kd.R_drewN | apply Kd.R_drew)); exact HO192.out) hb)
         have n6_ := Aside0.mk (blk_below (g := gb167) (o := .cells #[.int .i64 a0_0, .int .i64 a0_1, .slice A0_2 l0_2.length c0_2] 30 (0, 0)) (by (with_reducible repeat (first | refine k_n ?_ _ | refine k_d ?_ | refine k_a ?_ _)); exact BK167.out) hb)
         have n7_ := Aside0.mk (below_step (by repeat (first | (with_reducible first | exact HB.out | apply b_a | apply b_n | apply b_d | refine b_s ?_ GE167.out) | exact HB.out)) hb)
         have n8_ := Aside0.mk (hbox)
         have n9_ := Aside0.mk ((by rw [hg]; exact (below_size (by repeat (first | (with_reducible first | exact HB.out | apply b_a | apply b_n | apply b_d | refine b_s ?_ GE167.out) | exact HB.out))) : w.heap.size ≤ gb194))
         have n10_ := Aside0.mk ((by rw [hg]; exact (below_size (by repeat (first | (with_reducible first | exact HB.out | apply b_a | apply b_n | apply b_d | refine b_s ?_ GE167.out) | exact HB.out))) : w.heap.size ≤ gb194))
         have n11_ := Aside0.mk ((by rw [hg]; exact Nat.ne_of_lt (blk_lt (g := gb167) (o := .cells #[.int .i64 a0_0, .int .i64 a0_1, .slice A0_2 l0_2.length c0_2] 30 (0, 0)) (by (with_reducible repeat (first | refine k_n ?_ _ | refine k_d ?_ | refine k_a ?_ _)); exact BK167.out)) : gb167 ≠ gb194))
         have n12_ := Aside0.mk ((by rw [hg]; exact Nat.ne_of_gt (blk_lt (g := gb167) (o := .cells #[.int .i64 a0_0, .int .i64 a0_1, .slice A0_2 l0_2.length c0_2] 30 (0, 0)) (by (with_reducible repeat (first | refine k_n ?_ _ | refine k_d ?_ | refine k_a ?_ _)); exact BK167.out)) : gb194 ≠ gb167))
         clear HO_7
         clear HO_10
         clear HO_12
         clear HO_14
         clear HO_15
         clear HO192
         clear BK167
         clear HB
         have HO_7 := n0_
         have HO_10 := n1_
         have HO_12 := n2_
         have HO_14 := n3_
         have HO_15 := n4_
         have HO192 := n5_
         have BK167 := n6_
         have HB := n7_
         have BK194 := n8_
         have GW194 := n9_
         have GE194 := n10_
         have NB167_194 := n11_
         have NB194_167 := n12_
         clear n0_ n1_ n2_ n3_ n4_ n5_ n6_ n7_ n8_ n9_ n10_ n11_ n12_
         clear hb hbox hg
         refine hK.out _ _ ⟨(blk_cell BK167.out 0).trans rfl, (blk_cell BK167.out 1).trans rfl, (blk_cell BK167.out 2).trans rfl, HS3_, HS4_⟩ (fun hHeld => ?_)
         clear hK K
         refine norm_ (a' := ?_) ?_ ?_
         rotate_left
         ·
          show Act.put _ (some 17) _ = _
          simp only [Act.put, l_1, l_2, l_3, i64_w, i32_w]
          rfl
         exact norm_ (by simp only [putAll, Act.put, l_1, l_2, l_3]) (hCont (v191, gb194) _ ⟨hHeld, (by (with_reducible repeat (first | apply Kd.R_alloc | apply Kd.R_drewN | apply Kd.R_drew)); exact HO192.out), (by (with_reducible repeat (first | apply Kd.R_alloc | apply Kd.R_drewN | apply Kd.R_drew)); exact HO_10.out), (by (with_reducible repeat (first | apply Kd.R_alloc | apply Kd.R_drewN | apply Kd.R_drew)); exact HO_12.out), (by (with_reducible repeat (first | apply Kd.R_alloc | apply Kd.R_drewN | apply Kd.R_drew)); exact HO_14.out), (by (with_reducible repeat (first | apply Kd.S_alloc | apply Kd.S_drewN | apply Kd.S_drew)); exact Kd.S_mono HO_15.out (fun _ hk => ⟨hk.2, hk.1⟩)), (by (with_reducible repeat (first | apply Kd.R_alloc | apply Kd.R_drewN | apply Kd.R_drew)); exact HO_7.out), (by (with_reducible repeat (first | refine k_n ?_ _ | refine k_d ?_ | refine k_a ?_ _)); exact BK167.out), (by (with_reducible repeat (first | refine k_n ?_ _ | refine k_d ?_ | refine k_a ?_ _)); exact BK194.out), GW194.out, GE194.out, NB167_194.out, NB194_167.out, (by repeat (first | (with_reducible first | exact HB.out | apply b_a | apply b_n | apply b_d | refine b_s ?_ GE167.out | refine b_s ?_ GE194.out) | exact HB.out))⟩)
        ·
         skip
         refine box_step ?hg (N := 17) ?hd (cs := #[.int .i64 0, .int .i64 0, .slice none 0 0]) (t := 30) ?hr ?_; (case hd => rfl); (case hg => rfl); (case hr => first | (go_simp; done) | (go_simp; rfl))
         intro gb194 hg w59 hbox hb
         have HS3_ := (hb.cell (World.block_lt_of_cell? _ _ (hHeld.2.2.2.1))).trans (hHeld.2.2.2.1)
         have HS4_ := (hb.cell (World.block_lt_of_cell? _ _ (hHeld.2.2.2.2))).trans (hHeld.2.2.2.2)
         have n0_ := Aside0.mk (Kd.R_below (by (with_reducible repeat (first | apply Kd.R_alloc | apply Kd.R_drewN | apply Kd.R_drew)); exact HO_7.out) hb)
         have n1_ := Aside0.mk (Kd.R_below (by (with_reducible repeat (first | apply Kd.R_alloc | apply Kd.R_drewN | apply Kd.R_drew)); exact HO_10.out) hb)
         have n2_ := Aside0.mk (Kd.R_below (by (with_reducible repeat (first | apply Kd.R_alloc | apply Kd.R_drewN | apply Kd.R_drew)); exact HO_12.out) hb)
         have n3_ := Aside0.mk (Kd.R_below (by (with_reducible repeat (first | apply Kd.R_alloc | apply Kd.R_drewN | apply Kd.R_drew)); exact HO_14.out) hb)
         have n4_ := Aside0.mk (Kd.S_below (by (with_reducible repeat (first | apply Kd.S_alloc | apply Kd.S_drewN | apply Kd.S_drew)); exact HO_15.out) hb)
         have n5_ := Aside0.mk (blk_below (g := gb167) (o := .cells #[.int .i64 a0_0, .int .i64 a0_1, .slice A0_2 l0_2.length c0_2] 30 (0, 0)) (by (with_reducible repeat (first | refine k_n ?_ _ | refine k_d ?_ | refine k_a ?_ _)); exact BK167.out) hb)
         have n6_ := Aside0.mk (below_step (by repeat (first | (with_reducible first | exact HB.out | apply b_a | apply b_n | apply b_d | refine b_s ?_ GE167.out) | exact HB.out)) hb)
         have n7_ := Aside0.mk (hbox)
         have n8_ := Aside0.mk ((by rw [hg]; exact (below_size (by repeat (first | (with_reducible first | exact HB.out | apply b_a | apply b_n | apply b_d | refine b_s ?_ GE167.out) | exact HB.out))) : w.heap.size ≤ gb194))
         have n9_ := Aside0.mk ((by rw [hg]; exact (below_size (by repeat (first | (with_reducible first | exact HB.out | apply b_a | apply b_n | apply b_d | refine b_s ?_ GE167.out) | exact HB.out))) : w.heap.size ≤ gb194))
         have n10_ := Aside0.mk ((by rw [hg]; exact Nat.ne_of_lt (blk_lt (g := gb167) (o := .cells #[.int .i64 a0_0, .int .i64 a0_1, .slice A0_2 l0_2.length c0_2] 30 (0, 0)) (by (with_reducible repeat (first | refine k_n ?_ _ | refine k_d ?_ | refine k_a ?_ _)); exact BK167.out)) : gb167 ≠ gb194))
         have n11_ := Aside0.mk ((by rw [hg]; exact Nat.ne_of_gt (blk_lt (g := gb167) (o := .cells #[.int .i64 a0_0, .int .i64 a0_1, .slice A0_2 l0_2.length c0_2] 30 (0, 0)) (by (with_reducible repeat (first | refine k_n ?_ _ | refine k_d ?_ | refine k_a ?_ _)); exact BK167.out)) : gb194 ≠ gb167))
         clear HO_7
         clear HO_10
         clear HO_12
         clear HO_14
         clear HO_15
         clear BK167
         clear HB
         have HO_7 := n0_
         have HO_10 := n1_
         have HO_12 := n2_
         have HO_14 := n3_
         have HO_15 := n4_
         have BK167 := n5_
         have HB := n6_
         have BK194 := n7_
         have GW194 := n8_
         have GE194 := n9_
         have NB167_194 := n10_
         have NB194_167 := n11_
         clear n0_ n1_ n2_ n3_ n4_ n5_ n6_ n7_ n8_ n9_ n10_ n11_
         clear hb hbox hg
         refine hK.out _ _ ⟨(blk_cell BK167.out 0).trans rfl, (blk_cell BK167.out 1).trans rfl, (blk_cell BK167.out 2).trans rfl, HS3_, HS4_⟩ (fun hHeld => ?_)
         clear hK K
         refine norm_ (a' := ?_) ?_ ?_
         rotate_left
         ·
          show Act.put _ (some 17) _ = _
          simp only [Act.put, l_1, l_2, l_3, i64_w, i32_w]
          rfl
         refine one_ (i := 10) (N := some 98) #[true, true, true, true, true, true, true, true, true, true, true, false, false, false, true, false, false] rfl rfl (one_of HT_.out (by kernel_rfl)) (by decide) (fun K hK => ?_)
         refine goes_ Try.func20 (by kernel_rfl) rfl #[.agg #[.int .i64 a0_0, .int .i64 a0_1, .slice A0_2 l0_2.length c0_2], .int .i64 (rd t175 x16_3), .int .i64 (rd t175 (ji44))] (by rfl) rfl rfl (by (try simp only [l_4, l_5, l_6]); first | done | (simp only [hji44]; rfl) | rfl | (simp only [l_7, l_8]; rfl)) ?_
         with_reducible refine (matmul_Rows.calls a0_0 a0_1 _ _ l0_2 (rd t175 x16_3) (rd t175 (ji44)) t188 t189 t190 t193 _ ?side1 ?side2 A47.out).mono ?_
         (case side1 => repeat (first | exact (Kd.C_below HR0_2.out HB.out) | (with_reducible refine Kd.C_alloc ?_ _) | (with_reducible refine Kd.C_drewN ?_ _) | (with_reducible refine Kd.C_drew ?_)))
         (case side2 => exact HC0_2.out)
         rintro e w60 ⟨v191, rfl, ho0, hb⟩
         have HS3_ := (hb.cell (World.block_lt_of_cell? _ _ (hHeld.2.2.2.1))).trans (hHeld.2.2.2.1)
         have HS4_ := (hb.cell (World.block_lt_of_cell? _ _ (hHeld.2.2.2.2))).trans (hHeld.2.2.2.2)
         refine ⟨_, rfl, ?_⟩
         have n0_ := Aside0.mk (Kd.R_below (by (with_reducible repeat (first | apply Kd.R_alloc | apply Kd.R_drewN | apply Kd.R_drew)); exact HO_7.out) hb)
         have n1_ := Aside0.mk (Kd.R_below (by (with_reducible repeat (first | apply Kd.R_alloc | apply Kd.R_drewN | apply Kd.R_drew)); exact HO_10.out) hb)
         have n2_ := Aside0.mk (Kd.R_below (by (with_reducible repeat (first | apply Kd.R_alloc | apply Kd.R_drewN | apply Kd.R_drew)); exact HO_12.out) hb)
         have n3_ := Aside0.mk (Kd.R_below (by (with_reducible repeat (first | apply Kd.R_alloc | apply Kd.R_drewN | apply Kd.R_drew)); exact HO_14.out) hb)
         have n4_ := Aside0.mk (Kd.S_below (by (with_reducible repeat (first | apply Kd.S_alloc | apply Kd.S_drewN | apply Kd.S_drew)); exact HO_15.out) hb)
         have n5_ := Aside0.mk (Kd.R_lower ho0 (below_size (by repeat (first | (with_reducible first | exact HB.out | apply b_a | apply b_n | apply b_d | refine b_s ?_ GE167.out | refine b_s ?_ GE194.out) | exact HB.out))))
         have n6_ := Aside0.mk (blk_below (g := gb167) (o := .cells #[.int .i64 a0_0, .int .i64 a0_1, .slice A0_2 l0_2.length c0_2] 30 (0, 0)) (by (with_reducible repeat (first | refine k_n ?_ _ | refine k_d ?_ | refine k_a ?_ _)); exact BK167.out) hb)
         have n7_ := Aside0.mk (blk_below (g := gb194) (o := .cells #[.int .i64 0, .int .i64 0, .slice none 0 0] 30 (0, 0)) (by (with_reducible repeat (first | refine k_n ?_ _ | refine k_d ?_ | refine k_a ?_ _)); exact BK194.out) hb)
         have n8_ := Aside0.mk (below_step (by repeat (first | (with_reducible first | exact HB.out | apply b_a | apply b_n | apply b_d | refine b_s ?_ GE167.out | refine b_s ?_ GE194.out) | exact HB.out)) hb)
         clear HO_7
         clear HO_10
         clear HO_12
         clear HO_14
         clear HO_15
         clear BK167
         clear BK194
         clear HB
         have HO_7 := n0_
         have HO_10 := n1_
         have HO_12 := n2_
         have HO_14 := n3_
         have HO_15 := n4_
         have HO192 := n5_
         have BK167 := n6_
         have BK194 := n7_
         have HB := n8_
         clear n0_ n1_ n2_ n3_ n4_ n5_ n6_ n7_ n8_
         (try clear hb)
         (try clear hb2)
         (try clear hk)
         (try clear hi)
         (try clear ho0)
         refine hK.out _ _ ⟨(blk_cell BK167.out 0).trans rfl, (blk_cell BK167.out 1).trans rfl, (blk_cell BK167.out 2).trans rfl, HS3_, HS4_⟩ (fun hHeld => ?_)
         clear hK K
         refine norm_ (a' := ?_) ?_ ?_
         rotate_left
         ·
          show Act.put _ (some 98) _ = _
          simp only [Act.put, l_1, l_2, l_3, i64_w, i32_w]
          rfl
         refine pure_ (i := 11) (N := some 87) (v := ?_) (a' := ?_) #[true, true, true, true, true, true, true, true, true, true, true, true, false, false, true, false, false] rfl rfl (any_of HT_.out (by kernel_rfl)) (fun _ _ _ h => h) (Or.inl ⟨by rfl, ?_⟩) ?_ ?_
         rotate_left
         ·
          intro w'
          go_simp
          with_reducible rfl
         rotate_left
         ·
          simp only [Act.put, l_1, l_2, l_3, i64_w, i32_w]
          rfl
         refine pure_ (i := 12) (N := some 99) (v := ?_) (a' := ?_) #[true, true, true, true, true, true, true, true, true, true, true, true, true, false, true, false, false] rfl rfl (any_of HT_.out (by kernel_rfl)) (fun _ _ _ h => h) (Or.inl ⟨by rfl, ?_⟩) ?_ ?_
         rotate_left
         ·
          intro w'
          go_simp
          with_reducible rfl
         rotate_left
         ·
          simp only [Act.put, l_1, l_2, l_3, i64_w, i32_w]
          rfl
         refine pure_ (i := 13) (N := some 100) (v := ?_) (a' := ?_) #[true, true, true, true, true, true, true, true, true, true, true, true, true, true, true, false, false] rfl rfl (any_of HT_.out (by kernel_rfl)) (fun _ _ _ h => h) (Or.inl ⟨by rfl, ?_⟩) ?_ ?_
         rotate_left
         ·
          intro w'
          go_simp
          with_reducible rfl
         rotate_left
         ·
          simp only [Act.put, l_1, l_2, l_3, i64_w, i32_w]
          rfl
         exact norm_ (by simp only [putAll, Act.put, l_1, l_2, l_3]) (hCont (v191, gb194) _ ⟨hHeld, (by (with_reducible repeat (first | apply Kd.R_alloc | apply Kd.R_drewN | apply Kd.R_drew)); exact HO192.out), (by (with_reducible repeat (first | apply Kd.R_alloc | apply Kd.R_drewN | apply Kd.R_drew)); exact HO_10.out), (by (with_reducible repeat (first | apply Kd.R_alloc | apply Kd.R_drewN | apply Kd.R_drew)); exact HO_12.out), (by (with_reducible repeat (first | apply Kd.R_alloc | apply Kd.R_drewN | apply Kd.R_drew)); exact HO_14.out), (by (with_reducible repeat (first | apply Kd.S_alloc | apply Kd.S_drewN | apply Kd.S_drew)); exact Kd.S_mono HO_15.out (fun _ hk => ⟨hk.2, hk.1⟩)), (by (with_reducible repeat (first | apply Kd.R_alloc | apply Kd.R_drewN | apply Kd.R_drew)); exact HO_7.out), (by (with_reducible repeat (first | refine k_n ?_ _ | refine k_d ?_ | refine k_a ?_ _)); exact BK167.out), (by (with_reducible repeat (first | refine k_n ?_ _ | refine k_d ?_ | refine k_a ?_ _)); exact BK194.out), GW194.out, GE194.out, NB167_194.out, NB194_167.out, (by repeat (first | (with_reducible first | exact HB.out | apply b_a | apply b_n | apply b_d | refine b_s ?_ GE167.out | refine b_s ?_ GE194.out) | exact HB.out))⟩)
       rintro ⟨v191, gb194⟩ w61 ⟨hS_, h0_, h1_, h2_, h3_, h4_, h5_, h6_, h7_, h8_, h9_, h10_, h11_, h12_⟩
       have n0_ : Aside0 (Kd.R (Kd.int .i8) 35 w61 w.heap.size (fun _ => True) v191 t190) := ⟨h0_⟩
       have n1_ : Aside0 (Kd.R (Kd.int .i64) 3 w61 w.heap.size (fun k_ => some k_ ≠ (v181 : Value).ownBlock) (.slice (some ad186) t175.length co58) t175) := ⟨h1_⟩
       have n2_ : Aside0 (Kd.R (Kd.int .i64) 3 w61 w.heap.size (fun k_ => some k_ ≠ (.slice (some ad186) t175.length co58 : Value).ownBlock) v181 t179) := ⟨h2_⟩
       have n3_ : Aside0 (Kd.R (Kd.int .i32) 21 w61 w.heap.size (fun k_ => some k_ ≠ (v172 : Value).ownBlock) u14 x14_3) := ⟨h3_⟩
       have n4_ : Aside0 (Kd.S (Kd.slice 21 (Kd.int .i32)) 32 w61 w.heap.size (fun k_ => some k_ ≠ (u14 : Value).ownBlock ∧ some k_ ≠ (v172 : Value).ownBlock) v184 x15_3) := ⟨h4_⟩
       have n5_ : Aside0 (Kd.R (Kd.int .i32) 21 w61 w.heap.size (fun k_ => some k_ ≠ (u14 : Value).ownBlock) v172 t171) := ⟨h5_⟩
       have n6_ : Aside0 (w61.heap[gb167]? = some (.cells #[.int .i64 a0_0, .int .i64 a0_1, .slice A0_2 l0_2.length c0_2] 30 (0, 0))) := ⟨h6_⟩
       have n7_ : Aside0 (w61.heap[gb194]? = some (.cells #[.int .i64 0, .int .i64 0, .slice none 0 0] 30 (0, 0))) := ⟨h7_⟩
       have n8_ : Aside0 (w.heap.size ≤ gb194) := ⟨h8_⟩
       have n9_ : Aside0 (w.heap.size ≤ gb194) := ⟨h9_⟩
       have n10_ : Aside0 (gb167 ≠ gb194) := ⟨h10_⟩
       have n11_ : Aside0 (gb194 ≠ gb167) := ⟨h11_⟩
       have n12_ : Aside0 (Below w.heap.size w w61) := ⟨h12_⟩
       clear HO_7
       clear HO_10
       clear HO_12
       clear HO_14
       clear HO_15
       clear BK167
       clear HB
       clear h0_ h1_ h2_ h3_ h4_ h5_ h6_ h7_ h8_ h9_ h10_ h11_ h12_
       have HO192 := n0_
       have HO_10 := n1_
       have HO_12 := n2_
       have HO_14 := n3_
       have HO_15 := n4_
       have HO_7 := n5_
       have BK167 := n6_
       have BK194 := n7_
       have GW194 := n8_
       have GE194 := n9_
       have NB167_194 := n10_
       have NB194_167 := n11_
       have HB := n12_
       clear n0_ n1_ n2_ n3_ n4_ n5_ n6_ n7_ n8_ n9_ n10_ n11_ n12_
       have hHeld : w61.cell? ⟨gb167, 0, none⟩ = some (.int .i64 a0_0) ∧ w61.cell? ⟨gb167, 1, none⟩ = some (.int .i64 a0_1) ∧ w61.cell? ⟨gb167, 2, none⟩ = some (.slice A0_2 l0_2.length c0_2) ∧ w61.cell? (ad186.add (x16_3).toNat) = some (.int .i64 (rd t175 x16_3)) ∧ w61.cell? (ad186.add ((ji44)).toNat) = some (.int .i64 (rd t175 (ji44))) := hS_
       obtain ⟨Ao64, co64, eo64⟩ := Kd.R_slice HO192.out
       (first | subst eo64 | (injection eo64 with f1_ f2_ f3_; have f4_ := f1_.symm; have f5_ := f3_.symm; clear f1_ f2_ f3_; subst f4_; subst f5_))
       refine norm_ (a' := ?_) ?_ ?_
       rotate_left
       ·
        simp only [putAll, Act.put, l_1, l_2, l_3]
        rfl
       refine one_ (i := 15) (N := none) #[true, true, true, true, true, true, true, true, true, true, true, true, true, true, true, true, false] rfl rfl (one_of HT_.out (by kernel_rfl)) (by decide) (fun K hK => ?_)
       have hs62 : w61.cell? ⟨gb194, 0, none⟩ = some (.int .i64 0) := (blk_cell BK194.out 0).trans rfl
       have hfs62 := blk_frozen BK194.out 0
       have hns62_0 := NB167_194.out
       have hms62_0 := NB194_167.out
       have hs63 : w61.cell? ⟨gb194, 1, none⟩ = some (.int .i64 0) := (blk_cell BK194.out 1).trans rfl
       have hfs63 := blk_frozen BK194.out 1
       have hns63_0 := NB167_194.out
       have hms63_0 := NB194_167.out
       have hs65 : w61.cell? ⟨gb194, 2, none⟩ = some (.slice none 0 0) := (blk_cell BK194.out 2).trans rfl
       have hfs65 := blk_frozen BK194.out 2
       have hns65_0 := NB167_194.out
       have hms65_0 := NB194_167.out
       refine skip_ (w1 := ?_) (by rfl) rfl ?_ ?_
       rotate_left
       ·
        go_simp
        rfl
       refine hK.out _ _ ⟨((cell_far (p := ⟨gb194, _, none⟩) NB167_194.out _).trans (((cell_far (p := ⟨gb194, _, none⟩) NB167_194.out _).trans (((cell_far (p := ⟨gb194, _, none⟩) NB167_194.out _).trans (hHeld.1)))))), ((cell_far (p := ⟨gb194, _, none⟩) NB167_194.out _).trans (((cell_far (p := ⟨gb194, _, none⟩) NB167_194.out _).trans (((cell_far (p := ⟨gb194, _, none⟩) NB167_194.out _).trans (hHeld.2.1)))))), ((cell_far (p := ⟨gb194, _, none⟩) NB167_194.out _).trans (((cell_far (p := ⟨gb194, _, none⟩) NB167_194.out _).trans (((cell_far (p := ⟨gb194, _, none⟩) NB167_194.out _).trans (hHeld.2.2.1)))))), ((cell_far (p := ⟨gb194, _, none⟩) (by first | exact Kd.own_blk (Kd.R_ne HO_10.out BK194.out (by decide)) | (rw [add_block]; exact Kd.own_blk (Kd.R_ne HO_10.out BK194.out (by decide))) | (show (Addr.add _ _).block ≠ _; rw [add_block]; exact Kd.own_blk (Kd.R_ne HO_10.out BK194.out (by decide))) | (dsimp only; exact Kd.own_blk (Kd.R_ne HO_10.out BK194.out (by decide)))) _).trans (((cell_far (p := ⟨gb194, _, none⟩) (by first | exact Kd.own_blk (Kd.R_ne HO_10.out BK194.out (by decide)) | (rw [add_block]; exact Kd.own_blk (Kd.R_ne HO_10.out BK194.out (by decide))) | (show (Addr.add _ _).block ≠ _; rw [add_block]; exact Kd.own_blk (Kd.R_ne HO_10.out BK194.out (by decide))) | (dsimp only; exact Kd.own_blk (Kd.R_ne HO_10.out BK194.out (by decide)))) _).trans (((cell_far (p := ⟨gb194, _, none⟩) (by first | exact Kd.own_blk (Kd.R_ne HO_10.out BK194.out (by decide)) | (rw [add_block]; exact Kd.own_blk (Kd.R_ne HO_10.out BK194.out (by decide))) | (show (Addr.add _ _).block ≠ _; rw [add_block]; exact Kd.own_blk (Kd.R_ne HO_10.out BK194.out (by decide))) | (dsimp only; exact Kd.own_blk (Kd.R_ne HO_10.out BK194.out (by decide)))) _).trans (hHeld.2.2.2.1)))))), ((cell_far (p := ⟨gb194, _, none⟩) (by first | exact Kd.own_blk (Kd.R_ne HO_10.out BK194.out (by decide)) | (rw [add_block]; exact Kd.own_blk (Kd.R_ne HO_10.out BK194.out (by decide))) | (show (Addr.add _ _).block ≠ _; rw [add_block]; exact Kd.own_blk (Kd.R_ne HO_10.out BK194.out (by decide))) | (dsimp only; exact Kd.own_blk (Kd.R_ne HO_10.out BK194.out (by decide)))) _).trans (((cell_far (p := ⟨gb194, _, none⟩) (by first | exact Kd.own_blk (Kd.R_ne HO_10.out BK194.out (by decide)) | (rw [add_block]; exact Kd.own_blk (Kd.R_ne HO_10.out BK194.out (by decide))) | (show (Addr.add _ _).block ≠ _; rw [add_block]; exact Kd.own_blk (Kd.R_ne HO_10.out BK194.out (by decide))) | (dsimp only; exact Kd.own_blk (Kd.R_ne HO_10.out BK194.out (by decide)))) _).trans (((cell_far (p := ⟨gb194, _, none⟩) (by first | exact Kd.own_blk (Kd.R_ne HO_10.out BK194.out (by decide)) | (rw [add_block]; exact Kd.own_blk (Kd.R_ne HO_10.out BK194.out (by decide))) | (show (Addr.add _ _).block ≠ _; rw [add_block]; exact Kd.own_blk (Kd.R_ne HO_10.out BK194.out (by decide))) | (dsimp only; exact Kd.own_blk (Kd.R_ne HO_10.out BK194.out (by decide)))) _).trans (hHeld.2.2.2.2))))))⟩ (fun hHeld => ?_)
       clear hK K
       refine pure_ (i := 16) (N := some 18) (v := ?_) (a' := ?_) #[true, true, true, true, true, true, true, true, true, true, true, true, true, true, true, true, true] rfl rfl (any_of HT_.out (by kernel_rfl)) (fun _ _ _ h => h) (Or.inl ⟨by rfl, ?_⟩) ?_ ?_
       rotate_left
       ·
        intro w'
        go_simp
        with_reducible rfl
       rotate_left
       ·
        simp only [Act.put, l_1, l_2, l_3, i64_w, i32_w]
        rfl
       refine done_ (done_of HT_.out (by kernel_rfl)) ?_
       have hnb66 := NB194_167.out
       have hnc66 := NB167_194.out
       have hcz67_0 : w61.cell? ⟨gb194, 0, none⟩ = some (.int .i64 0) := (blk_cell BK194.out 0).trans rfl
       have hcz67_1 : w61.cell? ⟨gb194, 1, none⟩ = some (.int .i64 0) := (blk_cell BK194.out 1).trans rfl
       have hcz67_2 : w61.cell? ⟨gb194, 2, none⟩ = some (.slice none 0 0) := (blk_cell BK194.out 2).trans rfl
       have hfz67_0 := blk_frozen BK194.out 0
       have hfz67_1 := blk_frozen BK194.out 1
       have hfz67_2 := blk_frozen BK194.out 2
       try go_wp2_with (first | ((with_reducible refine gate_callee (f := 14) rfl ?_); refine goesL_ (some 104) rfl rfl Try.func14 (by kernel_rfl) rfl #[.agg #[.int .i64 t188, .int .i64 t189, .slice Ao64 t190.length co64], .slice A1 l1.length c1] rfl (by (try simp only [l_4, l_5, l_6]); first | done | rfl | (simp only [l_7, l_8]; rfl)) ?_; (with_reducible refine (matmul_Apply.calls k3 t188 t189 _ _ t190 _ _ l1 t195 t198 _ ?side1 ?side2 ?side3 ?side4 A48.out).mono ?_); (case side1 => refine (Kd.R_reads' (e := 35) (base := w.heap.size) (ok := fun k_ => True) (n := t190.length) (c := co64) ?_).2.2; exact (by (with_reducible repeat (first | apply Kd.R_alloc | apply Kd.R_drewN | apply Kd.R_drew)); exact (Kd.R_mono (Kd.R_far (p := ⟨gb194, 2, none⟩) (Kd.R_far (p := ⟨gb194, 1, none⟩) (Kd.R_far (p := ⟨gb194, 0, none⟩) (Kd.R_types HO192.out BK194.out (by decide)) (fun _ hk => hk.2) (.int .i64 t188)) (fun _ hk => hk.2) (.int .i64 t189)) (fun _ hk => hk.2) (.slice Ao64 t190.length co64)) (fun _ h_ => h_.1)))); (case side2 => exact (Kd.R_reads' HO192.out).2.1); (case side3 => exact Kd.C_below HR1.out (by repeat (first | (with_reducible first | exact HB.out | apply b_a | apply b_n | apply b_d | refine b_s ?_ GE167.out | refine b_s ?_ GE194.out) | exact HB.out))); (case side4 => exact HC1.out); rintro e w68 ⟨v196, rfl, ho0, hb⟩; refine ⟨_, rfl, ?_⟩; have n0_ := Aside0.mk (Kd.R_elder' (by (with_reducible repeat (first | apply Kd.R_alloc | apply Kd.R_drewN | apply Kd.R_drew)); exact (Kd.R_mono (Kd.R_far (p := ⟨gb194, 2, none⟩) (Kd.R_far (p := ⟨gb194, 1, none⟩) (Kd.R_far (p := ⟨gb194, 0, none⟩) (Kd.R_types HO_7.out BK194.out (by decide)) (fun _ hk => hk.2) (.int .i64 t188)) (fun _ hk => hk.2) (.int .i64 t189)) (fun _ hk => hk.2) (.slice Ao64 t190.length co64)) (fun _ h_ => h_.1))) (Kd.R_base ho0) hb); have n1_ := Aside0.mk (Kd.R_below (by (with_reducible repeat (first | apply Kd.R_alloc | apply Kd.R_drewN | apply Kd.R_drew)); exact (Kd.R_mono (Kd.R_far (p := ⟨gb194, 2, none⟩) (Kd.R_far (p := ⟨gb194, 1, none⟩) (Kd.R_far (p := ⟨gb194, 0, none⟩) (Kd.R_types HO_10.out BK194.out (by decide)) (fun _ hk => hk.2) (.int .i64 t188)) (fun _ hk => hk.2) (.int .i64 t189)) (fun _ hk => hk.2) (.slice Ao64 t190.length co64)) (fun _ h_ => h_.1))) hb); have n2_ := Aside0.mk (Kd.R_below (by (with_reducible repeat (first | apply Kd.R_alloc | apply Kd.R_drewN | apply Kd.R_drew)); exact (Kd.R_mono (Kd.R_far (p := ⟨gb194, 2, none⟩) (Kd.R_far (p := ⟨gb194, 1, none⟩) (Kd.R_far (p := ⟨gb194, 0, none⟩) (Kd.R_types HO_12.out BK194.out (by decide)) (fun _ hk => hk.2) (.int .i64 t188)) (fun _ hk => hk.2) (.int .i64 t189)) (fun _ hk => hk.2) (.slice Ao64 t190.length co64)) (fun _ h_ => h_.1))) hb); have n3_ := Aside0.mk (Kd.R_elder' (by (with_reducible repeat (first | apply Kd.R_alloc | apply Kd.R_drewN | apply Kd.R_drew)); exact (Kd.R_mono (Kd.R_far (p := ⟨gb194, 2, none⟩) (Kd.R_far (p := ⟨gb194, 1, none⟩) (Kd.R_far (p := ⟨gb194, 0, none⟩) (Kd.R_types HO_14.out BK194.out (by decide)) (fun _ hk => hk.2) (.int .i64 t188)) (fun _ hk => hk.2) (.int .i64 t189)) (fun _ hk => hk.2) (.slice Ao64 t190.length co64)) (fun _ h_ => h_.1))) (Kd.R_base ho0) hb); have n4_ := Aside0.mk (Kd.S_elder' (by (with_reducible repeat (first | apply Kd.S_alloc | apply Kd.S_drewN | apply Kd.S_drew)); exact (Kd.S_mono (Kd.S_far (p := ⟨gb194, 2, none⟩) (Kd.S_far (p := ⟨gb194, 1, none⟩) (Kd.S_far (p := ⟨gb194, 0, none⟩) (Kd.S_types HO_15.out BK194.out (by decide)) (fun _ hk => hk.2) (.int .i64 t188)) (fun _ hk => hk.2) (.int .i64 t189)) (fun _ hk => hk.2) (.slice Ao64 t190.length co64)) (fun _ h_ => h_.1))) (Kd.R_base ho0) hb); have n5_ := Aside0.mk (Kd.R_below (by (with_reducible repeat (first | apply Kd.R_alloc | apply Kd.R_drewN | apply Kd.R_drew)); exact (Kd.R_mono (Kd.R_far (p := ⟨gb194, 2, none⟩) (Kd.R_far (p := ⟨gb194, 1, none⟩) (Kd.R_far (p := ⟨gb194, 0, none⟩) (Kd.R_types HO192.out BK194.out (by decide)) (fun _ hk => hk.2) (.int .i64 t188)) (fun _ hk => hk.2) (.int .i64 t189)) (fun _ hk => hk.2) (.slice Ao64 t190.length co64)) (fun _ h_ => h_.1))) hb); have n6_ := Aside0.mk (Kd.R_lower (Kd.R_new' (Kd.R_new' ho0 (Kd.R_lt (by (with_reducible repeat (first | apply Kd.R_alloc | apply Kd.R_drewN | apply Kd.R_drew)); exact (Kd.R_mono (Kd.R_far (p := ⟨gb194, 2, none⟩) (Kd.R_far (p := ⟨gb194, 1, none⟩) (Kd.R_far (p := ⟨gb194, 0, none⟩) (Kd.R_types HO_7.out BK194.out (by decide)) (fun _ hk => hk.2) (.int .i64 t188)) (fun _ hk => hk.2) (.int .i64 t189)) (fun _ hk => hk.2) (.slice Ao64 t190.length co64)) (fun _ h_ => h_.1))))) (Kd.R_lt (by (with_reducible repeat (first | apply Kd.R_alloc | apply Kd.R_drewN | apply Kd.R_drew)); exact (Kd.R_mono (Kd.R_far (p := ⟨gb194, 2, none⟩) (Kd.R_far (p := ⟨gb194, 1, none⟩) (Kd.R_far (p := ⟨gb194, 0, none⟩) (Kd.R_types HO_14.out BK194.out (by decide)) (fun _ hk => hk.2) (.int .i64 t188)) (fun _ hk => hk.2) (.int .i64 t189)) (fun _ hk => hk.2) (.slice Ao64 t190.length co64)) (fun _ h_ => h_.1))))) (below_size (by repeat (first | (with_reducible first | exact HB.out | apply b_a | apply b_n | apply b_d | refine b_s ?_ GE167.out | refine b_s ?_ GE194.out) | exact HB.out)))); have n7_ := Aside0.mk (blk_below (g := gb167) (o := .cells #[.int .i64 a0_0, .int .i64 a0_1, .slice A0_2 l0_2.length c0_2] 30 (0, 0)) (by (with_reducible repeat (first | refine k_n ?_ _ | refine k_d ?_ | refine k_a ?_ _)); refine blk_far ?_ NB167_194.out _; (with_reducible repeat (first | refine k_n ?_ _ | refine k_d ?_ | refine k_a ?_ _)); refine blk_far ?_ NB167_194.out _; (with_reducible repeat (first | refine k_n ?_ _ | refine k_d ?_ | refine k_a ?_ _)); refine blk_far ?_ NB167_194.out _; (with_reducible repeat (first | refine k_n ?_ _ | refine k_d ?_ | refine k_a ?_ _)); exact BK167.out) hb); have n8_ := Aside0.mk (blk_below (g := gb194) (o := .cells #[.int .i64 t188, .int .i64 t189, .slice Ao64 t190.length co64] 30 (0, 0)) (by (with_reducible repeat (first | refine k_n ?_ _ | refine k_d ?_ | refine k_a ?_ _)); refine blk_put (cs := #[.int .i64 t188, .int .i64 t189, .slice none 0 0]) ?_ 2 _ rfl; (with_reducible repeat (first | refine k_n ?_ _ | refine k_d ?_ | refine k_a ?_ _)); refine blk_put (cs := #[.int .i64 t188, .int .i64 0, .slice none 0 0]) ?_ 1 _ rfl; (with_reducible repeat (first | refine k_n ?_ _ | refine k_d ?_ | refine k_a ?_ _)); refine blk_put (cs := #[.int .i64 0, .int .i64 0, .slice none 0 0]) ?_ 0 _ rfl; (with_reducible repeat (first | refine k_n ?_ _ | refine k_d ?_ | refine k_a ?_ _)); exact BK194.out) hb); have n9_ := Aside0.mk (below_step (by repeat (first | (with_reducible first | exact HB.out | apply b_a | apply b_n | apply b_d | refine b_s ?_ GE167.out | refine b_s ?_ GE194.out) | exact HB.out)) hb); clear HO_7; clear HO_10; clear HO_12; clear HO_14; clear HO_15; clear HO192; clear BK167; clear BK194; clear HB; have HO_7 := n0_; have HO_10 := n1_; have HO_12 := n2_; have HO_14 := n3_; have HO_15 := n4_; have HO192 := n5_; have HO197 := n6_; have BK167 := n7_; have BK194 := n8_; have HB := n9_; clear n0_ n1_ n2_ n3_ n4_ n5_ n6_ n7_ n8_ n9_; (try clear hb); (try clear hb2); (try clear hk); (try clear hi); (try clear ho0)))
       have n0_ := Aside0.mk (Kd.R_drew HO_7.out)
       have n1_ := Aside0.mk (Kd.R_drew HO_10.out)
       have n2_ := Aside0.mk (Kd.R_drew HO_12.out)
       have n3_ := Aside0.mk (Kd.R_drew HO_14.out)
       have n4_ := Aside0.mk (Kd.S_drew HO_15.out)
       have n5_ := Aside0.mk (Kd.R_drew HO192.out)
       have n6_ := Aside0.mk (Kd.R_drew HO197.out)
       have n7_ := Aside0.mk (k_d BK167.out)
       have n8_ := Aside0.mk (k_d BK194.out)
       have n9_ := Aside0.mk (b_d HB.out)
       clear HO_7
       clear HO_10
       clear HO_12
       clear HO_14
       clear HO_15
       clear HO192
       clear HO197
       clear BK167
       clear BK194
       clear HB
       have HO_7 := n0_
       have HO_10 := n1_
       have HO_12 := n2_
       have HO_14 := n3_
       have HO_15 := n4_
       have HO192 := n5_
       have HO197 := n6_
       have BK167 := n7_
       have BK194 := n8_
       have HB := n9_
       clear n0_ n1_ n2_ n3_ n4_ n5_ n6_ n7_ n8_ n9_
       obtain ⟨Ao70, co70, eo70⟩ := Kd.R_slice HO_12.out
       (first | subst eo70 | (injection eo70 with f1_ f2_ f3_; have f4_ := f1_.symm; have f5_ := f3_.symm; clear f1_ f2_ f3_; subst f4_; subst f5_))
       have p199 : 0 ≤ (x16_3 : Int) := of_decide_eq_true (by first | (with_reducible assumption) | assumption)
       have q199 : x16_3 < (t179.length : Int) := of_decide_eq_true (by first | (with_reducible assumption) | assumption)
       obtain ⟨ad199, e199, hx199_0⟩ := Kd.at_int (Kd.R_reads' HO_12.out).2.2 x16_3 p199 q199
       cases e199
       replace p199 := eq_true p199
       replace q199 := eq_true q199
       have p200 : 0 ≤ ((ji44) : Int) := of_decide_eq_true (by first | (with_reducible assumption) | assumption)
       have q200 : (ji44) < (t179.length : Int) := of_decide_eq_true (by first | (with_reducible assumption) | assumption)
       obtain ⟨ad200, e200, hx200_0⟩ := Kd.at_int (Kd.R_reads' HO_12.out).2.2 (ji44) p200 q200
       obtain rfl : ad199 = ad200 := (by injection e200)
       replace p200 := eq_true p200
       replace q200 := eq_true q200
       refine start_ (n := 17) (S := fun w' => w'.cell? ⟨gb167, 0, none⟩ = some (.int .i64 a0_0) ∧ w'.cell? ⟨gb167, 1, none⟩ = some (.int .i64 a0_1) ∧ w'.cell? ⟨gb167, 2, none⟩ = some (.slice A0_2 l0_2.length c0_2) ∧ w'.cell? (ad199.add (x16_3).toNat) = some (.int .i64 (rd t179 x16_3)) ∧ w'.cell? (ad199.add ((ji44)).toNat) = some (.int .i64 (rd t179 (ji44)))) (ds := []) #[false, false, false, false, false, false, false, false, false, false, false, false, false, false, false, false, false] (by kernel_rfl) rfl rfl ⟨(blk_cell BK167.out 0).trans rfl, (blk_cell BK167.out 1).trans rfl, (blk_cell BK167.out 2).trans rfl, hx199_0, hx200_0⟩ (fun hHeld => ?_); refine with_tabW pelotonlaw04_MatmulParts.tab18 pelotonlaw04_MatmulParts.bits18 (fun HT_ HW_ => ?_)
       generalize w68.drew = w69 at HO_7 HO_10 HO_12 HO_14 HO_15 HO192 HO197 BK167 BK194 HB hx199_0 hx200_0 hHeld ⊢
       refine pure_ (i := 1) (N := some 109) (v := ?_) (a' := ?_) #[false, true, false, false, false, false, false, false, false, false, false, false, false, false, false, false, false] rfl rfl (any_of HT_.out (by kernel_rfl)) (fun _ _ _ h => h) (Or.inl ⟨by rfl, ?_⟩) ?_ ?_
       rotate_left
       ·
        intro w'
        go_simp
        with_reducible rfl
       rotate_left
       ·
        simp only [Act.put, l_1, l_2, l_3, i64_w, i32_w]
        rfl
       refine pure_ (i := 2) (N := some 110) (v := ?_) (a' := ?_) #[false, true, true, false, false, false, false, false, false, false, false, false, false, false, false, false, false] rfl rfl (any_of HT_.out (by kernel_rfl)) (fun _ _ _ h => h) (Or.inl ⟨by rfl, ?_⟩) ?_ ?_
       rotate_left
       ·
        intro w'
        go_simp
        with_reducible rfl
       rotate_left
       ·
        simp only [Act.put, l_1, l_2, l_3, i64_w, i32_w]
        rfl
       refine pure_ (i := 3) (N := some 111) (v := ?_) (a' := ?_) #[false, true, true, true, false, false, false, false, false, false, false, false, false, false, false, false, false] rfl rfl (any_of HT_.out (by kernel_rfl)) (fun _ _ _ h => h) (Or.inl ⟨by rfl, ?_⟩) ?_ ?_
       rotate_left
       ·
        intro w'
        go_simp
        with_reducible rfl
       rotate_left
       ·
        simp only [Act.put, l_1, l_2, l_3, i64_w, i32_w]
        rfl
       refine pure_ (i := 5) (N := some 113) (v := ?_) (a' := ?_) #[false, true, true, true, false, true, false, false, false, false, false, false, false, false, false, false, false] rfl rfl (any_of HT_.out (by kernel_rfl)) (fun _ _ _ h => h) (Or.inl ⟨by rfl, ?_⟩) ?_ ?_
       rotate_left
       ·
        intro w'
        go_simp
        with_reducible rfl
       rotate_left
       ·
        simp only [Act.put, l_1, l_2, l_3, i64_w, i32_w]
        rfl
       refine pure_ (i := 6) (N := some 114) (v := ?_) (a' := ?_) #[false, true, true, true, false, true, true, false, false, false, false, false, false, false, false, false, false] rfl rfl (any_of HT_.out (by kernel_rfl)) (fun _ _ _ h => h) (Or.inl ⟨by rfl, ?_⟩) ?_ ?_
       rotate_left
       ·
        intro w'
        go_simp
        with_reducible rfl
       rotate_left
       ·
        simp only [Act.put, l_1, l_2, l_3, i64_w, i32_w]
        rfl
       refine pure_ (i := 7) (N := some 115) (v := ?_) (a' := ?_) #[false, true, true, true, false, true, true, true, false, false, false, false, false, false, false, false, false] rfl rfl (any_of HT_.out (by kernel_rfl)) (fun _ _ _ h => h) (Or.inl ⟨by rfl, ?_⟩) ?_ ?_
       rotate_left
       ·
        intro w'
        go_simp
        with_reducible rfl
       rotate_left
       ·
        simp only [Act.put, l_1, l_2, l_3, i64_w, i32_w]
        rfl
       refine pure_ (i := 8) (N := some 116) (v := ?_) (a' := ?_) #[false, true, true, true, false, true, true, true, true, false, false, false, false, false, false, false, false] rfl rfl (any_of HT_.out (by kernel_rfl)) (fun _ _ _ h => h) (Or.inl ⟨by rfl, ?_⟩) ?_ ?_
       rotate_left
       ·
        intro w'
        go_simp
        with_reducible rfl
       rotate_left
       ·
        simp only [Act.put, l_1, l_2, l_3, i64_w, i32_w]
        rfl
       refine take_ (i := 0) (N := some 108) (v := ?_) (a' := ?_) #[true, true, true, true, false, true, true, true, true, false, false, false, false, false, false, false, false] rfl rfl (take_ofW HT_.out HW_.out (by kernel_rfl)) (fun _ _ _ h => h) (Or.inl ⟨by rfl, ?_⟩) hHeld ?_ ?_
       rotate_left
       ·
        rintro w' ⟨s0, s1, s2, s3, s4⟩
        go_simp
        with_reducible rfl
       rotate_left
       ·
        simp only [Act.put, l_1, l_2, l_3, i64_w, i32_w]
        rfl
       refine take_ (i := 4) (N := some 112) (v := ?_) (a' := ?_) #[true, true, true, true, true, true, true, true, true, false, false, false, false, false, false, false, false] rfl rfl (take_ofW HT_.out HW_.out (by kernel_rfl)) (fun _ _ _ h => h) (Or.inl ⟨by rfl, ?_⟩) hHeld ?_ ?_
       rotate_left
       ·
        rintro w' ⟨s0, s1, s2, s3, s4⟩
        go_simp
        with_reducible rfl
       rotate_left
       ·
        simp only [Act.put, l_1, l_2, l_3, i64_w, i32_w]
        rfl
       refine take_ (i := 9) (N := some 117) (v := ?_) (a' := ?_) #[true, true, true, true, true, true, true, true, true, true, false, false, false, false, false, false, false] rfl rfl (take_ofW HT_.out HW_.out (by kernel_rfl)) (fun _ _ _ h => h) (Or.inl ⟨by rfl, ?_⟩) hHeld ?_ ?_
       rotate_left
       ·
        rintro w' ⟨s0, s1, s2, s3, s4⟩
        go_simp
        with_reducible rfl
       rotate_left
       ·
        simp only [Act.put, l_1, l_2, l_3, i64_w, i32_w]
        rfl
       refine join_ (σ := Value × Nat) 2 #[true, true, true, true, true, true, true, true, true, true, true, true, true, true, true, false, false] (fun s_ => [(118, .tuple #[.agg #[.int .i64 t201, .int .i64 t202, s_.1], .int .i64 t206]), (21, .pointer (some ⟨s_.2, 0, none⟩)), (107, .tuple #[.agg #[.int .i64 t201, .int .i64 t202, s_.1], .int .i64 t206]), (119, .agg #[.int .i64 t201, .int .i64 t202, s_.1]), (120, .int .i64 t206)]) (fun s_ w' => (w'.cell? ⟨gb167, 0, none⟩ = some (.int .i64 a0_0) ∧ w'.cell? ⟨gb167, 1, none⟩ = some (.int .i64 a0_1) ∧ w'.cell? ⟨gb167, 2, none⟩ = some (.slice A0_2 l0_2.length c0_2) ∧ w'.cell? (ad199.add (x16_3).toNat) = some (.int .i64 (rd t179 x16_3)) ∧ w'.cell? (ad199.add ((ji44)).toNat) = some (.int .i64 (rd t179 (ji44)))) ∧ (Kd.R (Kd.int .i8) 35 w' w.heap.size (fun k_ => some k_ ≠ (s_.1 : Value).ownBlock) (.slice Ao64 t190.length co64) t190) ∧ (Kd.R (Kd.int .i32) 21 w' w.heap.size (fun k_ => some k_ ≠ (u14 : Value).ownBlock ∧ some k_ ≠ (v172 : Value).ownBlock) v196 t195) ∧ (Kd.R (Kd.int .i8) 35 w' w.heap.size (fun k_ => some k_ ≠ (.slice Ao64 t190.length co64 : Value).ownBlock) s_.1 t203) ∧ (Kd.R (Kd.int .i64) 3 w' w.heap.size (fun k_ => some k_ ≠ (.slice (some ad199) t179.length co70 : Value).ownBlock) (.slice (some ad186) t175.length co58) t175) ∧ (Kd.R (Kd.int .i64) 3 w' w.heap.size (fun k_ => some k_ ≠ (.slice (some ad186) t175.length co58 : Value).ownBlock) (.slice (some ad199) t179.length co70) t179) ∧ (Kd.R (Kd.int .i32) 21 w' w.heap.size (fun k_ => some k_ ≠ (v196 : Value).ownBlock ∧ some k_ ≠ (v172 : Value).ownBlock) u14 x14_3) ∧ (Kd.S (Kd.slice 21 (Kd.int .i32)) 32 w' w.heap.size (fun k_ => some k_ ≠ (v196 : Value).ownBlock ∧ some k_ ≠ (u14 : Value).ownBlock ∧ some k_ ≠ (v172 : Value).ownBlock) v184 x15_3) ∧ (Kd.R (Kd.int .i32) 21 w' w.heap.size (fun k_ => some k_ ≠ (v196 : Value).ownBlock ∧ some k_ ≠ (u14 : Value).ownBlock) v172 t171) ∧ (w'.heap[gb167]? = some (.cells #[.int .i64 a0_0, .int .i64 a0_1, .slice A0_2 l0_2.length c0_2] 30 (0, 0))) ∧ (w'.heap[gb194]? = some (.cells #[.int .i64 t188, .int .i64 t189, .slice Ao64 t190.length co64] 30 (0, 0))) ∧ (w'.heap[s_.2]? = some (.cells #[.int .i64 0, .int .i64 0, .slice none 0 0] 30 (0, 0))) ∧ (w.heap.size ≤ s_.2) ∧ (w.heap.size ≤ s_.2) ∧ (gb167 ≠ s_.2) ∧ (s_.2 ≠ gb167) ∧ (gb194 ≠ s_.2) ∧ (s_.2 ≠ gb194) ∧ (Below w.heap.size w w')) ?_ ?_
       rotate_left
       ·
        intro hCont
        refine two_ (i := 10) (j := 14) (Ni := some 118) (Nj := some 21) #[true, true, true, true, true, true, true, true, true, true, true, false, false, false, false, false, false] #[true, true, true, true, true, true, true, true, true, true, false, false, false, false, true, false, false] rfl rfl rfl rfl (two_of HT_.out (by kernel_rfl)) (by decide) (by decide) (fun K hK => ?_) (fun K hK => ?_)
        ·
         skip
         refine goes_ Try.func21 (by kernel_rfl) rfl #[.agg #[.int .i64 a0_0, .int .i64 a0_1, .slice A0_2 l0_2.length c0_2], .int .i64 (rd t179 x16_3), .int .i64 (rd t179 (ji44))] (by rfl) rfl rfl (by (try simp only [l_4, l_5, l_6]); first | done | (simp only [hji44]; rfl) | rfl | (simp only [l_7, l_8]; rfl)) ?_
         with_reducible refine (matmul_Cols.calls k3 a0_0 a0_1 _ _ l0_2 (rd t179 x16_3) (rd t179 (ji44)) t201 t202 t203 t206 _ ?side1 ?side2 A51.out).mono ?_
         (case side1 => repeat (first | exact (Kd.C_below HR0_2.out HB.out) | (with_reducible refine Kd.C_alloc ?_ _) | (with_reducible refine Kd.C_drewN ?_ _) | (with_reducible refine Kd.C_drew ?_)))
         (case side2 => exact HC0_2.out)
         rintro e w71 ⟨v204, rfl, ho0, hb⟩
         have HS3_ := (hb.cell (World.block_lt_of_cell? _ _ (hHeld.2.2.2.1))).trans (hHeld.2.2.2.1)
         have HS4_ := (hb.cell (World.block_lt_of_cell? _ _ (hHeld.2.2.2.2))).trans (hHeld.2.2.2.2)
         refine ⟨_, rfl, ?_⟩
         have n0_ := Aside0.mk (Kd.R_below (by (with_reducible repeat (first | apply Kd.R_alloc | apply Kd.R_drewN | apply Kd.R_drew)); exact HO_7.out) hb)
         have n1_ := Aside0.mk (Kd.R_below (by (with_reducible repeat (first | apply Kd.R_alloc | apply Kd.R_drewN | apply Kd.R_drew)); exact HO_10.out) hb)
         have n2_ := Aside0.mk (Kd.R_below (by (with_reducible repeat (first | apply Kd.R_alloc | apply Kd.R_drewN | apply Kd.R_drew)); exact HO_12.out) hb)
         have n3_ := Aside0.mk (Kd.R_below (by (with_reducible repeat (first | apply Kd.R_alloc | apply Kd.R_drewN | apply Kd.R_drew)); exact HO_14.out) hb)
         have n4_ := Aside0.mk (Kd.S_below (by (with_reducible repeat (first | apply Kd.S_alloc | apply Kd.S_drewN | apply Kd.S_drew)); exact HO_15.out) hb)
         have n5_ := Aside0.mk (Kd.R_elder' (by (with_reducible repeat (first | apply Kd.R_alloc | apply Kd.R_drewN | apply Kd.R_drew)); exact HO192.out) (Kd.R_base ho0) hb)
         have n6_ := Aside0.mk (Kd.R_below (by (with_reducible repeat (first | apply Kd.R_alloc | apply Kd.R_drewN | apply Kd.R_drew)); exact HO197.out) hb)
         have n7_ := Aside0.mk (Kd.R_lower (Kd.R_new' ho0 (Kd.R_lt (by (with_reducible repeat (first | apply Kd.R_alloc | apply Kd.R_drewN | apply Kd.R_drew)); exact HO192.out))) (below_size (by repeat (first | (with_reducible first | exact HB.out | apply b_a | apply b_n | apply b_d | refine b_s ?_ GE167.out | refine b_s ?_ GE194.out) | exact HB.out))))
         have n8_ := Aside0.mk (blk_below (g := gb167) (o := .cells #[.int .i64 a0_0, .int .i64 a0_1, .slice A0_2 l0_2.length c0_2] 30 (0, 0)) (by (with_reducible repeat (first | refine k_n ?_ _ | refine k_d ?_ | refine k_a ?_ _)); exact BK167.out) hb)
         have n9_ := Aside0.mk (blk_below (g := gb194) (o := .cells #[.int .i64 t188, .int .i64 t189, .slice Ao64 t190.length co64] 30 (0, 0)) (by (with_reducible repeat (first | refine k_n ?_ _ | refine k_d ?_ | refine k_a ?_ _)); exact BK194.out) hb)
         have n10_ := Aside0.mk (below_step (by repeat (first | (with_reducible first | exact HB.out | apply b_a | apply b_n | apply b_d | refine b_s ?_ GE167.out | refine b_s ?_ GE194.out) | exact HB.out)) hb)
         clear HO_7
         clear HO_10
         clear HO_12
         clear HO_14
         clear HO_15
         clear HO192
         clear HO197
         clear BK167
         clear BK194
         clear HB
         have HO_7 := n0_
         have HO_10 := n1_
         have HO_12 := n2_
         have HO_14 := n3_
         have HO_15 := n4_
         have HO192 := n5_
         have HO197 := n6_
         have HO205 := n7_
         have BK167 := n8_
         have BK194 := n9_
         have HB := n10_
         clear n0_ n1_ n2_ n3_ n4_ n5_ n6_ n7_ n8_ n9_ n10_
         (try clear hb)
         (try clear hb2)
         (try clear hk)
         (try clear hi)
         (try clear ho0)
         refine hK.out _ _ ⟨(blk_cell BK167.out 0).trans rfl, (blk_cell BK167.out 1).trans rfl, (blk_cell BK167.out 2).trans rfl, HS3_, HS4_⟩ (fun hHeld => ?_)
         clear hK K
         refine norm_ (a' := ?_) ?_ ?_
         rotate_left
         ·
          show Act.put _ (some 118) _ = _
          simp only [Act.put, l_1, l_2, l_3, i64_w, i32_w]
          rfl
         refine pure_ (i := 11) (N := some 107) (v := ?_) (a' := ?_) #[true, true, true, true, true, true, true, true, true, true, true, true, false, false, false, false, false] rfl rfl (any_of HT_.out (by kernel_rfl)) (fun _ _ _ h => h) (Or.inl ⟨by rfl, ?_⟩) ?_ ?_
         rotate_left
         ·
          intro w'
          go_simp
          with_reducible rfl
         rotate_left
         ·
          simp only [Act.put, l_1, l_2, l_3, i64_w, i32_w]
          rfl
         refine pure_ (i := 12) (N := some 119) (v := ?_) (a' := ?_) #[true, true, true, true, true, true, true, true, true, true, true, true, true, false, false, false, false] rfl rfl (any_of HT_.out (by kernel_rfl)) (fun _ _ _ h => h) (Or.inl ⟨by rfl, ?_⟩) ?_ ?_
         rotate_left
         ·
          intro w'
          go_simp
          with_reducible rfl
         rotate_left
         ·
          simp only [Act.put, l_1, l_2, l_3, i64_w, i32_w]
          rfl
         refine pure_ (i := 13) (N := some 120) (v := ?_) (a' := ?_) #[true, true, true, true, true, true, true, true, true, true, true, true, true, true, false, false, false] rfl rfl (any_of HT_.out (by kernel_rfl)) (fun _ _ _ h => h) (Or.inl ⟨by rfl, ?_⟩) ?_ ?_
         rotate_left
         ·
          intro w'
          go_simp
          with_reducible rfl
         rotate_left
         ·
          simp only [Act.put, l_1, l_2, l_3, i64_w, i32_w]
          rfl
         refine one_ (i := 14) (N := some 21) #[true, true, true, true, true, true, true, true, true, true, true, true, true, true, true, false, false] rfl rfl (one_of HT_.out (by kernel_rfl)) (by decide) (fun K hK => ?_)
         refine box_step ?hg (N := 21) ?hd (cs := #[.int .i64 0, .int .i64 0, .slice none 0 0]) (t := 30) ?hr ?_; (case hd => rfl); (case hg => rfl); (case hr => first | (go_simp; done) | (go_simp; rfl))
         intro gb207 hg w72 hbox hb
         have HS3_ := (hb.cell (World.block_lt_of_cell? _ _ (hHeld.2.2.2.1))).trans (hHeld.2.2.2.1)
         have HS4_ := (hb.cell (World.block_lt_of_cell? _ _ (hHeld.2.2.2.2))).trans (hHeld.2.2.2.2)
         have n0_ := Aside0.mk (Kd.R_below (by (with_reducible repeat (first | apply Kd.R_alloc | apply Kd.R_drewN | apply Kd.R_drew)); exact HO_7.out) hb)
         have n1_ := Aside0.mk (Kd.R_below (by (with_reducible repeat (first | apply Kd.R_alloc | apply Kd.R_drewN | apply Kd.R_drew)); exact HO_10.out) hb)
         have n2_ := Aside0.mk (Kd.R_below (by (with_reducible repeat (first | apply Kd.R_alloc | apply Kd.R_drewN | apply Kd.R_drew)); exact HO_12.out) hb)
         have n3_ := Aside0.mk (Kd.R_below (by (with_reducible repeat (first | apply Kd.R_alloc | apply Kd.R_drewN | apply Kd.R_drew)); exact HO_14.out) hb)
         have n4_ := Aside0.mk (Kd.S_below (by (with_reducible repeat (first | apply Kd.S_alloc | apply Kd.S_drewN | apply Kd.S_drew)); exact HO_15.out) hb)
         have n5_ := Aside0.mk (Kd.R_below (by (with_reducible repeat (first | apply Kd.R_alloc | apply Kd.R_drewN | apply Kd.R_drew)); exact HO192.out) hb)
         have n6_ := Aside0.mk (Kd.R_below (by (with_reducible repeat (first | apply Kd.R_alloc | apply Kd.R_drewN | apply Kd.R_drew)); exact HO197.out) hb)
         have n7_ := Aside0.mk (Kd.R_below (by (with_reducible repeat (first | apply Kd.R_alloc | apply Kd.R_drewN | apply Kd.R_drew)); exact HO205.out) hb)
         have n8_ := Aside0.mk (blk_below (g := gb167) (o := .cells #[.int .i64 a0_0, .int .i64 a0_1, .slice A0_2 l0_2.length c0_2] 30 (0, 0)) (by (with_reducible repeat (first | refine k_n ?_ _ | refine k_d ?_ | refine k_a ?_ _)); exact BK167.out) hb)
         have n9_ := Aside0.mk (blk_below (g := gb194) (o := .cells #[.int .i64 t188, .int .i64 t189, .slice Ao64 t190.length co64] 30 (0, 0)) (by (with_reducible repeat (first | refine k_n ?_ _ | refine k_d ?_ | refine k_a ?_ _)); exact BK194.out) hb)
         have n10_ := Aside0.mk (below_step (by repeat (first | (with_reducible first | exact HB.out | apply b_a | apply b_n | apply b_d | refine b_s ?_ GE167.out | refine b_s ?_ GE194.out) | exact HB.out)) hb)
         have n11_ := Aside0.mk (hbox)
         have n12_ := Aside0.mk ((by rw [hg]; exact (below_size (by repeat (first | (with_reducible first | exact HB.out | apply b_a | apply b_n | apply b_d | refine b_s ?_ GE167.out | refine b_s ?_ GE194.out) | exact HB.out))) : w.heap.size ≤ gb207))
         have n13_ := Aside0.mk ((by rw [hg]; exact (below_size (by repeat (first | (with_reducible first | exact HB.out | apply b_a | apply b_n | apply b_d | refine b_s ?_ GE167.out | refine b_s ?_ GE194.out) | exact HB.out))) : w.heap.size ≤ gb207))
         have n14_ := Aside0.mk ((by rw [hg]; exact Nat.ne_of_lt (blk_lt (g := gb167) (o := .cells #[.int .i64 a0_0, .int .i64 a0_1, .slice A0_2 l0_2.length c0_2] 30 (0, 0)) (by (with_reducible repeat (first | refine k_n ?_ _ | refine k_d ?_ | refine k_a ?_ _)); exact BK167.out)) : gb167 ≠ gb207))
         have n15_ := Aside0.mk ((by rw [hg]; exact Nat.ne_of_gt (blk_lt (g := gb167) (o := .cells #[.int .i64 a0_0, .int .i64 a0_1, .slice A0_2 l0_2.length c0_2] 30 (0, 0)) (by (with_reducible repeat (first | refine k_n ?_ _ | refine k_d ?_ | refine k_a ?_ _)); exact BK167.out)) : gb207 ≠ gb167))
         have n16_ := Aside0.mk ((by rw [hg]; exact Nat.ne_of_lt (blk_lt (g := gb194) (o := .cells #[.int .i64 t188, .int .i64 t189, .slice Ao64 t190.length co64] 30 (0, 0)) (by (with_reducible repeat (first | refine k_n ?_ _ | refine k_d ?_ | refine k_a ?_ _)); exact BK194.out)) : gb194 ≠ gb207))
         have n17_ := Aside0.mk ((by rw [hg]; exact Nat.ne_of_gt (blk_lt (g := gb194) (o := .cells #[.int .i64 t188, .int .i64 t189, .slice Ao64 t190.length co64] 30 (0, 0)) (by (with_reducible repeat (first | refine k_n ?_ _ | refine k_d ?_ | refine k_a ?_ _)); exact BK194.out)) : gb207 ≠ gb194))
         clear HO_7
         clear HO_10
         clear HO_12
         clear HO_14
         clear HO_15
         clear HO192
         clear HO197
         clear HO205
         clear BK167
         clear BK194
         clear HB
         have HO_7 := n0_
         have HO_10 := n1_
         have HO_12 := n2_
         have HO_14 := n3_
         have HO_15 := n4_
         have HO192 := n5_
         have HO197 := n6_
         have HO205 := n7_
         have BK167 := n8_
         have BK194 := n9_
         have HB := n10_
         have BK207 := n11_
         have GW207 := n12_
         have GE207 := n13_
         have NB167_207 := n14_
         have NB207_167 := n15_
         have NB194_207 := n16_
         have NB207_194 := n17_
         clear n0_ n1_ n2_ n3_ n4_ n5_ n6_ n7_ n8_ n9_ n10_ n11_ n12_ n13_ n14_ n15_ n16_ n17_
         clear hb hbox hg
         refine hK.out _ _ ⟨(blk_cell BK167.out 0).trans rfl, (blk_cell BK167.out 1).trans rfl, (blk_cell BK167.out 2).trans rfl, HS3_, HS4_⟩ (fun hHeld => ?_)
         clear hK K
         refine norm_ (a' := ?_) ?_ ?_
         rotate_left
         ·
          show Act.put _ (some 21) _ = _
          simp only [Act.put, l_1, l_2, l_3, i64_w, i32_w]
          rfl
         exact norm_ (by simp only [putAll, Act.put, l_1, l_2, l_3]) (hCont (v204, gb207) _ ⟨hHeld, (by (with_reducible repeat (first | apply Kd.R_alloc | apply Kd.R_drewN | apply Kd.R_drew)); exact Kd.R_mono HO192.out (fun _ hk => hk.2)), (by (with_reducible repeat (first | apply Kd.R_alloc | apply Kd.R_drewN | apply Kd.R_drew)); exact Kd.R_mono HO197.out (fun _ hk => ⟨hk.2, hk.1.2⟩)), (by (with_reducible repeat (first | apply Kd.R_alloc | apply Kd.R_drewN | apply Kd.R_drew)); exact Kd.R_mono HO205.out (fun _ hk => hk.2)), (by (with_reducible repeat (first | apply Kd.R_alloc | apply Kd.R_drewN | apply Kd.R_drew)); exact HO_10.out), (by (with_reducible repeat (first | apply Kd.R_alloc | apply Kd.R_drewN | apply Kd.R_drew)); exact HO_12.out), (by (with_reducible repeat (first | apply Kd.R_alloc | apply Kd.R_drewN | apply Kd.R_drew)); exact Kd.R_mono HO_14.out (fun _ hk => ⟨hk.2, hk.1⟩)), (by (with_reducible repeat (first | apply Kd.S_alloc | apply Kd.S_drewN | apply Kd.S_drew)); exact Kd.S_mono HO_15.out (fun _ hk => ⟨hk.2, ⟨hk.1.1, hk.1.2⟩⟩)), (by (with_reducible repeat (first | apply Kd.R_alloc | apply Kd.R_drewN | apply Kd.R_drew)); exact Kd.R_mono HO_7.out (fun _ hk => ⟨hk.2, hk.1⟩)), (by (with_reducible repeat (first | refine k_n ?_ _ | refine k_d ?_ | refine k_a ?_ _)); exact BK167.out), (by (with_reducible repeat (first | refine k_n ?_ _ | refine k_d ?_ | refine k_a ?_ _)); exact BK194.out), (by (with_reducible repeat (first | refine k_n ?_ _ | refine k_d ?_ | refine k_a ?_ _)); exact BK207.out), GW207.out, GE207.out, NB167_207.out, NB207_167.out, NB194_207.out, NB207_194.out, (by repeat (first | (with_reducible first | exact HB.out | apply b_a | apply b_n | apply b_d | refine b_s ?_ GE167.out | refine b_s ?_ GE194.out | refine b_s ?_ GE207.out) | exact HB.out))⟩)
        ·
         skip
         refine box_step ?hg (N := 21) ?hd (cs := #[.int .i64 0, .int .i64 0, .slice none 0 0]) (t := 30) ?hr ?_; (case hd => rfl); (case hg => rfl); (case hr => first | (go_simp; done) | (go_simp; rfl))
         intro gb207 hg w71 hbox hb
         have HS3_ := (hb.cell (World.block_lt_of_cell? _ _ (hHeld.2.2.2.1))).trans (hHeld.2.2.2.1)
         have HS4_ := (hb.cell (World.block_lt_of_cell? _ _ (hHeld.2.2.2.2))).trans (hHeld.2.2.2.2)
         have n0_ := Aside0.mk (Kd.R_below (by (with_reducible repeat (first | apply Kd.R_alloc | apply Kd.R_drewN | apply Kd.R_drew)); exact HO_7.out) hb)
         have n1_ := Aside0.mk (Kd.R_below (by (with_reducible repeat (first | apply Kd.R_alloc | apply Kd.R_drewN | apply Kd.R_drew)); exact HO_10.out) hb)
         have n2_ := Aside0.mk (Kd.R_below (by (with_reducible repeat (first | apply Kd.R_alloc | apply Kd.R_drewN | apply Kd.R_drew)); exact HO_12.out) hb)
         have n3_ := Aside0.mk (Kd.R_below (by (with_reducible repeat (first | apply Kd.R_alloc | apply Kd.R_drewN | apply Kd.R_drew)); exact HO_14.out) hb)
         have n4_ := Aside0.mk (Kd.S_below (by (with_reducible repeat (first | apply Kd.S_alloc | apply Kd.S_drewN | apply Kd.S_drew)); exact HO_15.out) hb)
         have n5_ := Aside0.mk (Kd.R_below (by (with_reducible repeat (first | apply Kd.R_alloc | apply Kd.R_drewN | apply Kd.R_drew)); exact HO192.out) hb)
         have n6_ := Aside0.mk (Kd.R_below (by (with_reducible repeat (first | apply Kd.R_alloc | apply Kd.R_drewN | apply Kd.R_drew)); exact HO197.out) hb)
         have n7_ := Aside0.mk (blk_below (g := gb167) (o := .cells #[.int .i64 a0_0, .int .i64 a0_1, .slice A0_2 l0_2.length c0_2] 30 (0, 0)) (by (with_reducible repeat (first | refine k_n ?_ _ | refine k_d ?_ | refine k_a ?_ _)); exact BK167.out) hb)
         have n8_ := Aside0.mk (blk_below (g := gb194) (o := .cells #[.int .i64 t188, .int .i64 t189, .slice Ao64 t190.length co64] 30 (0, 0)) (by (with_reducible repeat (first | refine k_n ?_ _ | refine k_d ?_ | refine k_a ?_ _)); exact BK194.out) hb)
         have n9_ := Aside0.mk (below_step (by repeat (first | (with_reducible first | exact HB.out | apply b_a | apply b_n | apply b_d | refine b_s ?_ GE167.out | refine b_s ?_ GE194.out) | exact HB.out)) hb)
         have n10_ := Aside0.mk (hbox)
         have n11_ := Aside0.mk ((by rw [hg]; exact (below_size (by repeat (first | (with_reducible first | exact HB.out | apply b_a | apply b_n | apply b_d | refine b_s ?_ GE167.out | refine b_s ?_ GE194.out) | exact HB.out))) : w.heap.size ≤ gb207))
         have n12_ := Aside0.mk ((by rw [hg]; exact (below_size (by repeat (first | (with_reducible first | exact HB.out | apply b_a | apply b_n | apply b_d | refine b_s ?_ GE167.out | refine b_s ?_ GE194.out) | exact HB.out))) : w.heap.size ≤ gb207))
         have n13_ := Aside0.mk ((by rw [hg]; exact Nat.ne_of_lt (blk_lt (g := gb167) (o := .cells #[.int .i64 a0_0, .int .i64 a0_1, .slice A0_2 l0_2.length c0_2] 30 (0, 0)) (by (with_reducible repeat (first | refine k_n ?_ _ | refine k_d ?_ | refine k_a ?_ _)); exact BK167.out)) : gb167 ≠ gb207))
         have n14_ := Aside0.mk ((by rw [hg]; exact Nat.ne_of_gt (blk_lt (g := gb167) (o := .cells #[.int .i64 a0_0, .int .i64 a0_1, .slice A0_2 l0_2.length c0_2] 30 (0, 0)) (by (with_reducible repeat (first | refine k_n ?_ _ | refine k_d ?_ | refine k_a ?_ _)); exact BK167.out)) : gb207 ≠ gb167))
         have n15_ := Aside0.mk ((by rw [hg]; exact Nat.ne_of_lt (blk_lt (g := gb194) (o := .cells #[.int .i64 t188, .int .i64 t189, .slice Ao64 t190.length co64] 30 (0, 0)) (by (with_reducible repeat (first | refine k_n ?_ _ | refine k_d ?_ | refine k_a ?_ _)); exact BK194.out)) : gb194 ≠ gb207))
         have n16_ := Aside0.mk ((by rw [hg]; exact Nat.ne_of_gt (blk_lt (g := gb194) (o := .cells #[.int .i64 t188, .int .i64 t189, .slice Ao64 t190.length co64] 30 (0, 0)) (by (with_reducible repeat (first | refine k_n ?_ _ | refine k_d ?_ | refine k_a ?_ _)); exact BK194.out)) : gb207 ≠ gb194))
         clear HO_7
         clear HO_10
         clear HO_12
         clear HO_14
         clear HO_15
         clear HO192
         clear HO197
         clear BK167
         clear BK194
         clear HB
         have HO_7 := n0_
         have HO_10 := n1_
         have HO_12 := n2_
         have HO_14 := n3_
         have HO_15 := n4_
         have HO192 := n5_
         have HO197 := n6_
         have BK167 := n7_
         have BK194 := n8_
         have HB := n9_
         have BK207 := n10_
         have GW207 := n11_
         have GE207 := n12_
         have NB167_207 := n13_
         have NB207_167 := n14_
         have NB194_207 := n15_
         have NB207_194 := n16_
         clear n0_ n1_ n2_ n3_ n4_ n5_ n6_ n7_ n8_ n9_ n10_ n11_ n12_ n13_ n14_ n15_ n16_
         clear hb hbox hg
         refine hK.out _ _ ⟨(blk_cell BK167.out 0).trans rfl, (blk_cell BK167.out 1).trans rfl, (blk_cell BK167.out 2).trans rfl, HS3_, HS4_⟩ (fun hHeld => ?_)
         clear hK K
         refine norm_ (a' := ?_) ?_ ?_
         rotate_left
         ·
          show Act.put _ (some 21) _ = _
          simp only [Act.put, l_1, l_2, l_3, i64_w, i32_w]
          rfl
         refine one_ (i := 10) (N := some 118) #[true, true, true, true, true, true, true, true, true, true, true, false, false, false, true, false, false] rfl rfl (one_of HT_.out (by kernel_rfl)) (by decide) (fun K hK => ?_)
         refine goes_ Try.func21 (by kernel_rfl) rfl #[.agg #[.int .i64 a0_0, .int .i64 a0_1, .slice A0_2 l0_2.length c0_2], .int .i64 (rd t179 x16_3), .int .i64 (rd t179 (ji44))] (by rfl) rfl rfl (by (try simp only [l_4, l_5, l_6]); first | done | (simp only [hji44]; rfl) | rfl | (simp only [l_7, l_8]; rfl)) ?_
         with_reducible refine (matmul_Cols.calls k3 a0_0 a0_1 _ _ l0_2 (rd t179 x16_3) (rd t179 (ji44)) t201 t202 t203 t206 _ ?side1 ?side2 A51.out).mono ?_
         (case side1 => repeat (first | exact (Kd.C_below HR0_2.out HB.out) | (with_reducible refine Kd.C_alloc ?_ _) | (with_reducible refine Kd.C_drewN ?_ _) | (with_reducible refine Kd.C_drew ?_)))
         (case side2 => exact HC0_2.out)
         rintro e w72 ⟨v204, rfl, ho0, hb⟩
         have HS3_ := (hb.cell (World.block_lt_of_cell? _ _ (hHeld.2.2.2.1))).trans (hHeld.2.2.2.1)
         have HS4_ := (hb.cell (World.block_lt_of_cell? _ _ (hHeld.2.2.2.2))).trans (hHeld.2.2.2.2)
         refine ⟨_, rfl, ?_⟩
         have n0_ := Aside0.mk (Kd.R_below (by (with_reducible repeat (first | apply Kd.R_alloc | apply Kd.R_drewN | apply Kd.R_drew)); exact HO_7.out) hb)
         have n1_ := Aside0.mk (Kd.R_below (by (with_reducible repeat (first | apply Kd.R_alloc | apply Kd.R_drewN | apply Kd.R_drew)); exact HO_10.out) hb)
         have n2_ := Aside0.mk (Kd.R_below (by (with_reducible repeat (first | apply Kd.R_alloc | apply Kd.R_drewN | apply Kd.R_drew)); exact HO_12.out) hb)
         have n3_ := Aside0.mk (Kd.R_below (by (with_reducible repeat (first | apply Kd.R_alloc | apply Kd.R_drewN | apply Kd.R_drew)); exact HO_14.out) hb)
         have n4_ := Aside0.mk (Kd.S_below (by (with_reducible repeat (first | apply Kd.S_alloc | apply Kd.S_drewN | apply Kd.S_drew)); exact HO_15.out) hb)
         have n5_ := Aside0.mk (Kd.R_elder' (by (with_reducible repeat (first | apply Kd.R_alloc | apply Kd.R_drewN | apply Kd.R_drew)); exact HO192.out) (Kd.R_base ho0) hb)
         have n6_ := Aside0.mk (Kd.R_below (by (with_reducible repeat (first | apply Kd.R_alloc | apply Kd.R_drewN | apply Kd.R_drew)); exact HO197.out) hb)
         have n7_ := Aside0.mk (Kd.R_lower (Kd.R_new' ho0 (Kd.R_lt (by (with_reducible repeat (first | apply Kd.R_alloc | apply Kd.R_drewN | apply Kd.R_drew)); exact HO192.out))) (below_size (by repeat (first | (with_reducible first | exact HB.out | apply b_a | apply b_n | apply b_d | refine b_s ?_ GE167.out | refine b_s ?_ GE194.out | refine b_s ?_ GE207.out) | exact HB.out))))
         have n8_ := Aside0.mk (blk_below (g := gb167) (o := .cells #[.int .i64 a0_0, .int .i64 a0_1, .slice A0_2 l0_2.length c0_2] 30 (0, 0)) (by (with_reducible repeat (first | refine k_n ?_ _ | refine k_d ?_ | refine k_a ?_ _)); exact BK167.out) hb)
         have n9_ := Aside0.mk (blk_below (g := gb194) (o := .cells #[.int .i64 t188, .int .i64 t189, .slice Ao64 t190.length co64] 30 (0, 0)) (by (with_reducible repeat (first | refine k_n ?_ _ | refine k_d ?_ | refine k_a ?_ _)); exact BK194.out) hb)
         have n10_ := Aside0.mk (blk_below (g := gb207) (o := .cells #[.int .i64 0, .int .i64 0, .slice none 0 0] 30 (0, 0)) (by (with_reducible repeat (first | refine k_n ?_ _ | refine k_d ?_ | refine k_a ?_ _)); exact BK207.out) hb)
         have n11_ := Aside0.mk (below_step (by repeat (first | (with_reducible first | exact HB.out | apply b_a | apply b_n | apply b_d | refine b_s ?_ GE167.out | refine b_s ?_ GE194.out | refine b_s ?_ GE207.out) | exact HB.out)) hb)
         clear HO_7
         clear HO_10
         clear HO_12
         clear HO_14
         clear HO_15
         clear HO192
         clear HO197
         clear BK167
         clear BK194
         clear BK207
         clear HB
         have HO_7 := n0_
         have HO_10 := n1_
         have HO_12 := n2_
         have HO_14 := n3_
         have HO_15 := n4_
         have HO192 := n5_
         have HO197 := n6_
         have HO205 := n7_
         have BK167 := n8_
         have BK194 := n9_
         have BK207 := n10_
         have HB := n11_
         clear n0_ n1_ n2_ n3_ n4_ n5_ n6_ n7_ n8_ n9_ n10_ n11_
         (try clear hb)
         (try clear hb2)
         (try clear hk)
         (try clear hi)
         (try clear ho0)
         refine hK.out _ _ ⟨(blk_cell BK167.out 0).trans rfl, (blk_cell BK167.out 1).trans rfl, (blk_cell BK167.out 2).trans rfl, HS3_, HS4_⟩ (fun hHeld => ?_)
         clear hK K
         refine norm_ (a' := ?_) ?_ ?_
         rotate_left
         ·
          show Act.put _ (some 118) _ = _
          simp only [Act.put, l_1, l_2, l_3, i64_w, i32_w]
          rfl
         refine pure_ (i := 11) (N := some 107) (v := ?_) (a' := ?_) #[true, true, true, true, true, true, true, true, true, true, true, true, false, false, true, false, false] rfl rfl (any_of HT_.out (by kernel_rfl)) (fun _ _ _ h => h) (Or.inl ⟨by rfl, ?_⟩) ?_ ?_
         rotate_left
         ·
          intro w'
          go_simp
          with_reducible rfl
         rotate_left
         ·
          simp only [Act.put, l_1, l_2, l_3, i64_w, i32_w]
          rfl
         refine pure_ (i := 12) (N := some 119) (v := ?_) (a' := ?_) #[true, true, true, true, true, true, true, true, true, true, true, true, true, false, true, false, false] rfl rfl (any_of HT_.out (by kernel_rfl)) (fun _ _ _ h => h) (Or.inl ⟨by rfl, ?_⟩) ?_ ?_
         rotate_left
         ·
          intro w'
          go_simp
          with_reducible rfl
         rotate_left
         ·
          simp only [Act.put, l_1, l_2, l_3, i64_w, i32_w]
          rfl
         refine pure_ (i := 13) (N := some 120) (v := ?_) (a' := ?_) #[true, true, true, true, true, true, true, true, true, true, true, true, true, true, true, false, false] rfl rfl (any_of HT_.out (by kernel_rfl)) (fun _ _ _ h => h) (Or.inl ⟨by rfl, ?_⟩) ?_ ?_
         rotate_left
         ·
          intro w'
          go_simp
          with_reducible rfl
         rotate_left
         ·
          simp only [Act.put, l_1, l_2, l_3, i64_w, i32_w]
          rfl
         exact norm_ (by simp only [putAll, Act.put, l_1, l_2, l_3]) (hCont (v204, gb207) _ ⟨hHeld, (by (with_reducible repeat (first | apply Kd.R_alloc | apply Kd.R_drewN | apply Kd.R_drew)); exact Kd.R_mono HO192.out (fun _ hk => hk.2)), (by (with_reducible repeat (first | apply Kd.R_alloc | apply Kd.R_drewN | apply Kd.R_drew)); exact Kd.R_mono HO197.out (fun _ hk => ⟨hk.2, hk.1.2⟩)), (by (with_reducible repeat (first | apply Kd.R_alloc | apply Kd.R_drewN | apply Kd.R_drew)); exact Kd.R_mono HO205.out (fun _ hk => hk.2)), (by (with_reducible repeat (first | apply Kd.R_alloc | apply Kd.R_drewN | apply Kd.R_drew)); exact HO_10.out), (by (with_reducible repeat (first | apply Kd.R_alloc | apply Kd.R_drewN | apply Kd.R_drew)); exact HO_12.out), (by (with_reducible repeat (first | apply Kd.R_alloc | apply Kd.R_drewN | apply Kd.R_drew)); exact Kd.R_mono HO_14.out (fun _ hk => ⟨hk.2, hk.1⟩)), (by (with_reducible repeat (first | apply Kd.S_alloc | apply Kd.S_drewN | apply Kd.S_drew)); exact Kd.S_mono HO_15.out (fun _ hk => ⟨hk.2, ⟨hk.1.1, hk.1.2⟩⟩)), (by (with_reducible repeat (first | apply Kd.R_alloc | apply Kd.R_drewN | apply Kd.R_drew)); exact Kd.R_mono HO_7.out (fun _ hk => ⟨hk.2, hk.1⟩)), (by (with_reducible repeat (first | refine k_n ?_ _ | refine k_d ?_ | refine k_a ?_ _)); exact BK167.out), (by (with_reducible repeat (first | refine k_n ?_ _ | refine k_d ?_ | refine k_a ?_ _)); exact BK194.out), (by (with_reducible repeat (first | refine k_n ?_ _ | refine k_d ?_ | refine k_a ?_ _)); exact BK207.out), GW207.out, GE207.out, NB167_207.out, NB207_167.out, NB194_207.out, NB207_194.out, (by repeat (first | (with_reducible first | exact HB.out | apply b_a | apply b_n | apply b_d | refine b_s ?_ GE167.out | refine b_s ?_ GE194.out | refine b_s ?_ GE207.out) | exact HB.out))⟩)
       rintro ⟨v204, gb207⟩ w73 ⟨hS_, h0_, h1_, h2_, h3_, h4_, h5_, h6_, h7_, h8_, h9_, h10_, h11_, h12_, h13_, h14_, h15_, h16_, h17_⟩
       have n0_ : Aside0 (Kd.R (Kd.int .i8) 35 w73 w.heap.size (fun k_ => some k_ ≠ (v204 : Value).ownBlock) (.slice Ao64 t190.length co64) t190) := ⟨h0_⟩
       have n1_ : Aside0 (Kd.R (Kd.int .i32) 21 w73 w.heap.size (fun k_ => some k_ ≠ (u14 : Value).ownBlock ∧ some k_ ≠ (v172 : Value).ownBlock) v196 t195) := ⟨h1_⟩
       have n2_ : Aside0 (Kd.R (Kd.int .i8) 35 w73 w.heap.size (fun k_ => some k_ ≠ (.slice Ao64 t190.length co64 : Value).ownBlock) v204 t203) := ⟨h2_⟩
       have n3_ : Aside0 (Kd.R (Kd.int .i64) 3 w73 w.heap.size (fun k_ => some k_ ≠ (.slice (some ad199) t179.length co70 : Value).ownBlock) (.slice (some ad186) t175.length co58) t175) := ⟨h3_⟩
       have n4_ : Aside0 (Kd.R (Kd.int .i64) 3 w73 w.heap.size (fun k_ => some k_ ≠ (.slice (some ad186) t175.length co58 : Value).ownBlock) (.slice (some ad199) t179.length co70) t179) := ⟨h4_⟩
       have n5_ : Aside0 (Kd.R (Kd.int .i32) 21 w73 w.heap.size (fun k_ => some k_ ≠ (v196 : Value).ownBlock ∧ some k_ ≠ (v172 : Value).ownBlock) u14 x14_3) := ⟨h5_⟩
       have n6_ : Aside0 (Kd.S (Kd.slice 21 (Kd.int .i32)) 32 w73 w.heap.size (fun k_ => some k_ ≠ (v196 : Value).ownBlock ∧ some k_ ≠ (u14 : Value).ownBlock ∧ some k_ ≠ (v172 : Value).ownBlock) v184 x15_3) := ⟨h6_⟩
       have n7_ : Aside0 (Kd.R (Kd.int .i32) 21 w73 w.heap.size (fun k_ => some k_ ≠ (v196 : Value).ownBlock ∧ some k_ ≠ (u14 : Value).ownBlock) v172 t171) := ⟨h7_⟩
       have n8_ : Aside0 (w73.heap[gb167]? = some (.cells #[.int .i64 a0_0, .int .i64 a0_1, .slice A0_2 l0_2.length c0_2] 30 (0, 0))) := ⟨h8_⟩
       have n9_ : Aside0 (w73.heap[gb194]? = some (.cells #[.int .i64 t188, .int .i64 t189, .slice Ao64 t190.length co64] 30 (0, 0))) := ⟨h9_⟩
       have n10_ : Aside0 (w73.heap[gb207]? = some (.cells #[.int .i64 0, .int .i64 0, .slice none 0 0] 30 (0, 0))) := ⟨h10_⟩
       have n11_ : Aside0 (w.heap.size ≤ gb207) := ⟨h11_⟩
       have n12_ : Aside0 (w.heap.size ≤ gb207) := ⟨h12_⟩
       have n13_ : Aside0 (gb167 ≠ gb207) := ⟨h13_⟩
       have n14_ : Aside0 (gb207 ≠ gb167) := ⟨h14_⟩
       have n15_ : Aside0 (gb194 ≠ gb207) := ⟨h15_⟩
       have n16_ : Aside0 (gb207 ≠ gb194) := ⟨h16_⟩
       have n17_ : Aside0 (Below w.heap.size w w73) := ⟨h17_⟩
       clear HO_7
       clear HO_10
       clear HO_12
       clear HO_14
       clear HO_15
       clear HO192
       clear HO197
       clear BK167
       clear BK194
       clear HB
       clear h0_ h1_ h2_ h3_ h4_ h5_ h6_ h7_ h8_ h9_ h10_ h11_ h12_ h13_ h14_ h15_ h16_ h17_
       have HO192 := n0_
       have HO197 := n1_
       have HO205 := n2_
       have HO_10 := n3_
       have HO_12 := n4_
       have HO_14 := n5_
       have HO_15 := n6_
       have HO_7 := n7_
       have BK167 := n8_
       have BK194 := n9_
       have BK207 := n10_
       have GW207 := n11_
       have GE207 := n12_
       have NB167_207 := n13_
       have NB207_167 := n14_
       have NB194_207 := n15_
       have NB207_194 := n16_
       have HB := n17_
       clear n0_ n1_ n2_ n3_ n4_ n5_ n6_ n7_ n8_ n9_ n10_ n11_ n12_ n13_ n14_ n15_ n16_ n17_
       have hHeld : w73.cell? ⟨gb167, 0, none⟩ = some (.int .i64 a0_0) ∧ w73.cell? ⟨gb167, 1, none⟩ = some (.int .i64 a0_1) ∧ w73.cell? ⟨gb167, 2, none⟩ = some (.slice A0_2 l0_2.length c0_2) ∧ w73.cell? (ad199.add (x16_3).toNat) = some (.int .i64 (rd t179 x16_3)) ∧ w73.cell? (ad199.add ((ji44)).toNat) = some (.int .i64 (rd t179 (ji44))) := hS_
       obtain ⟨Ao76, co76, eo76⟩ := Kd.R_slice HO205.out
       (first | subst eo76 | (injection eo76 with f1_ f2_ f3_; have f4_ := f1_.symm; have f5_ := f3_.symm; clear f1_ f2_ f3_; subst f4_; subst f5_))
       refine norm_ (a' := ?_) ?_ ?_
       rotate_left
       ·
        simp only [putAll, Act.put, l_1, l_2, l_3]
        rfl
       refine one_ (i := 15) (N := none) #[true, true, true, true, true, true, true, true, true, true, true, true, true, true, true, true, false] rfl rfl (one_of HT_.out (by kernel_rfl)) (by decide) (fun K hK => ?_)
       have hs74 : w73.cell? ⟨gb207, 0, none⟩ = some (.int .i64 0) := (blk_cell BK207.out 0).trans rfl
       have hfs74 := blk_frozen BK207.out 0
       have hns74_0 := NB167_207.out
       have hns74_1 := NB194_207.out
       have hms74_0 := NB207_167.out
       have hms74_1 := NB207_194.out
       have hs75 : w73.cell? ⟨gb207, 1, none⟩ = some (.int .i64 0) := (blk_cell BK207.out 1).trans rfl
       have hfs75 := blk_frozen BK207.out 1
       have hns75_0 := NB167_207.out
       have hns75_1 := NB194_207.out
       have hms75_0 := NB207_167.out
       have hms75_1 := NB207_194.out
       have hs77 : w73.cell? ⟨gb207, 2, none⟩ = some (.slice none 0 0) := (blk_cell BK207.out 2).trans rfl
       have hfs77 := blk_frozen BK207.out 2
       have hns77_0 := NB167_207.out
       have hns77_1 := NB194_207.out
       have hms77_0 := NB207_167.out
       have hms77_1 := NB207_194.out
       refine skip_ (w1 := ?_) (by rfl) rfl ?_ ?_
       rotate_left
       ·
        go_simp
        rfl
       refine hK.out _ _ ⟨((cell_far (p := ⟨gb207, _, none⟩) NB167_207.out _).trans (((cell_far (p := ⟨gb207, _, none⟩) NB167_207.out _).trans (((cell_far (p := ⟨gb207, _, none⟩) NB167_207.out _).trans (hHeld.1)))))), ((cell_far (p := ⟨gb207, _, none⟩) NB167_207.out _).trans (((cell_far (p := ⟨gb207, _, none⟩) NB167_207.out _).trans (((cell_far (p := ⟨gb207, _, none⟩) NB167_207.out _).trans (hHeld.2.1)))))), ((cell_far (p := ⟨gb207, _, none⟩) NB167_207.out _).trans (((cell_far (p := ⟨gb207, _, none⟩) NB167_207.out _).trans (((cell_far (p := ⟨gb207, _, none⟩) NB167_207.out _).trans (hHeld.2.2.1)))))), ((cell_far (p := ⟨gb207, _, none⟩) (by first | exact Kd.own_blk (Kd.R_ne HO_12.out BK207.out (by decide)) | (rw [add_block]; exact Kd.own_blk (Kd.R_ne HO_12.out BK207.out (by decide))) | (show (Addr.add _ _).block ≠ _; rw [add_block]; exact Kd.own_blk (Kd.R_ne HO_12.out BK207.out (by decide))) | (dsimp only; exact Kd.own_blk (Kd.R_ne HO_12.out BK207.out (by decide)))) _).trans (((cell_far (p := ⟨gb207, _, none⟩) (by first | exact Kd.own_blk (Kd.R_ne HO_12.out BK207.out (by decide)) | (rw [add_block]; exact Kd.own_blk (Kd.R_ne HO_12.out BK207.out (by decide))) | (show (Addr.add _ _).block ≠ _; rw [add_block]; exact Kd.own_blk (Kd.R_ne HO_12.out BK207.out (by decide))) | (dsimp only; exact Kd.own_blk (Kd.R_ne HO_12.out BK207.out (by decide)))) _).trans (((cell_far (p := ⟨gb207, _, none⟩) (by first | exact Kd.own_blk (Kd.R_ne HO_12.out BK207.out (by decide)) | (rw [add_block]; exact Kd.own_blk (Kd.R_ne HO_12.out BK207.out (by decide))) | (show (Addr.add _ _).block ≠ _; rw [add_block]; exact Kd.own_blk (Kd.R_ne HO_12.out BK207.out (by decide))) | (dsimp only; exact Kd.own_blk (Kd.R_ne HO_12.out BK207.out (by decide)))) _).trans (hHeld.2.2.2.1)))))), ((cell_far (p := ⟨gb207, _, none⟩) (by first | exact Kd.own_blk (Kd.R_ne HO_12.out BK207.out (by decide)) | (rw [add_block]; exact Kd.own_blk (Kd.R_ne HO_12.out BK207.out (by decide))) | (show (Addr.add _ _).block ≠ _; rw [add_block]; exact Kd.own_blk (Kd.R_ne HO_12.out BK207.out (by decide))) | (dsimp only; exact Kd.own_blk (Kd.R_ne HO_12.out BK207.out (by decide)))) _).trans (((cell_far (p := ⟨gb207, _, none⟩) (by first | exact Kd.own_blk (Kd.R_ne HO_12.out BK207.out (by decide)) | (rw [add_block]; exact Kd.own_blk (Kd.R_ne HO_12.out BK207.out (by decide))) | (show (Addr.add _ _).block ≠ _; rw [add_block]; exact Kd.own_blk (Kd.R_ne HO_12.out BK207.out (by decide))) | (dsimp only; exact Kd.own_blk (Kd.R_ne HO_12.out BK207.out (by decide)))) _).trans (((cell_far (p := ⟨gb207, _, none⟩) (by first | exact Kd.own_blk (Kd.R_ne HO_12.out BK207.out (by decide)) | (rw [add_block]; exact Kd.own_blk (Kd.R_ne HO_12.out BK207.out (by decide))) | (show (Addr.add _ _).block ≠ _; rw [add_block]; exact Kd.own_blk (Kd.R_ne HO_12.out BK207.out (by decide))) | (dsimp only; exact Kd.own_blk (Kd.R_ne HO_12.out BK207.out (by decide)))) _).trans (hHeld.2.2.2.2))))))⟩ (fun hHeld => ?_)
       clear hK K
       refine pure_ (i := 16) (N := some 22) (v := ?_) (a' := ?_) #[true, true, true, true, true, true, true, true, true, true, true, true, true, true, true, true, true] rfl rfl (any_of HT_.out (by kernel_rfl)) (fun _ _ _ h => h) (Or.inl ⟨by rfl, ?_⟩) ?_ ?_
       rotate_left
       ·
        intro w'
        go_simp
        with_reducible rfl
       rotate_left
       ·
        simp only [Act.put, l_1, l_2, l_3, i64_w, i32_w]
        rfl
       refine done_ (done_of HT_.out (by kernel_rfl)) ?_
       try go_wp2
       have n0_ : Aside0 (Kd.R (Kd.int .i32) 21 (((w73.setCell ⟨gb207, 0, none⟩ (.int .i64 t201)).setCell ⟨gb207, 1, none⟩ (.int .i64 t202)).setCell ⟨gb207, 2, none⟩ (.slice Ao76 t203.length co76)) w.heap.size (fun k_ => some k_ ≠ (u14 : Value).ownBlock ∧ some k_ ≠ (v196 : Value).ownBlock) v172 t171) := ⟨by (with_reducible repeat (first | apply Kd.R_alloc | apply Kd.R_drewN | apply Kd.R_drew)); exact Kd.R_mono (Kd.R_far (p := ⟨gb207, 2, none⟩) (Kd.R_far (p := ⟨gb207, 1, none⟩) (Kd.R_far (p := ⟨gb207, 0, none⟩) (Kd.R_types HO_7.out BK207.out (by decide)) (fun _ hk => hk.2) (.int .i64 t201)) (fun _ hk => hk.2) (.int .i64 t202)) (fun _ hk => hk.2) (.slice Ao76 t203.length co76)) (fun _ hk => ⟨hk.1.2, hk.1.1⟩)⟩
       have n1_ : Aside0 (Kd.R (Kd.int .i64) 3 (((w73.setCell ⟨gb207, 0, none⟩ (.int .i64 t201)).setCell ⟨gb207, 1, none⟩ (.int .i64 t202)).setCell ⟨gb207, 2, none⟩ (.slice Ao76 t203.length co76)) w.heap.size (fun k_ => some k_ ≠ (.slice (some ad199) t179.length co70 : Value).ownBlock) (.slice (some ad186) t175.length co58) t175) := ⟨by (with_reducible repeat (first | apply Kd.R_alloc | apply Kd.R_drewN | apply Kd.R_drew)); exact Kd.R_mono (Kd.R_far (p := ⟨gb207, 2, none⟩) (Kd.R_far (p := ⟨gb207, 1, none⟩) (Kd.R_far (p := ⟨gb207, 0, none⟩) (Kd.R_types HO_10.out BK207.out (by decide)) (fun _ hk => hk.2) (.int .i64 t201)) (fun _ hk => hk.2) (.int .i64 t202)) (fun _ hk => hk.2) (.slice Ao76 t203.length co76)) (fun _ hk => hk.1)⟩
       have n2_ : Aside0 (Kd.R (Kd.int .i64) 3 (((w73.setCell ⟨gb207, 0, none⟩ (.int .i64 t201)).setCell ⟨gb207, 1, none⟩ (.int .i64 t202)).setCell ⟨gb207, 2, none⟩ (.slice Ao76 t203.length co76)) w.heap.size (fun k_ => some k_ ≠ (.slice (some ad186) t175.length co58 : Value).ownBlock) (.slice (some ad199) t179.length co70) t179) := ⟨by (with_reducible repeat (first | apply Kd.R_alloc | apply Kd.R_drewN | apply Kd.R_drew)); exact Kd.R_mono (Kd.R_far (p := ⟨gb207, 2, none⟩) (Kd.R_far (p := ⟨gb207, 1, none⟩) (Kd.R_far (p := ⟨gb207, 0, none⟩) (Kd.R_types HO_12.out BK207.out (by decide)) (fun _ hk => hk.2) (.int .i64 t201)) (fun _ hk => hk.2) (.int .i64 t202)) (fun _ hk => hk.2) (.slice Ao76 t203.length co76)) (fun _ hk => hk.1)⟩
       have n3_ : Aside0 (Kd.R (Kd.int .i32) 21 (((w73.setCell ⟨gb207, 0, none⟩ (.int .i64 t201)).setCell ⟨gb207, 1, none⟩ (.int .i64 t202)).setCell ⟨gb207, 2, none⟩ (.slice Ao76 t203.length co76)) w.heap.size (fun k_ => some k_ ≠ (v172 : Value).ownBlock ∧ some k_ ≠ (v196 : Value).ownBlock) u14 x14_3) := ⟨by (with_reducible repeat (first | apply Kd.R_alloc | apply Kd.R_drewN | apply Kd.R_drew)); exact Kd.R_mono (Kd.R_far (p := ⟨gb207, 2, none⟩) (Kd.R_far (p := ⟨gb207, 1, none⟩) (Kd.R_far (p := ⟨gb207, 0, none⟩) (Kd.R_types HO_14.out BK207.out (by decide)) (fun _ hk => hk.2) (.int .i64 t201)) (fun _ hk => hk.2) (.int .i64 t202)) (fun _ hk => hk.2) (.slice Ao76 t203.length co76)) (fun _ hk => ⟨hk.1.2, hk.1.1⟩)⟩
       have n4_ : Aside0 (Kd.S (Kd.slice 21 (Kd.int .i32)) 32 (((w73.setCell ⟨gb207, 0, none⟩ (.int .i64 t201)).setCell ⟨gb207, 1, none⟩ (.int .i64 t202)).setCell ⟨gb207, 2, none⟩ (.slice Ao76 t203.length co76)) w.heap.size (fun k_ => some k_ ≠ (v172 : Value).ownBlock ∧ some k_ ≠ (u14 : Value).ownBlock ∧ some k_ ≠ (v196 : Value).ownBlock) v184 x15_3) := ⟨by (with_reducible repeat (first | apply Kd.S_alloc | apply Kd.S_drewN | apply Kd.S_drew)); exact Kd.S_mono (Kd.S_far (p := ⟨gb207, 2, none⟩) (Kd.S_far (p := ⟨gb207, 1, none⟩) (Kd.S_far (p := ⟨gb207, 0, none⟩) (Kd.S_types HO_15.out BK207.out (by decide)) (fun _ hk => hk.2) (.int .i64 t201)) (fun _ hk => hk.2) (.int .i64 t202)) (fun _ hk => hk.2) (.slice Ao76 t203.length co76)) (fun _ hk => ⟨hk.1.2.2, ⟨hk.1.2.1, hk.1.1⟩⟩)⟩
       have n5_ : Aside0 (Kd.R (Kd.int .i8) 35 (((w73.setCell ⟨gb207, 0, none⟩ (.int .i64 t201)).setCell ⟨gb207, 1, none⟩ (.int .i64 t202)).setCell ⟨gb207, 2, none⟩ (.slice Ao76 t203.length co76)) w.heap.size (fun k_ => some k_ ≠ (.slice Ao76 t203.length co76 : Value).ownBlock) (.slice Ao64 t190.length co64) t190) := ⟨by (with_reducible repeat (first | apply Kd.R_alloc | apply Kd.R_drewN | apply Kd.R_drew)); exact Kd.R_mono (Kd.R_far (p := ⟨gb207, 2, none⟩) (Kd.R_far (p := ⟨gb207, 1, none⟩) (Kd.R_far (p := ⟨gb207, 0, none⟩) (Kd.R_types HO192.out BK207.out (by decide)) (fun _ hk => hk.2) (.int .i64 t201)) (fun _ hk => hk.2) (.int .i64 t202)) (fun _ hk => hk.2) (.slice Ao76 t203.length co76)) (fun _ hk => hk.1)⟩
       have n6_ : Aside0 (Kd.R (Kd.int .i32) 21 (((w73.setCell ⟨gb207, 0, none⟩ (.int .i64 t201)).setCell ⟨gb207, 1, none⟩ (.int .i64 t202)).setCell ⟨gb207, 2, none⟩ (.slice Ao76 t203.length co76)) w.heap.size (fun k_ => some k_ ≠ (v172 : Value).ownBlock ∧ some k_ ≠ (u14 : Value).ownBlock) v196 t195) := ⟨by (with_reducible repeat (first | apply Kd.R_alloc | apply Kd.R_drewN | apply Kd.R_drew)); exact Kd.R_mono (Kd.R_far (p := ⟨gb207, 2, none⟩) (Kd.R_far (p := ⟨gb207, 1, none⟩) (Kd.R_far (p := ⟨gb207, 0, none⟩) (Kd.R_types HO197.out BK207.out (by decide)) (fun _ hk => hk.2) (.int .i64 t201)) (fun _ hk => hk.2) (.int .i64 t202)) (fun _ hk => hk.2) (.slice Ao76 t203.length co76)) (fun _ hk => ⟨hk.1.2, hk.1.1⟩)⟩
       have n7_ : Aside0 (Kd.R (Kd.int .i8) 35 (((w73.setCell ⟨gb207, 0, none⟩ (.int .i64 t201)).setCell ⟨gb207, 1, none⟩ (.int .i64 t202)).setCell ⟨gb207, 2, none⟩ (.slice Ao76 t203.length co76)) w.heap.size (fun k_ => some k_ ≠ (.slice Ao64 t190.length co64 : Value).ownBlock) (.slice Ao76 t203.length co76) t203) := ⟨by (with_reducible repeat (first | apply Kd.R_alloc | apply Kd.R_drewN | apply Kd.R_drew)); exact Kd.R_mono (Kd.R_far (p := ⟨gb207, 2, none⟩) (Kd.R_far (p := ⟨gb207, 1, none⟩) (Kd.R_far (p := ⟨gb207, 0, none⟩) (Kd.R_types HO205.out BK207.out (by decide)) (fun _ hk => hk.2) (.int .i64 t201)) (fun _ hk => hk.2) (.int .i64 t202)) (fun _ hk => hk.2) (.slice Ao76 t203.length co76)) (fun _ hk => hk.1)⟩
       have n8_ : Aside0 ((((w73.setCell ⟨gb207, 0, none⟩ (.int .i64 t201)).setCell ⟨gb207, 1, none⟩ (.int .i64 t202)).setCell ⟨gb207, 2, none⟩ (.slice Ao76 t203.length co76)).heap[gb167]? = some (.cells #[.int .i64 a0_0, .int .i64 a0_1, .slice A0_2 l0_2.length c0_2] 30 (0, 0))) := ⟨by (with_reducible repeat (first | refine k_n ?_ _ | refine k_d ?_ | refine k_a ?_ _)); refine blk_far ?_ NB167_207.out _; (with_reducible repeat (first | refine k_n ?_ _ | refine k_d ?_ | refine k_a ?_ _)); refine blk_far ?_ NB167_207.out _; (with_reducible repeat (first | refine k_n ?_ _ | refine k_d ?_ | refine k_a ?_ _)); refine blk_far ?_ NB167_207.out _; (with_reducible repeat (first | refine k_n ?_ _ | refine k_d ?_ | refine k_a ?_ _)); exact BK167.out⟩
       have n9_ : Aside0 ((((w73.setCell ⟨gb207, 0, none⟩ (.int .i64 t201)).setCell ⟨gb207, 1, none⟩ (.int .i64 t202)).setCell ⟨gb207, 2, none⟩ (.slice Ao76 t203.length co76)).heap[gb194]? = some (.cells #[.int .i64 t188, .int .i64 t189, .slice Ao64 t190.length co64] 30 (0, 0))) := ⟨by (with_reducible repeat (first | refine k_n ?_ _ | refine k_d ?_ | refine k_a ?_ _)); refine blk_far ?_ NB194_207.out _; (with_reducible repeat (first | refine k_n ?_ _ | refine k_d ?_ | refine k_a ?_ _)); refine blk_far ?_ NB194_207.out _; (with_reducible repeat (first | refine k_n ?_ _ | refine k_d ?_ | refine k_a ?_ _)); refine blk_far ?_ NB194_207.out _; (with_reducible repeat (first | refine k_n ?_ _ | refine k_d ?_ | refine k_a ?_ _)); exact BK194.out⟩
       have n10_ : Aside0 ((((w73.setCell ⟨gb207, 0, none⟩ (.int .i64 t201)).setCell ⟨gb207, 1, none⟩ (.int .i64 t202)).setCell ⟨gb207, 2, none⟩ (.slice Ao76 t203.length co76)).heap[gb207]? = some (.cells #[.int .i64 t201, .int .i64 t202, .slice Ao76 t203.length co76] 30 (0, 0))) := ⟨by (with_reducible repeat (first | refine k_n ?_ _ | refine k_d ?_ | refine k_a ?_ _)); refine blk_put (cs := #[.int .i64 t201, .int .i64 t202, .slice none 0 0]) ?_ 2 _ rfl; (with_reducible repeat (first | refine k_n ?_ _ | refine k_d ?_ | refine k_a ?_ _)); refine blk_put (cs := #[.int .i64 t201, .int .i64 0, .slice none 0 0]) ?_ 1 _ rfl; (with_reducible repeat (first | refine k_n ?_ _ | refine k_d ?_ | refine k_a ?_ _)); refine blk_put (cs := #[.int .i64 0, .int .i64 0, .slice none 0 0]) ?_ 0 _ rfl; (with_reducible repeat (first | refine k_n ?_ _ | refine k_d ?_ | refine k_a ?_ _)); exact BK207.out⟩
       have n11_ : Aside0 (Below w.heap.size w (((w73.setCell ⟨gb207, 0, none⟩ (.int .i64 t201)).setCell ⟨gb207, 1, none⟩ (.int .i64 t202)).setCell ⟨gb207, 2, none⟩ (.slice Ao76 t203.length co76))) := ⟨by repeat (first | (with_reducible first | exact HB.out | apply b_a | apply b_n | apply b_d | refine b_s ?_ GE167.out | refine b_s ?_ GE194.out | refine b_s ?_ GE207.out) | exact HB.out)⟩
       (try clear HO_7)
       (try clear HO_10)
       (try clear HO_12)
       (try clear HO_14)
       (try clear HO_15)
       (try clear HO192)
       (try clear HO197)
       (try clear HO205)
       (try clear BK167)
       (try clear BK194)
       (try clear BK207)
       (try clear HB)
       generalize (((w73.setCell ⟨gb207, 0, none⟩ (.int .i64 t201)).setCell ⟨gb207, 1, none⟩ (.int .i64 t202)).setCell ⟨gb207, 2, none⟩ (.slice Ao76 t203.length co76)) = w78 at n0_ n1_ n2_ n3_ n4_ n5_ n6_ n7_ n8_ n9_ n10_ n11_ ⊢
       have HO_7 := n0_
       have HO_10 := n1_
       have HO_12 := n2_
       have HO_14 := n3_
       have HO_15 := n4_
       have HO192 := n5_
       have HO197 := n6_
       have HO205 := n7_
       have BK167 := n8_
       have BK194 := n9_
       have BK207 := n10_
       have HB := n11_
       clear n0_ n1_ n2_ n3_ n4_ n5_ n6_ n7_ n8_ n9_ n10_ n11_
       have n0_ := Aside0.mk (Kd.R_drew HO_7.out)
       have n1_ := Aside0.mk (Kd.R_drew HO_10.out)
       have n2_ := Aside0.mk (Kd.R_drew HO_12.out)
       have n3_ := Aside0.mk (Kd.R_drew HO_14.out)
       have n4_ := Aside0.mk (Kd.S_drew HO_15.out)
       have n5_ := Aside0.mk (Kd.R_drew HO192.out)
       have n6_ := Aside0.mk (Kd.R_drew HO197.out)
       have n7_ := Aside0.mk (Kd.R_drew HO205.out)
       have n8_ := Aside0.mk (k_d BK167.out)
       have n9_ := Aside0.mk (k_d BK194.out)
       have n10_ := Aside0.mk (k_d BK207.out)
       have n11_ := Aside0.mk (b_d HB.out)
       clear HO_7
       clear HO_10
       clear HO_12
       clear HO_14
       clear HO_15
       clear HO192
       clear HO197
       clear HO205
       clear BK167
       clear BK194
       clear BK207
       clear HB
       have HO_7 := n0_
       have HO_10 := n1_
       have HO_12 := n2_
       have HO_14 := n3_
       have HO_15 := n4_
       have HO192 := n5_
       have HO197 := n6_
       have HO205 := n7_
       have BK167 := n8_
       have BK194 := n9_
       have BK207 := n10_
       have HB := n11_
       clear n0_ n1_ n2_ n3_ n4_ n5_ n6_ n7_ n8_ n9_ n10_ n11_
       have p208 : 0 ≤ (x16_3 : Int) := of_decide_eq_true (by first | (with_reducible assumption) | assumption)
       have q208 : x16_3 < (t179.length : Int) := of_decide_eq_true (by first | (with_reducible assumption) | assumption)
       obtain ⟨ad208, e208, hx208_0⟩ := Kd.at_int (Kd.R_reads' HO_12.out).2.2 x16_3 p208 q208
       obtain rfl : ad199 = ad208 := (by injection e208)
       replace p208 := eq_true p208
       replace q208 := eq_true q208
       have p209 : 0 ≤ ((ji44) : Int) := of_decide_eq_true (by first | (with_reducible assumption) | assumption)
       have q209 : (ji44) < (t179.length : Int) := of_decide_eq_true (by first | (with_reducible assumption) | assumption)
       obtain ⟨ad209, e209, hx209_0⟩ := Kd.at_int (Kd.R_reads' HO_12.out).2.2 (ji44) p209 q209
       obtain rfl : ad199 = ad209 := (by injection e209)
       replace p209 := eq_true p209
       replace q209 := eq_true q209
       obtain ⟨i080, hi080, _, hsz80, _⟩ := info_parts info35
       obtain ⟨A80, hcut80, hA80, hC80⟩ := print_mid_of (P := Try.prog) (Value.int .i8) 0 28 35 .i64 .i64 Try.underlying28 hi080 hsz80 A1 c1 l1 (rd t179 x16_3) (rd t179 (ji44)) (of_decide_eq_true (by first | (with_reducible assumption) | assumption)) (by first | omega | exact of_decide_eq_true (by first | (with_reducible assumption) | assumption)) (of_decide_eq_true (by first | (with_reducible assumption) | assumption)) HC1.out
       have HR210 := Aside0.mk (Kd.C_of_reads (h1 := fun _ => rfl) (hA80 _ (Kd.reads_of_C HR1.out)))
       have HC210 := Aside0.mk hC80
       clear hA80 hC80 hi080 hsz80
       refine start_ (n := 18) (S := fun w' => w'.cell? ⟨gb207, 0, none⟩ = some (.int .i64 t201) ∧ w'.cell? ⟨gb207, 1, none⟩ = some (.int .i64 t202) ∧ w'.cell? ⟨gb207, 2, none⟩ = some (.slice Ao76 t203.length co76) ∧ w'.cell? (ad199.add (x16_3).toNat) = some (.int .i64 (rd t179 x16_3)) ∧ w'.cell? (ad199.add ((ji44)).toNat) = some (.int .i64 (rd t179 (ji44)))) (ds := []) #[false, false, false, false, false, false, false, false, false, false, false, false, false, false, false, false, false, false] (by kernel_rfl) rfl rfl ⟨(blk_cell BK207.out 0).trans rfl, (blk_cell BK207.out 1).trans rfl, (blk_cell BK207.out 2).trans rfl, hx208_0, hx209_0⟩ (fun hHeld => ?_); refine with_tabW pelotonlaw04_MatmulParts.tab19 pelotonlaw04_MatmulParts.bits19 (fun HT_ HW_ => ?_)
       generalize w78.drew = w79 at HO_7 HO_10 HO_12 HO_14 HO_15 HO192 HO197 HO205 BK167 BK194 BK207 HB HR210 hx208_0 hx209_0 hHeld ⊢
       refine pure_ (i := 1) (N := some 123) (v := ?_) (a' := ?_) #[false, true, false, false, false, false, false, false, false, false, false, false, false, false, false, false, false, false] rfl rfl (any_of HT_.out (by kernel_rfl)) (fun _ _ _ h => h) (Or.inl ⟨by rfl, ?_⟩) ?_ ?_
       rotate_left
       ·
        intro w'
        go_simp
        with_reducible rfl
       rotate_left
       ·
        simp only [Act.put, l_1, l_2, l_3, i64_w, i32_w]
        rfl
       refine pure_ (i := 2) (N := some 124) (v := ?_) (a' := ?_) #[false, true, true, false, false, false, false, false, false, false, false, false, false, false, false, false, false, false] rfl rfl (any_of HT_.out (by kernel_rfl)) (fun _ _ _ h => h) (Or.inl ⟨by rfl, ?_⟩) ?_ ?_
       rotate_left
       ·
        intro w'
        go_simp
        with_reducible rfl
       rotate_left
       ·
        simp only [Act.put, l_1, l_2, l_3, i64_w, i32_w]
        rfl
       refine pure_ (i := 3) (N := some 125) (v := ?_) (a' := ?_) #[false, true, true, true, false, false, false, false, false, false, false, false, false, false, false, false, false, false] rfl rfl (any_of HT_.out (by kernel_rfl)) (fun _ _ _ h => h) (Or.inl ⟨by rfl, ?_⟩) ?_ ?_
       rotate_left
       ·
        intro w'
        go_simp
        with_reducible rfl
       rotate_left
       ·
        simp only [Act.put, l_1, l_2, l_3, i64_w, i32_w]
        rfl
       refine pure_ (i := 4) (N := some 126) (v := ?_) (a' := ?_) #[false, true, true, true, true, false, false, false, false, false, false, false, false, false, false, false, false, false] rfl rfl (any_of HT_.out (by kernel_rfl)) (fun _ _ _ h => h) (Or.inl ⟨by rfl, ?_⟩) ?_ ?_
       rotate_left
       ·
        intro w'
        go_simp
        with_reducible rfl
       rotate_left
       ·
        simp only [Act.put, l_1, l_2, l_3, i64_w, i32_w]
        rfl
       refine pure_ (i := 6) (N := some 128) (v := ?_) (a' := ?_) #[false, true, true, true, true, false, true, false, false, false, false, false, false, false, false, false, false, false] rfl rfl (any_of HT_.out (by kernel_rfl)) (fun _ _ _ h => h) (Or.inl ⟨by rfl, ?_⟩) ?_ ?_
       rotate_left
       ·
        intro w'
        go_simp
        with_reducible rfl
       rotate_left
       ·
        simp only [Act.put, l_1, l_2, l_3, i64_w, i32_w]
        rfl
       refine pure_ (i := 7) (N := some 129) (v := ?_) (a' := ?_) #[false, true, true, true, true, false, true, true, false, false, false, false, false, false, false, false, false, false] rfl rfl (any_of HT_.out (by kernel_rfl)) (fun _ _ _ h => h) (Or.inl ⟨by rfl, ?_⟩) ?_ ?_
       rotate_left
       ·
        intro w'
        go_simp
        with_reducible rfl
       rotate_left
       ·
        simp only [Act.put, l_1, l_2, l_3, i64_w, i32_w]
        rfl
       refine pure_ (i := 8) (N := some 130) (v := ?_) (a' := ?_) #[false, true, true, true, true, false, true, true, true, false, false, false, false, false, false, false, false, false] rfl rfl (any_of HT_.out (by kernel_rfl)) (fun _ _ _ h => h) (Or.inl ⟨by rfl, ?_⟩) ?_ ?_
       rotate_left
       ·
        intro w'
        go_simp
        with_reducible rfl
       rotate_left
       ·
        simp only [Act.put, l_1, l_2, l_3, i64_w, i32_w]
        rfl
       refine pure_ (i := 9) (N := some 131) (v := ?_) (a' := ?_) #[false, true, true, true, true, false, true, true, true, true, false, false, false, false, false, false, false, false] rfl rfl (any_of HT_.out (by kernel_rfl)) (fun _ _ _ h => h) (Or.inl ⟨by rfl, ?_⟩) ?_ ?_
       rotate_left
       ·
        intro w'
        go_simp
        with_reducible rfl
       rotate_left
       ·
        simp only [Act.put, l_1, l_2, l_3, i64_w, i32_w]
        rfl
       refine take_ (i := 0) (N := some 122) (v := ?_) (a' := ?_) #[true, true, true, true, true, false, true, true, true, true, false, false, false, false, false, false, false, false] rfl rfl (take_ofW HT_.out HW_.out (by kernel_rfl)) (fun _ _ _ h => h) (Or.inl ⟨by rfl, ?_⟩) hHeld ?_ ?_
       rotate_left
       ·
        rintro w' ⟨s0, s1, s2, s3, s4⟩
        go_simp
        with_reducible rfl
       rotate_left
       ·
        simp only [Act.put, l_1, l_2, l_3, i64_w, i32_w]
        rfl
       refine take_ (i := 5) (N := some 127) (v := ?_) (a' := ?_) #[true, true, true, true, true, true, true, true, true, true, false, false, false, false, false, false, false, false] rfl rfl (take_ofW HT_.out HW_.out (by kernel_rfl)) (fun _ _ _ h => h) (Or.inl ⟨by rfl, ?_⟩) hHeld ?_ ?_
       rotate_left
       ·
        rintro w' ⟨s0, s1, s2, s3, s4⟩
        go_simp
        with_reducible rfl
       rotate_left
       ·
        simp only [Act.put, l_1, l_2, l_3, i64_w, i32_w]
        rfl
       refine take_ (i := 10) (N := some 132) (v := ?_) (a' := ?_) #[true, true, true, true, true, true, true, true, true, true, true, false, false, false, false, false, false, false] rfl rfl (take_ofW HT_.out HW_.out (by kernel_rfl)) (fun _ _ _ h => h) (Or.inl ⟨by rfl, ?_⟩) hHeld ?_ ?_
       rotate_left
       ·
        rintro w' ⟨s0, s1, s2, s3, s4⟩
        go_simp
        with_reducible rfl
       rotate_left
       ·
        simp only [Act.put, l_1, l_2, l_3, i64_w, i32_w]
        rfl
       refine pure_ (i := 11) (N := some 133) (v := ?_) (a' := ?_) #[true, true, true, true, true, true, true, true, true, true, true, true, false, false, false, false, false, false] rfl rfl (any_of HT_.out (by kernel_rfl)) (fun _ _ _ h => h) (Or.inl ⟨by rfl, ?_⟩) ?_ ?_
       rotate_left
       ·
        intro w'
        go_simp
        with_reducible rfl
       rotate_left
       ·
        simp only [Act.put, l_1, l_2, l_3, i64_w, i32_w]
        rfl
       refine one_ (i := 12) (N := some 134) #[true, true, true, true, true, true, true, true, true, true, true, true, true, false, false, false, false, false] rfl rfl (one_of HT_.out (by kernel_rfl)) (by decide) (fun K hK => ?_)
       refine goes_ Try.func14 (by kernel_rfl) rfl #[.agg #[.int .i64 t201, .int .i64 t202, .slice Ao76 t203.length co76], .slice A80 ((l1.take ((rd t179 (ji44)) : Int).toNat).drop ((rd t179 x16_3) : Int).toNat).length (c1 - (rd t179 x16_3).toNat)] (by rfl) rfl rfl (by (try simp only [l_4, l_5, l_6]); first | done | (rw [show ((l1.take ((rd t179 (ji44)) : Int).toNat).drop ((rd t179 x16_3) : Int).toNat).length = ((rd t179 (ji44)).toNat - (rd t179 x16_3).toNat) from (by rw [l_7, l_8]; have h_ : ((rd t179 (ji44)) : Int) ≤ (l1.length : Int) := of_decide_eq_true (by first | (with_reducible assumption) | assumption); omega)] <;> rfl) | (simp only [hji44]; rfl) | rfl | (simp only [l_7, l_8]; rfl)) ?_
       with_reducible refine (matmul_Apply.calls k3 t201 t202 _ _ t203 _ _ ((l1.take ((rd t179 (ji44)) : Int).toNat).drop ((rd t179 x16_3) : Int).toNat) t211 t214 _ ?side1 ?side2 ?side3 ?side4 A55.out).mono ?_
       (case side1 => repeat (first | exact (Kd.R_reads' HO205.out).2.2 | (with_reducible refine Kd.C_alloc ?_ _) | (with_reducible refine Kd.C_drewN ?_ _) | (with_reducible refine Kd.C_drew ?_)))
       (case side2 => exact (Kd.R_reads' HO205.out).2.1)
       (case side3 => repeat (first | exact (Kd.C_below HR210.out HB.out) | (with_reducible refine Kd.C_alloc ?_ _) | (with_reducible refine Kd.C_drewN ?_ _) | (with_reducible refine Kd.C_drew ?_)))
       (case side4 => exact HC210.out)
       rintro e w81 ⟨v212, rfl, ho0, hb⟩
       have HS3_ := (hb.cell (World.block_lt_of_cell? _ _ (hHeld.2.2.2.1))).trans (hHeld.2.2.2.1)
       have HS4_ := (hb.cell (World.block_lt_of_cell? _ _ (hHeld.2.2.2.2))).trans (hHeld.2.2.2.2)
       refine ⟨_, rfl, ?_⟩
       have n0_ := Aside0.mk (Kd.R_elder' (by (with_reducible repeat (first | apply Kd.R_alloc | apply Kd.R_drewN | apply Kd.R_drew)); exact HO_7.out) (Kd.R_base ho0) hb)
       have n1_ := Aside0.mk (Kd.R_below (by (with_reducible repeat (first | apply Kd.R_alloc | apply Kd.R_drewN | apply Kd.R_drew)); exact HO_10.out) hb)
       have n2_ := Aside0.mk (Kd.R_below (by (with_reducible repeat (first | apply Kd.R_alloc | apply Kd.R_drewN | apply Kd.R_drew)); exact HO_12.out) hb)
       have n3_ := Aside0.mk (Kd.R_elder' (by (with_reducible repeat (first | apply Kd.R_alloc | apply Kd.R_drewN | apply Kd.R_drew)); exact HO_14.out) (Kd.R_base ho0) hb)
       have n4_ := Aside0.mk (Kd.S_elder' (by (with_reducible repeat (first | apply Kd.S_alloc | apply Kd.S_drewN | apply Kd.S_drew)); exact HO_15.out) (Kd.R_base ho0) hb)
       have n5_ := Aside0.mk (Kd.R_below (by (with_reducible repeat (first | apply Kd.R_alloc | apply Kd.R_drewN | apply Kd.R_drew)); exact HO192.out) hb)
       have n6_ := Aside0.mk (Kd.R_elder' (by (with_reducible repeat (first | apply Kd.R_alloc | apply Kd.R_drewN | apply Kd.R_drew)); exact HO197.out) (Kd.R_base ho0) hb)
       have n7_ := Aside0.mk (Kd.R_below (by (with_reducible repeat (first | apply Kd.R_alloc | apply Kd.R_drewN | apply Kd.R_drew)); exact HO205.out) hb)
       have n8_ := Aside0.mk (Kd.R_lower (Kd.R_new' (Kd.R_new' (Kd.R_new' ho0 (Kd.R_lt (by (with_reducible repeat (first | apply Kd.R_alloc | apply Kd.R_drewN | apply Kd.R_drew)); exact HO_7.out))) (Kd.R_lt (by (with_reducible repeat (first | apply Kd.R_alloc | apply Kd.R_drewN | apply Kd.R_drew)); exact HO_14.out))) (Kd.R_lt (by (with_reducible repeat (first | apply Kd.R_alloc | apply Kd.R_drewN | apply Kd.R_drew)); exact HO197.out))) (below_size (by repeat (first | (with_reducible first | exact HB.out | apply b_a | apply b_n | apply b_d | refine b_s ?_ GE167.out | refine b_s ?_ GE194.out | refine b_s ?_ GE207.out) | exact HB.out))))
       have n9_ := Aside0.mk (blk_below (g := gb167) (o := .cells #[.int .i64 a0_0, .int .i64 a0_1, .slice A0_2 l0_2.length c0_2] 30 (0, 0)) (by (with_reducible repeat (first | refine k_n ?_ _ | refine k_d ?_ | refine k_a ?_ _)); exact BK167.out) hb)
       have n10_ := Aside0.mk (blk_below (g := gb194) (o := .cells #[.int .i64 t188, .int .i64 t189, .slice Ao64 t190.length co64] 30 (0, 0)) (by (with_reducible repeat (first | refine k_n ?_ _ | refine k_d ?_ | refine k_a ?_ _)); exact BK194.out) hb)
       have n11_ := Aside0.mk (blk_below (g := gb207) (o := .cells #[.int .i64 t201, .int .i64 t202, .slice Ao76 t203.length co76] 30 (0, 0)) (by (with_reducible repeat (first | refine k_n ?_ _ | refine k_d ?_ | refine k_a ?_ _)); exact BK207.out) hb)
       have n12_ := Aside0.mk (below_step (by repeat (first | (with_reducible first | exact HB.out | apply b_a | apply b_n | apply b_d | refine b_s ?_ GE167.out | refine b_s ?_ GE194.out | refine b_s ?_ GE207.out) | exact HB.out)) hb)
       clear HO_7
       clear HO_10
       clear HO_12
       clear HO_14
       clear HO_15
       clear HO192
       clear HO197
       clear HO205
       clear BK167
       clear BK194
       clear BK207
       clear HB
       have HO_7 := n0_
       have HO_10 := n1_
       have HO_12 := n2_
       have HO_14 := n3_
       have HO_15 := n4_
       have HO192 := n5_
       have HO197 := n6_
       have HO205 := n7_
       have HO213 := n8_
       have BK167 := n9_
       have BK194 := n10_
       have BK207 := n11_
       have HB := n12_
       clear n0_ n1_ n2_ n3_ n4_ n5_ n6_ n7_ n8_ n9_ n10_ n11_ n12_
       (try clear hb)
       (try clear hb2)
       (try clear hk)
       (try clear hi)
       (try clear ho0)
       refine hK.out _ _ ⟨(blk_cell BK207.out 0).trans rfl, (blk_cell BK207.out 1).trans rfl, (blk_cell BK207.out 2).trans rfl, HS3_, HS4_⟩ (fun hHeld => ?_)
       clear hK K
       refine norm_ (a' := ?_) ?_ ?_
       rotate_left
       ·
        show Act.put _ (some 134) _ = _
        simp only [Act.put, l_1, l_2, l_3, i64_w, i32_w]
        rfl
       refine pure_ (i := 13) (N := some 121) (v := ?_) (a' := ?_) #[true, true, true, true, true, true, true, true, true, true, true, true, true, true, false, false, false, false] rfl rfl (any_of HT_.out (by kernel_rfl)) (fun _ _ _ h => h) (Or.inl ⟨by rfl, ?_⟩) ?_ ?_
       rotate_left
       ·
        intro w'
        go_simp
        with_reducible rfl
       rotate_left
       ·
        simp only [Act.put, l_1, l_2, l_3, i64_w, i32_w]
        rfl
       refine pure_ (i := 14) (N := some 135) (v := ?_) (a' := ?_) #[true, true, true, true, true, true, true, true, true, true, true, true, true, true, true, false, false, false] rfl rfl (any_of HT_.out (by kernel_rfl)) (fun _ _ _ h => h) (Or.inl ⟨by rfl, ?_⟩) ?_ ?_
       rotate_left
       ·
        intro w'
        go_simp
        with_reducible rfl
       rotate_left
       ·
        simp only [Act.put, l_1, l_2, l_3, i64_w, i32_w]
        rfl
       refine pure_ (i := 15) (N := some 136) (v := ?_) (a' := ?_) #[true, true, true, true, true, true, true, true, true, true, true, true, true, true, true, true, false, false] rfl rfl (any_of HT_.out (by kernel_rfl)) (fun _ _ _ h => h) (Or.inl ⟨by rfl, ?_⟩) ?_ ?_
       rotate_left
       ·
        intro w'
        go_simp
        with_reducible rfl
       rotate_left
       ·
        simp only [Act.put, l_1, l_2, l_3, i64_w, i32_w]
        rfl
       refine pure_ (i := 16) (N := some 23) (v := ?_) (a' := ?_) #[true, true, true, true, true, true, true, true, true, true, true, true, true, true, true, true, true, false] rfl rfl (any_of HT_.out (by kernel_rfl)) (fun _ _ _ h => h) (Or.inl ⟨by rfl, ?_⟩) ?_ ?_
       rotate_left
       ·
        intro w'
        go_simp
        with_reducible rfl
       rotate_left
       ·
        simp only [Act.put, l_1, l_2, l_3, i64_w, i32_w]
        rfl
       refine pure_ (i := 17) (N := some 24) (v := ?_) (a' := ?_) #[true, true, true, true, true, true, true, true, true, true, true, true, true, true, true, true, true, true] rfl rfl (any_of HT_.out (by kernel_rfl)) (fun _ _ _ h => h) (Or.inl ⟨by rfl, ?_⟩) ?_ ?_
       rotate_left
       ·
        intro w'
        go_simp
        with_reducible rfl
       rotate_left
       ·
        simp only [Act.put, l_1, l_2, l_3, i64_w, i32_w]
        rfl
       refine done_ (done_of HT_.out (by kernel_rfl)) ?_
       go_upto_region 20 with (fail)
       go_cut [157] (fun v157 wc => ∃ (kq : Nat) (x157_55 : Bool), v157 = .bool x157_55 ∧ Aside0 (pelotonlaw04_MatmulParts.j3 kq l1 t171 (wrap64 (1 + (Int.tmod (wrap64 ((Int.tmod a2 9) + 9)) 9))) t175 t179 x14_3 x15_3 x16_3 t195 t211 x157_55 a0_0 a0_1 l0_2 = some r) ∧ Aside0 (kq ≤ k3) ∧ Aside0 (Kd.R (Kd.int .i32) 21 wc w.heap.size (fun k_ => some k_ ≠ (u14 : Value).ownBlock ∧ some k_ ≠ (v196 : Value).ownBlock ∧ some k_ ≠ (v212 : Value).ownBlock) v172 t171) ∧ Aside0 (Kd.R (Kd.int .i64) 3 wc w.heap.size (fun k_ => some k_ ≠ ((.slice (some ad199) t179.length co70) : Value).ownBlock) (.slice (some ad186) t175.length co58) t175) ∧ Aside0 (Kd.R (Kd.int .i64) 3 wc w.heap.size (fun k_ => some k_ ≠ ((.slice (some ad186) t175.length co58) : Value).ownBlock) (.slice (some ad199) t179.length co70) t179) ∧ Aside0 (Kd.R (Kd.int .i32) 21 wc w.heap.size (fun k_ => some k_ ≠ (v172 : Value).ownBlock ∧ some k_ ≠ (v196 : Value).ownBlock ∧ some k_ ≠ (v212 : Value).ownBlock) u14 x14_3) ∧ Aside0 (Kd.S (Kd.slice 21 (Kd.int .i32)) 32 wc w.heap.size (fun k_ => some k_ ≠ (v172 : Value).ownBlock ∧ some k_ ≠ (u14 : Value).ownBlock ∧ some k_ ≠ (v196 : Value).ownBlock ∧ some k_ ≠ (v212 : Value).ownBlock) v184 x15_3) ∧ Aside0 (Kd.R (Kd.int .i32) 21 wc w.heap.size (fun k_ => some k_ ≠ (v172 : Value).ownBlock ∧ some k_ ≠ (u14 : Value).ownBlock ∧ some k_ ≠ (v212 : Value).ownBlock) v196 t195) ∧ Aside0 (Kd.R (Kd.int .i32) 21 wc w.heap.size (fun k_ => some k_ ≠ (v172 : Value).ownBlock ∧ some k_ ≠ (u14 : Value).ownBlock ∧ some k_ ≠ (v196 : Value).ownBlock) v212 t211) ∧ Aside0 (Kd.R (Kd.int .i8) 35 wc w.heap.size (fun k_ => some k_ ≠ ((.slice Ao76 t203.length co76) : Value).ownBlock) (.slice Ao64 t190.length co64) t190) ∧ Aside0 (Kd.R (Kd.int .i8) 35 wc w.heap.size (fun k_ => some k_ ≠ ((.slice Ao64 t190.length co64) : Value).ownBlock) (.slice Ao76 t203.length co76) t203) ∧ Aside0 (wc.heap[gb167]? = some (.cells #[.int .i64 a0_0, .int .i64 a0_1, (.slice A0_2 l0_2.length c0_2)] 30 (0, 0))) ∧ Aside0 (wc.heap[gb194]? = some (.cells #[.int .i64 t188, .int .i64 t189, (.slice Ao64 t190.length co64)] 30 (0, 0))) ∧ Aside0 (wc.heap[gb207]? = some (.cells #[.int .i64 t201, .int .i64 t202, (.slice Ao76 t203.length co76)] 30 (0, 0))) ∧ Aside0 (Below w.heap.size w wc))
       case first =>
        have H := HC56.out
        clear HC56
        by_cases c82 : t193 = 0
        rotate_left
        ·
         rw [if_neg c82] at H
         have c82b0 : (t193 == 0) = false := beq_eq_false_iff_ne.mpr c82
         have c82b1 : (t193 != 0) = true := bne_iff_ne.mpr c82
         (first | rw [c82b0] | (simp only [i64_w, i32_w]; rw [c82b0]) | skip)
         have H' := Aside0.mk H
         clear H
         go_wp2
         go_meet
         case rel => exact ⟨_, (true), (by first | rfl | (simp; done) | (simp [*]; done)), H', ⟨by have := HJ3.out; have := HJ23.out; have := HK3.out; first | omega | exact Nat.le_refl _⟩, ⟨by (with_reducible repeat (first | apply Kd.R_alloc | apply Kd.R_drewN | apply Kd.R_drew)); exact Kd.R_mono HO_7.out (fun _ hk => ⟨hk.1.1, ⟨hk.1.2, hk.2⟩⟩)⟩, ⟨by (with_reducible repeat (first | apply Kd.R_alloc | apply Kd.R_drewN | apply Kd.R_drew)); exact HO_10.out⟩, ⟨by (with_reducible repeat (first | apply Kd.R_alloc | apply Kd.R_drewN | apply Kd.R_drew)); exact HO_12.out⟩, ⟨by (with_reducible repeat (first | apply Kd.R_alloc | apply Kd.R_drewN | apply Kd.R_drew)); exact Kd.R_mono HO_14.out (fun _ hk => ⟨hk.1.1, ⟨hk.1.2, hk.2⟩⟩)⟩, ⟨by (with_reducible repeat (first | apply Kd.S_alloc | apply Kd.S_drewN | apply Kd.S_drew)); exact Kd.S_mono HO_15.out (fun _ hk => ⟨hk.1.1, ⟨hk.1.2.1, ⟨hk.1.2.2, hk.2⟩⟩⟩)⟩, ⟨by (with_reducible repeat (first | apply Kd.R_alloc | apply Kd.R_drewN | apply Kd.R_drew)); exact Kd.R_mono HO197.out (fun _ hk => ⟨hk.1.1, ⟨hk.1.2, hk.2⟩⟩)⟩, ⟨by (with_reducible repeat (first | apply Kd.R_alloc | apply Kd.R_drewN | apply Kd.R_drew)); exact Kd.R_mono HO213.out (fun _ hk => ⟨hk.1.1.2, ⟨hk.1.2, hk.2⟩⟩)⟩, ⟨by (with_reducible repeat (first | apply Kd.R_alloc | apply Kd.R_drewN | apply Kd.R_drew)); exact HO192.out⟩, ⟨by (with_reducible repeat (first | apply Kd.R_alloc | apply Kd.R_drewN | apply Kd.R_drew)); exact HO205.out⟩, ⟨by (with_reducible repeat (first | refine k_n ?_ _ | refine k_d ?_ | refine k_a ?_ _)); exact BK167.out⟩, ⟨by (with_reducible repeat (first | refine k_n ?_ _ | refine k_d ?_ | refine k_a ?_ _)); exact BK194.out⟩, ⟨by (with_reducible repeat (first | refine k_n ?_ _ | refine k_d ?_ | refine k_a ?_ _)); exact BK207.out⟩, ⟨by repeat (first | (with_reducible first | exact HB.out | apply b_a | apply b_n | apply b_d | refine b_s ?_ GE167.out | refine b_s ?_ GE194.out | refine b_s ?_ GE207.out) | exact HB.out)⟩⟩
        rw [if_pos c82] at H
        have c82b0 : (t193 == 0) = true := beq_iff_eq.mpr c82
        have c82b1 : (t193 != 0) = false := bne_eq_false_iff_eq.mpr c82
        clear c82
        (first | rw [c82b0] | (simp only [i64_w, i32_w]; rw [c82b0]) | skip)
        by_cases c83 : t198 = 0
        rotate_left
        ·
         rw [if_neg c83] at H
         have c83b0 : (t198 == 0) = false := beq_eq_false_iff_ne.mpr c83
         have c83b1 : (t198 != 0) = true := bne_iff_ne.mpr c83
         have H' := Aside0.mk H
         clear H
         go_wp2
         go_meet
         case rel => exact ⟨_, (true), (by first | rfl | (simp; done) | (simp [*]; done)), H', ⟨by have := HJ3.out; have := HJ23.out; have := HK3.out; first | omega | exact Nat.le_refl _⟩, ⟨by (with_reducible repeat (first | apply Kd.R_alloc | apply Kd.R_drewN | apply Kd.R_drew)); exact Kd.R_mono HO_7.out (fun _ hk => ⟨hk.1.1, ⟨hk.1.2, hk.2⟩⟩)⟩, ⟨by (with_reducible repeat (first | apply Kd.R_alloc | apply Kd.R_drewN | apply Kd.R_drew)); exact HO_10.out⟩, ⟨by (with_reducible repeat (first | apply Kd.R_alloc | apply Kd.R_drewN | apply Kd.R_drew)); exact HO_12.out⟩, ⟨by (with_reducible repeat (first | apply Kd.R_alloc | apply Kd.R_drewN | apply Kd.R_drew)); exact Kd.R_mono HO_14.out (fun _ hk => ⟨hk.1.1, ⟨hk.1.2, hk.2⟩⟩)⟩, ⟨by (with_reducible repeat (first | apply Kd.S_alloc | apply Kd.S_drewN | apply Kd.S_drew)); exact Kd.S_mono HO_15.out (fun _ hk => ⟨hk.1.1, ⟨hk.1.2.1, ⟨hk.1.2.2, hk.2⟩⟩⟩)⟩, ⟨by (with_reducible repeat (first | apply Kd.R_alloc | apply Kd.R_drewN | apply Kd.R_drew)); exact Kd.R_mono HO197.out (fun _ hk => ⟨hk.1.1, ⟨hk.1.2, hk.2⟩⟩)⟩, ⟨by (with_reducible repeat (first | apply Kd.R_alloc | apply Kd.R_drewN | apply Kd.R_drew)); exact Kd.R_mono HO213.out (fun _ hk => ⟨hk.1.1.2, ⟨hk.1.2, hk.2⟩⟩)⟩, ⟨by (with_reducible repeat (first | apply Kd.R_alloc | apply Kd.R_drewN | apply Kd.R_drew)); exact HO192.out⟩, ⟨by (with_reducible repeat (first | apply Kd.R_alloc | apply Kd.R_drewN | apply Kd.R_drew)); exact HO205.out⟩, ⟨by (with_reducible repeat (first | refine k_n ?_ _ | refine k_d ?_ | refine k_a ?_ _)); exact BK167.out⟩, ⟨by (with_reducible repeat (first | refine k_n ?_ _ | refine k_d ?_ | refine k_a ?_ _)); exact BK194.out⟩, ⟨by (with_reducible repeat (first | refine k_n ?_ _ | refine k_d ?_ | refine k_a ?_ _)); exact BK207.out⟩, ⟨by repeat (first | (with_reducible first | exact HB.out | apply b_a | apply b_n | apply b_d | refine b_s ?_ GE167.out | refine b_s ?_ GE194.out | refine b_s ?_ GE207.out) | exact HB.out)⟩⟩
        rw [if_pos c83] at H
        have c83b0 : (t198 == 0) = true := beq_iff_eq.mpr c83
        have c83b1 : (t198 != 0) = false := bne_eq_false_iff_eq.mpr c83
        clear c83
        by_cases c84 : t206 = 0
        rotate_left
        ·
         rw [if_neg c84] at H
         have c84b0 : (t206 == 0) = false := beq_eq_false_iff_ne.mpr c84
         have c84b1 : (t206 != 0) = true := bne_iff_ne.mpr c84
         have H' := Aside0.mk H
         clear H
         go_wp2
         go_meet
         case rel => exact ⟨_, (true), (by first | rfl | (simp; done) | (simp [*]; done)), H', ⟨by have := HJ3.out; have := HJ23.out; have := HK3.out; first | omega | exact Nat.le_refl _⟩, ⟨by (with_reducible repeat (first | apply Kd.R_alloc | apply Kd.R_drewN | apply Kd.R_drew)); exact Kd.R_mono HO_7.out (fun _ hk => ⟨hk.1.1, ⟨hk.1.2, hk.2⟩⟩)⟩, ⟨by (with_reducible repeat (first | apply Kd.R_alloc | apply Kd.R_drewN | apply Kd.R_drew)); exact HO_10.out⟩, ⟨by (with_reducible repeat (first | apply Kd.R_alloc | apply Kd.R_drewN | apply Kd.R_drew)); exact HO_12.out⟩, ⟨by (with_reducible repeat (first | apply Kd.R_alloc | apply Kd.R_drewN | apply Kd.R_drew)); exact Kd.R_mono HO_14.out (fun _ hk => ⟨hk.1.1, ⟨hk.1.2, hk.2⟩⟩)⟩, ⟨by (with_reducible repeat (first | apply Kd.S_alloc | apply Kd.S_drewN | apply Kd.S_drew)); exact Kd.S_mono HO_15.out (fun _ hk => ⟨hk.1.1, ⟨hk.1.2.1, ⟨hk.1.2.2, hk.2⟩⟩⟩)⟩, ⟨by (with_reducible repeat (first | apply Kd.R_alloc | apply Kd.R_drewN | apply Kd.R_drew)); exact Kd.R_mono HO197.out (fun _ hk => ⟨hk.1.1, ⟨hk.1.2, hk.2⟩⟩)⟩, ⟨by (with_reducible repeat (first | apply Kd.R_alloc | apply Kd.R_drewN | apply Kd.R_drew)); exact Kd.R_mono HO213.out (fun _ hk => ⟨hk.1.1.2, ⟨hk.1.2, hk.2⟩⟩)⟩, ⟨by (with_reducible repeat (first | apply Kd.R_alloc | apply Kd.R_drewN | apply Kd.R_drew)); exact HO192.out⟩, ⟨by (with_reducible repeat (first | apply Kd.R_alloc | apply Kd.R_drewN | apply Kd.R_drew)); exact HO205.out⟩, ⟨by (with_reducible repeat (first | refine k_n ?_ _ | refine k_d ?_ | refine k_a ?_ _)); exact BK167.out⟩, ⟨by (with_reducible repeat (first | refine k_n ?_ _ | refine k_d ?_ | refine k_a ?_ _)); exact BK194.out⟩, ⟨by (with_reducible repeat (first | refine k_n ?_ _ | refine k_d ?_ | refine k_a ?_ _)); exact BK207.out⟩, ⟨by repeat (first | (with_reducible first | exact HB.out | apply b_a | apply b_n | apply b_d | refine b_s ?_ GE167.out | refine b_s ?_ GE194.out | refine b_s ?_ GE207.out) | exact HB.out)⟩⟩
        rw [if_pos c84] at H
        have c84b0 : (t206 == 0) = true := beq_iff_eq.mpr c84
        have c84b1 : (t206 != 0) = false := bne_eq_false_iff_eq.mpr c84
        clear c84
        by_cases c85 : t214 = 0
        rotate_left
        ·
         rw [if_neg c85] at H
         have c85b0 : (t214 == 0) = false := beq_eq_false_iff_ne.mpr c85
         have c85b1 : (t214 != 0) = true := bne_iff_ne.mpr c85
         have H' := Aside0.mk H
         clear H
         go_wp2
         go_meet
         case rel => exact ⟨_, (true), (by first | rfl | (simp; done) | (simp [*]; done)), H', ⟨by have := HJ3.out; have := HJ23.out; have := HK3.out; first | omega | exact Nat.le_refl _⟩, ⟨by (with_reducible repeat (first | apply Kd.R_alloc | apply Kd.R_drewN | apply Kd.R_drew)); exact Kd.R_mono HO_7.out (fun _ hk => ⟨hk.1.1, ⟨hk.1.2, hk.2⟩⟩)⟩, ⟨by (with_reducible repeat (first | apply Kd.R_alloc | apply Kd.R_drewN | apply Kd.R_drew)); exact HO_10.out⟩, ⟨by (with_reducible repeat (first | apply Kd.R_alloc | apply Kd.R_drewN | apply Kd.R_drew)); exact HO_12.out⟩, ⟨by (with_reducible repeat (first | apply Kd.R_alloc | apply Kd.R_drewN | apply Kd.R_drew)); exact Kd.R_mono HO_14.out (fun _ hk => ⟨hk.1.1, ⟨hk.1.2, hk.2⟩⟩)⟩, ⟨by (with_reducible repeat (first | apply Kd.S_alloc | apply Kd.S_drewN | apply Kd.S_drew)); exact Kd.S_mono HO_15.out (fun _ hk => ⟨hk.1.1, ⟨hk.1.2.1, ⟨hk.1.2.2, hk.2⟩⟩⟩)⟩, ⟨by (with_reducible repeat (first | apply Kd.R_alloc | apply Kd.R_drewN | apply Kd.R_drew)); exact Kd.R_mono HO197.out (fun _ hk => ⟨hk.1.1, ⟨hk.1.2, hk.2⟩⟩)⟩, ⟨by (with_reducible repeat (first | apply Kd.R_alloc | apply Kd.R_drewN | apply Kd.R_drew)); exact Kd.R_mono HO213.out (fun _ hk => ⟨hk.1.1.2, ⟨hk.1.2, hk.2⟩⟩)⟩, ⟨by (with_reducible repeat (first | apply Kd.R_alloc | apply Kd.R_drewN | apply Kd.R_drew)); exact HO192.out⟩, ⟨by (with_reducible repeat (first | apply Kd.R_alloc | apply Kd.R_drewN | apply Kd.R_drew)); exact HO205.out⟩, ⟨by (with_reducible repeat (first | refine k_n ?_ _ | refine k_d ?_ | refine k_a ?_ _)); exact BK167.out⟩, ⟨by (with_reducible repeat (first | refine k_n ?_ _ | refine k_d ?_ | refine k_a ?_ _)); exact BK194.out⟩, ⟨by (with_reducible repeat (first | refine k_n ?_ _ | refine k_d ?_ | refine k_a ?_ _)); exact BK207.out⟩, ⟨by repeat (first | (with_reducible first | exact HB.out | apply b_a | apply b_n | apply b_d | refine b_s ?_ GE167.out | refine b_s ?_ GE194.out | refine b_s ?_ GE207.out) | exact HB.out)⟩⟩
        rw [if_pos c85] at H
        have c85b0 : (t214 == 0) = true := beq_iff_eq.mpr c85
        have c85b1 : (t214 != 0) = false := bne_eq_false_iff_eq.mpr c85
        clear c85
        have H' := Aside0.mk H
        clear H
        obtain ⟨Ao86, co86, eo86⟩ := Kd.R_slice HO213.out
        subst eo86
        have hnb87 := NB167_194.out
        have hnc87 := NB194_167.out
        have hnb88 := NB167_207.out
        have hnc88 := NB207_167.out
        have hcz89_0 : w81.cell? ⟨gb167, 0, none⟩ = some (.int .i64 a0_0) := (blk_cell BK167.out 0).trans rfl
        have hcz89_1 : w81.cell? ⟨gb167, 1, none⟩ = some (.int .i64 a0_1) := (blk_cell BK167.out 1).trans rfl
        have hcz89_2 : w81.cell? ⟨gb167, 2, none⟩ = some (.slice A0_2 l0_2.length c0_2) := (blk_cell BK167.out 2).trans rfl
        have hfz89_0 := blk_frozen BK167.out 0
        have hfz89_1 := blk_frozen BK167.out 1
        have hfz89_2 := blk_frozen BK167.out 2
        go_wp2
        go_meet
        case rel => exact ⟨_, (((t211.length : Int) != a0_0)), (by first | rfl | (simp; done) | (simp [*]; done)), H', ⟨by have := HJ3.out; have := HJ23.out; have := HK3.out; first | omega | exact Nat.le_refl _⟩, ⟨by (with_reducible repeat (first | apply Kd.R_alloc | apply Kd.R_drewN | apply Kd.R_drew)); exact Kd.R_mono HO_7.out (fun _ hk => ⟨hk.1.1, ⟨hk.1.2, hk.2⟩⟩)⟩, ⟨by (with_reducible repeat (first | apply Kd.R_alloc | apply Kd.R_drewN | apply Kd.R_drew)); exact HO_10.out⟩, ⟨by (with_reducible repeat (first | apply Kd.R_alloc | apply Kd.R_drewN | apply Kd.R_drew)); exact HO_12.out⟩, ⟨by (with_reducible repeat (first | apply Kd.R_alloc | apply Kd.R_drewN | apply Kd.R_drew)); exact Kd.R_mono HO_14.out (fun _ hk => ⟨hk.1.1, ⟨hk.1.2, hk.2⟩⟩)⟩, ⟨by (with_reducible repeat (first | apply Kd.S_alloc | apply Kd.S_drewN | apply Kd.S_drew)); exact Kd.S_mono HO_15.out (fun _ hk => ⟨hk.1.1, ⟨hk.1.2.1, ⟨hk.1.2.2, hk.2⟩⟩⟩)⟩, ⟨by (with_reducible repeat (first | apply Kd.R_alloc | apply Kd.R_drewN | apply Kd.R_drew)); exact Kd.R_mono HO197.out (fun _ hk => ⟨hk.1.1, ⟨hk.1.2, hk.2⟩⟩)⟩, ⟨by (with_reducible repeat (first | apply Kd.R_alloc | apply Kd.R_drewN | apply Kd.R_drew)); exact Kd.R_mono HO213.out (fun _ hk => ⟨hk.1.1.2, ⟨hk.1.2, hk.2⟩⟩)⟩, ⟨by (with_reducible repeat (first | apply Kd.R_alloc | apply Kd.R_drewN | apply Kd.R_drew)); exact HO192.out⟩, ⟨by (with_reducible repeat (first | apply Kd.R_alloc | apply Kd.R_drewN | apply Kd.R_drew)); exact HO205.out⟩, ⟨by (with_reducible repeat (first | refine k_n ?_ _ | refine k_d ?_ | refine k_a ?_ _)); exact BK167.out⟩, ⟨by (with_reducible repeat (first | refine k_n ?_ _ | refine k_d ?_ | refine k_a ?_ _)); exact BK194.out⟩, ⟨by (with_reducible repeat (first | refine k_n ?_ _ | refine k_d ?_ | refine k_a ?_ _)); exact BK207.out⟩, ⟨by repeat (first | (with_reducible first | exact HB.out | apply b_a | apply b_n | apply b_d | refine b_s ?_ GE167.out | refine b_s ?_ GE194.out | refine b_s ?_ GE207.out) | exact HB.out)⟩⟩
       case rest =>
        clear HC56
        try clear c1
        try clear c2
        try clear p2
        try clear q2
        try clear hx2
        try clear p6
        try clear c8
        try clear c14
        try clear p20
        try clear q20
        try clear hx20
        try clear c21
        try clear p64
        try clear c82
        try clear c82b0
        try clear c82b1
        try clear c83
        try clear c83b0
        try clear c83b1
        try clear c84
        try clear c84b0
        try clear c84b1
        try clear c85
        try clear c85b0
        try clear c85b1
        try clear c87
        try clear c88
        try clear hcz89_0
        try clear hcz89_1
        try clear hcz89_2
        try clear hfz89_0
        try clear hfz89_1
        try clear hfz89_2
        try clear hx208_0
        try clear hx209_0
        try clear p208
        try clear p209
        try clear q208
        try clear q209
        obtain ⟨kq, x157_55, rfl, HA, HJ55, HO_7, HO_10, HO_12, HO_14, HO_15, HO_19, HO_23, HO_195002, HO_208002, BK167, BK194, BK207, HB⟩ := hcut
        cases kq with
        | zero => exact absurd HA.out (by simp [pelotonlaw04_MatmulParts.j3])
        | succ kj55 =>
         have H := HA.out
         clear HA
         simp only [pelotonlaw04_MatmulParts.j3] at H
         by_cases c90 : x157_55 = true
         ·
          subst c90
          have H1 : (some false) = some r := by rw [if_pos rfl] at H; exact H
          clear H
          have H := H1
          clear H1
          obtain rfl := Option.some.inj H
          go_wp2
          go_ret
          exact ⟨by first | rfl | (simp [errW_none, errW_some] <;> rfl) | (simp only [← hji44]; first | rfl | (simp [errW_none, errW_some] <;> rfl)) | (simp [*, errW_none, errW_some] <;> rfl), by repeat (first | (with_reducible first | exact HB.out | apply b_a | apply b_n | apply b_d | refine b_s ?_ GE167.out | refine b_s ?_ GE194.out | refine b_s ?_ GE207.out) | exact HB.out)⟩
         replace c90 := Bool.eq_false_iff.mpr c90
         subst c90
         have H1 : (if x14_3.length + t195.length < 35184372088832 then (pelotonlaw04_MatmulParts.l1 kj55 l1 t171 (wrap64 (1 + (Int.tmod (wrap64 ((Int.tmod a2 9) + 9)) 9))) t175 t179 (x14_3 ++ t195) x15_3 x16_3 t211 0 a0_0 a0_1 l0_2) else (none)) = some r := by rw [if_neg (show ¬ (false = true) by decide)] at H; exact H
         clear H
         have H := H1
         clear H1
         by_cases c91 : x14_3.length + t195.length < 35184372088832
         rotate_left
         ·
          rw [if_neg c91] at H
          exact absurd H (by simp)
         rw [if_pos c91] at H
         have LMc91 := Aside0.mk c91
         clear c91
         obtain ⟨y215, hy215⟩ : ∃ y_ : List Int, y_ = (x14_3 ++ t195) := ⟨_, rfl⟩
         replace H : (pelotonlaw04_MatmulParts.l1 kj55 l1 t171 (wrap64 (1 + (Int.tmod (wrap64 ((Int.tmod a2 9) + 9)) 9))) t175 t179 y215 x15_3 x16_3 t211 0 a0_0 a0_1 l0_2) = some r := by first | (rw [hy215]; with_reducible exact H) | (have H2_ := (Option.bind_some _ _).symm.trans H; rw [hy215]; with_reducible exact H2_) | (have H2_ := (Option.bind_some _ _).symm.trans H; with_reducible exact H2_) | with_reducible exact H | (rw [hy215]; exact H) | exact H
         have Ny215 := Aside0.mk hy215
         clear hy215
         have H' := Aside0.mk H
         clear H
         obtain ⟨Ao93, co93, eo93⟩ := Kd.R_slice HO_19.out
         subst eo93
         go_wp2_with (first | ((with_reducible refine gate_builtin (b := .append) (xs := #[.tmp 158, .tmp 159]) rfl ?_); (try (refine gate_guard (by rfl) ?_; dsimp only)); at_builtin; refine Kd.R_append_rows (Kd.int .i32) (w0 := w) w.heap.size rfl (.tmp 158) (.tmp 159) 32 21 (.int .i32 0) 4 rfl Try.underlying32 info21 rfl (by decide) (by omega) u14 x14_3 t195 _ _ _ (fun k_ => some k_ ≠ (v172 : Value).ownBlock ∧ some k_ ≠ (.slice Ao93 t195.length co93 : Value).ownBlock ∧ some k_ ≠ (v212 : Value).ownBlock) (fun _ => False) rfl rfl ?aO ?aR (fun _ _ h => h) (fun _ h => h.elim) ?aF ?aB ?aS ?aL ?_; (case aR => repeat (first | exact (Kd.R_reads' HO_19.out).2.2 | (with_reducible refine Kd.C_alloc ?_ _) | (with_reducible refine Kd.C_drewN ?_ _) | (with_reducible refine Kd.C_drew ?_))); (case aB => exact (by repeat (first | (with_reducible first | exact HB.out | apply b_a | apply b_n | apply b_d | refine b_s ?_ GE167.out | refine b_s ?_ GE194.out | refine b_s ?_ GE207.out) | exact HB.out))); (case aF => exact (fun k_ hk => ⟨Kd.fresh' (Kd.R_lt (by (with_reducible repeat (first | apply Kd.R_alloc | apply Kd.R_drewN | apply Kd.R_drew)); exact HO_7.out)) k_ hk, Kd.fresh' (Kd.R_lt (by (with_reducible repeat (first | apply Kd.R_alloc | apply Kd.R_drewN | apply Kd.R_drew)); exact HO_19.out)) k_ hk, Kd.fresh' (Kd.R_lt (by (with_reducible repeat (first | apply Kd.R_alloc | apply Kd.R_drewN | apply Kd.R_drew)); exact HO_23.out)) k_ hk⟩)); (case aO => exact (by (with_reducible repeat (first | apply Kd.R_alloc | apply Kd.R_drewN | apply Kd.R_drew)); exact HO_14.out)); (case aS => exact (below_size (by repeat (first | (with_reducible first | exact HB.out | apply b_a | apply b_n | apply b_d | refine b_s ?_ GE167.out | refine b_s ?_ GE194.out | refine b_s ?_ GE207.out) | exact HB.out)))); (case aL => have := LMc91.out; omega); intro v216 w92 ho hb hg hat; rw [← Ny215.out] at ho; have n0_ := Aside0.mk (Kd.R_after (ok := (fun k_ => some k_ ≠ (.slice Ao93 t195.length co93 : Value).ownBlock ∧ some k_ ≠ (v212 : Value).ownBlock)) (by (with_reducible repeat (first | apply Kd.R_alloc | apply Kd.R_drewN | apply Kd.R_drew)); exact Kd.R_mono HO_7.out (fun _ hk => ⟨⟨hk.2.1, hk.2.2⟩, hk.1⟩)) hg hat); have n1_ := Aside0.mk (Kd.R_over' (by (with_reducible repeat (first | apply Kd.R_alloc | apply Kd.R_drewN | apply Kd.R_drew)); exact HO_10.out) (Kd.R_typed (by (with_reducible repeat (first | apply Kd.R_alloc | apply Kd.R_drewN | apply Kd.R_drew)); exact HO_14.out)) (by decide) hg); have n2_ := Aside0.mk (Kd.R_over' (by (with_reducible repeat (first | apply Kd.R_alloc | apply Kd.R_drewN | apply Kd.R_drew)); exact HO_12.out) (Kd.R_typed (by (with_reducible repeat (first | apply Kd.R_alloc | apply Kd.R_drewN | apply Kd.R_drew)); exact HO_14.out)) (by decide) hg); have n3_ := Aside0.mk (Kd.S_after (ok := (fun k_ => some k_ ≠ (v172 : Value).ownBlock ∧ some k_ ≠ (.slice Ao93 t195.length co93 : Value).ownBlock ∧ some k_ ≠ (v212 : Value).ownBlock)) (by (with_reducible repeat (first | apply Kd.S_alloc | apply Kd.S_drewN | apply Kd.S_drew)); exact Kd.S_mono HO_15.out (fun _ hk => ⟨⟨hk.1, ⟨hk.2.2.1, hk.2.2.2⟩⟩, hk.2.1⟩)) hg hat); have n4_ := Aside0.mk (Kd.R_after (ok := (fun k_ => some k_ ≠ (v172 : Value).ownBlock ∧ some k_ ≠ (v212 : Value).ownBlock)) (by (with_reducible repeat (first | apply Kd.R_alloc | apply Kd.R_drewN | apply Kd.R_drew)); exact Kd.R_mono HO_19.out (fun _ hk => ⟨⟨hk.1, hk.2.2⟩, hk.2.1⟩)) hg hat); have n5_ := Aside0.mk (Kd.R_after (ok := (fun k_ => some k_ ≠ (v172 : Value).ownBlock ∧ some k_ ≠ (.slice Ao93 t195.length co93 : Value).ownBlock)) (by (with_reducible repeat (first | apply Kd.R_alloc | apply Kd.R_drewN | apply Kd.R_drew)); exact Kd.R_mono HO_23.out (fun _ hk => ⟨⟨hk.1, hk.2.2⟩, hk.2.1⟩)) hg hat); have n6_ := Aside0.mk (Kd.R_over' (by (with_reducible repeat (first | apply Kd.R_alloc | apply Kd.R_drewN | apply Kd.R_drew)); exact HO_195002.out) (Kd.R_typed (by (with_reducible repeat (first | apply Kd.R_alloc | apply Kd.R_drewN | apply Kd.R_drew)); exact HO_14.out)) (by decide) hg); have n7_ := Aside0.mk (Kd.R_over' (by (with_reducible repeat (first | apply Kd.R_alloc | apply Kd.R_drewN | apply Kd.R_drew)); exact HO_208002.out) (Kd.R_typed (by (with_reducible repeat (first | apply Kd.R_alloc | apply Kd.R_drewN | apply Kd.R_drew)); exact HO_14.out)) (by decide) hg); have n8_ := Aside0.mk (blk_grown (g := gb167) (o := .cells #[.int .i64 a0_0, .int .i64 a0_1, .slice A0_2 l0_2.length c0_2] 30 (0, 0)) (by (with_reducible repeat (first | refine k_n ?_ _ | refine k_d ?_ | refine k_a ?_ _)); exact BK167.out) hg (Kd.R_ne HO_14.out BK167.out (by decide))); have n9_ := Aside0.mk (blk_grown (g := gb194) (o := .cells #[.int .i64 t188, .int .i64 t189, .slice Ao64 t190.length co64] 30 (0, 0)) (by (with_reducible repeat (first | refine k_n ?_ _ | refine k_d ?_ | refine k_a ?_ _)); exact BK194.out) hg (Kd.R_ne HO_14.out BK194.out (by decide))); have n10_ := Aside0.mk (blk_grown (g := gb207) (o := .cells #[.int .i64 t201, .int .i64 t202, .slice Ao76 t203.length co76] 30 (0, 0)) (by (with_reducible repeat (first | refine k_n ?_ _ | refine k_d ?_ | refine k_a ?_ _)); exact BK207.out) hg (Kd.R_ne HO_14.out BK207.out (by decide))); have n11_ := Aside0.mk (hb); have n12_ := Aside0.mk (ho); clear HO_7; clear HO_10; clear HO_12; clear HO_15; clear HO_19; clear HO_23; clear HO_195002; clear HO_208002; clear BK167; clear BK194; clear BK207; clear HB; clear HO_14; have HO_7 := n0_; have HO_10 := n1_; have HO_12 := n2_; have HO_15 := n3_; have HO_19 := n4_; have HO_23 := n5_; have HO_195002 := n6_; have HO_208002 := n7_; have BK167 := n8_; have BK194 := n9_; have BK207 := n10_; have HB := n11_; have HO217 := n12_; clear n0_ n1_ n2_ n3_ n4_ n5_ n6_ n7_ n8_ n9_ n10_ n11_ n12_; clear ho hb hg hat))
         go_loopg [25] kj55 (fun kq v25 w' => ∃ (x15_5 : List (List Int)) (x25_5 : Int), v25 = .int .i64 x25_5 ∧ Aside0 (pelotonlaw04_MatmulParts.l1 kq l1 t171 (wrap64 (1 + (Int.tmod (wrap64 ((Int.tmod a2 9) + 9)) 9))) t175 t179 y215 x15_5 x16_3 t211 x25_5 a0_0 a0_1 l0_2 = some r) ∧ Aside0 (kq ≤ kj55) ∧ Aside0 (Kd.R (Kd.int .i32) 21 w' w.heap.size (fun k_ => some k_ ≠ (v216 : Value).ownBlock ∧ some k_ ≠ (v212 : Value).ownBlock) v172 t171) ∧ Aside0 (Kd.R (Kd.int .i64) 3 w' w.heap.size (fun k_ => some k_ ≠ ((.slice (some ad199) t179.length co70) : Value).ownBlock) (.slice (some ad186) t175.length co58) t175) ∧ Aside0 (Kd.R (Kd.int .i64) 3 w' w.heap.size (fun k_ => some k_ ≠ ((.slice (some ad186) t175.length co58) : Value).ownBlock) (.slice (some ad199) t179.length co70) t179) ∧ Aside0 (Kd.R (Kd.int .i32) 21 w' w.heap.size (fun k_ => some k_ ≠ (v172 : Value).ownBlock ∧ some k_ ≠ (v212 : Value).ownBlock) v216 y215) ∧ Aside0 (Kd.S (Kd.slice 21 (Kd.int .i32)) 32 w' w.heap.size (fun k_ => some k_ ≠ (v172 : Value).ownBlock ∧ some k_ ≠ (v216 : Value).ownBlock ∧ some k_ ≠ (v212 : Value).ownBlock) v184 x15_5) ∧ Aside0 (Kd.R (Kd.int .i32) 21 w' w.heap.size (fun k_ => some k_ ≠ (v172 : Value).ownBlock ∧ some k_ ≠ (v216 : Value).ownBlock) v212 t211) ∧ Aside0 (Kd.R (Kd.int .i8) 35 w' w.heap.size (fun k_ => some k_ ≠ ((.slice Ao76 t203.length co76) : Value).ownBlock) (.slice Ao64 t190.length co64) t190) ∧ Aside0 (Kd.R (Kd.int .i8) 35 w' w.heap.size (fun k_ => some k_ ≠ ((.slice Ao64 t190.length co64) : Value).ownBlock) (.slice Ao76 t203.length co76) t203) ∧ Aside0 (w'.heap[gb167]? = some (.cells #[.int .i64 a0_0, .int .i64 a0_1, (.slice A0_2 l0_2.length c0_2)] 30 (0, 0))) ∧ Aside0 (w'.heap[gb194]? = some (.cells #[.int .i64 t188, .int .i64 t189, (.slice Ao64 t190.length co64)] 30 (0, 0))) ∧ Aside0 (w'.heap[gb207]? = some (.cells #[.int .i64 t201, .int .i64 t202, (.slice Ao76 t203.length co76)] 30 (0, 0))) ∧ Aside0 (Below w.heap.size w w'))
         case atStart => exact ⟨(x15_3), (0), (by first | rfl | (simp; done) | (simp [*]; done)), H', ⟨Nat.le_refl _⟩, ⟨by (with_reducible repeat (first | apply Kd.R_alloc | apply Kd.R_drewN | apply Kd.R_drew)); exact Kd.R_mono HO_7.out (fun _ hk => ⟨hk.2, hk.1.2⟩)⟩, ⟨by (with_reducible repeat (first | apply Kd.R_alloc | apply Kd.R_drewN | apply Kd.R_drew)); exact HO_10.out⟩, ⟨by (with_reducible repeat (first | apply Kd.R_alloc | apply Kd.R_drewN | apply Kd.R_drew)); exact HO_12.out⟩, ⟨by (with_reducible repeat (first | apply Kd.R_alloc | apply Kd.R_drewN | apply Kd.R_drew)); exact Kd.R_mono HO217.out (fun _ hk => ⟨hk.1, hk.2.2⟩)⟩, ⟨by (with_reducible repeat (first | apply Kd.S_alloc | apply Kd.S_drewN | apply Kd.S_drew)); exact Kd.S_mono HO_15.out (fun _ hk => ⟨hk.1.1, ⟨hk.2, hk.1.2.2⟩⟩)⟩, ⟨by (with_reducible repeat (first | apply Kd.R_alloc | apply Kd.R_drewN | apply Kd.R_drew)); exact Kd.R_mono HO_23.out (fun _ hk => ⟨hk.1.1, hk.2⟩)⟩, ⟨by (with_reducible repeat (first | apply Kd.R_alloc | apply Kd.R_drewN | apply Kd.R_drew)); exact HO_195002.out⟩, ⟨by (with_reducible repeat (first | apply Kd.R_alloc | apply Kd.R_drewN | apply Kd.R_drew)); exact HO_208002.out⟩, ⟨by (with_reducible repeat (first | refine k_n ?_ _ | refine k_d ?_ | refine k_a ?_ _)); exact BK167.out⟩, ⟨by (with_reducible repeat (first | refine k_n ?_ _ | refine k_d ?_ | refine k_a ?_ _)); exact BK194.out⟩, ⟨by (with_reducible repeat (first | refine k_n ?_ _ | refine k_d ?_ | refine k_a ?_ _)); exact BK207.out⟩, ⟨by repeat (first | (with_reducible first | exact HB.out | apply b_a | apply b_n | apply b_d | refine b_s ?_ GE167.out | refine b_s ?_ GE194.out | refine b_s ?_ GE207.out) | exact HB.out)⟩⟩
         case round =>
          clear H'
          try clear c1
          try clear c2
          try clear p2
          try clear q2
          try clear hx2
          try clear p6
          try clear c8
          try clear c9
          try clear c14
          try clear p20
          try clear q20
          try clear hx20
          try clear c21
          try clear p64
          try clear c82
          try clear c82b0
          try clear c82b1
          try clear c83
          try clear c83b0
          try clear c83b1
          try clear c84
          try clear c84b0
          try clear c84b1
          try clear c85
          try clear c85b0
          try clear c85b1
          try clear c87
          try clear c88
          try clear c90
          try clear c91
          try clear hcz89_0
          try clear hcz89_1
          try clear hcz89_2
          try clear hfz89_0
          try clear hfz89_1
          try clear hfz89_2
          try clear hx208_0
          try clear hx209_0
          try clear p2
          try clear p20
          try clear p208
          try clear p209
          try clear p6
          try clear p64
          try clear q2
          try clear q20
          try clear q208
          try clear q209
          obtain ⟨x15_5, x25_5, rfl, HA, HK5, HO_7, HO_10, HO_12, HO_14, HO_15, HO_23, HO_195002, HO_208002, BK167, BK194, BK207, HB⟩ := hrel
          cases gk with
          | zero => exact absurd HA.out (by simp [pelotonlaw04_MatmulParts.l1])
          | succ k5 =>
           have H := HA.out
           clear HA
           simp only [pelotonlaw04_MatmulParts.l1] at H
           by_cases c94 : x25_5 < a0_0
           rotate_left
           ·
            rw [if_neg c94] at H
            have c94b0 : decide (x25_5 < a0_0) = false := decide_eq_false c94
            clear c94
            have H' := Aside0.mk H
            clear H
            have hnb111 := NB167_194.out
            have hnc111 := NB194_167.out
            have hnb112 := NB167_207.out
            have hnc112 := NB207_167.out
            have hcz113_0 : wr.cell? ⟨gb167, 0, none⟩ = some (.int .i64 a0_0) := (blk_cell BK167.out 0).trans rfl
            have hcz113_1 : wr.cell? ⟨gb167, 1, none⟩ = some (.int .i64 a0_1) := (blk_cell BK167.out 1).trans rfl
            have hcz113_2 : wr.cell? ⟨gb167, 2, none⟩ = some (.slice A0_2 l0_2.length c0_2) := (blk_cell BK167.out 2).trans rfl
            have hfz113_0 := blk_frozen BK167.out 0
            have hfz113_1 := blk_frozen BK167.out 1
            have hfz113_2 := blk_frozen BK167.out 2
            go_wp2
            go_roundg k5
            case measure => have := HJ3.out; have := HJ23.out; have := HK3.out; have := HJ55.out; have := HK5.out; omega
            case rel => exact ⟨(y215), (x15_5), (wrap64 (x16_3 + 1)), (by first | rfl | (simp; done) | (simp [*]; done)), H', ⟨by have := HJ3.out; have := HJ23.out; have := HK3.out; have := HJ55.out; have := HK5.out; omega⟩, ⟨by (with_reducible repeat (first | apply Kd.R_alloc | apply Kd.R_drewN | apply Kd.R_drew)); exact Kd.R_mono HO_7.out (fun _ hk => hk.1)⟩, ⟨by (with_reducible repeat (first | apply Kd.R_alloc | apply Kd.R_drewN | apply Kd.R_drew)); exact HO_10.out⟩, ⟨by (with_reducible repeat (first | apply Kd.R_alloc | apply Kd.R_drewN | apply Kd.R_drew)); exact HO_12.out⟩, ⟨by (with_reducible repeat (first | apply Kd.R_alloc | apply Kd.R_drewN | apply Kd.R_drew)); exact Kd.R_mono HO_14.out (fun _ hk => hk.1)⟩, ⟨by (with_reducible repeat (first | apply Kd.S_alloc | apply Kd.S_drewN | apply Kd.S_drew)); exact Kd.S_mono HO_15.out (fun _ hk => ⟨hk.1, hk.2.1⟩)⟩, ⟨by (with_reducible repeat (first | refine k_n ?_ _ | refine k_d ?_ | refine k_a ?_ _)); exact BK167.out⟩, ⟨by repeat (first | (with_reducible first | exact HB.out | apply b_a | apply b_n | apply b_d | refine b_s ?_ GE167.out | refine b_s ?_ GE194.out | refine b_s ?_ GE207.out) | exact HB.out)⟩⟩
           rw [if_pos c94] at H
           have c94b0 : decide (x25_5 < a0_0) = true := decide_eq_true c94
           clear c94
           by_cases c95 : 0 ≤ x25_5
           rotate_left
           ·
            rw [if_neg c95] at H
            exact absurd H (by simp)
           rw [if_pos c95] at H
           have c95b0 : decide (0 ≤ x25_5) = true := decide_eq_true c95
           clear c95
           by_cases c96 : x25_5 < (x15_5.length : Int)
           rotate_left
           ·
            rw [if_neg c96] at H
            exact absurd H (by simp)
           rw [if_pos c96] at H
           have c96b0 : decide (x25_5 < (x15_5.length : Int)) = true := decide_eq_true c96
           clear c96
           by_cases c97 : x25_5 < (t211.length : Int)
           rotate_left
           ·
            rw [if_neg c97] at H
            exact absurd H (by simp)
           rw [if_pos c97] at H
           have c97b0 : decide (x25_5 < (t211.length : Int)) = true := decide_eq_true c97
           clear c97
           by_cases c98 : (rd_L3 x15_5 x25_5).length < 35184372088832
           rotate_left
           ·
            rw [if_neg c98] at H
            exact absurd H (by simp)
           rw [if_pos c98] at H
           have LMc98 := Aside0.mk c98
           clear c98
           obtain ⟨y220, hy220⟩ : ∃ y_ : List Int, y_ = ((rd_L3 x15_5 x25_5) ++ [rd t211 x25_5]) := ⟨_, rfl⟩
           replace H : (pelotonlaw04_MatmulParts.l1 k5 l1 t171 (wrap64 (1 + (Int.tmod (wrap64 ((Int.tmod a2 9) + 9)) 9))) t175 t179 y215 (x15_5.set (x25_5 : Int).toNat y220) x16_3 t211 (wrap64 (x25_5 + 1)) a0_0 a0_1 l0_2) = some r := by first | (rw [hy220]; with_reducible exact H) | (have H2_ := (Option.bind_some _ _).symm.trans H; rw [hy220]; with_reducible exact H2_) | (have H2_ := (Option.bind_some _ _).symm.trans H; with_reducible exact H2_) | with_reducible exact H | (rw [hy220]; exact H) | exact H
           have Ny220 := Aside0.mk hy220
           clear hy220
           obtain ⟨y223, hy223⟩ : ∃ y_ : List (List Int), y_ = (x15_5.set (x25_5 : Int).toNat y220) := ⟨_, rfl⟩
           replace H : (pelotonlaw04_MatmulParts.l1 k5 l1 t171 (wrap64 (1 + (Int.tmod (wrap64 ((Int.tmod a2 9) + 9)) 9))) t175 t179 y215 y223 x16_3 t211 (wrap64 (x25_5 + 1)) a0_0 a0_1 l0_2) = some r := by first | (rw [hy223]; with_reducible exact H) | (have H2_ := (Option.bind_some _ _).symm.trans H; rw [hy223]; with_reducible exact H2_) | (have H2_ := (Option.bind_some _ _).symm.trans H; with_reducible exact H2_) | with_reducible exact H | (rw [hy223]; exact H) | exact H
           have Ny223 := Aside0.mk hy223
           clear hy223
           have H' := Aside0.mk H
           clear H
           have hnb100 := NB167_194.out
           have hnc100 := NB194_167.out
           have hnb101 := NB167_207.out
           have hnc101 := NB207_167.out
           have hcz102_0 : wr.cell? ⟨gb167, 0, none⟩ = some (.int .i64 a0_0) := (blk_cell BK167.out 0).trans rfl
           have hcz102_1 : wr.cell? ⟨gb167, 1, none⟩ = some (.int .i64 a0_1) := (blk_cell BK167.out 1).trans rfl
           have hcz102_2 : wr.cell? ⟨gb167, 2, none⟩ = some (.slice A0_2 l0_2.length c0_2) := (blk_cell BK167.out 2).trans rfl
           have hfz102_0 := blk_frozen BK167.out 0
           have hfz102_1 := blk_frozen BK167.out 1
           have hfz102_2 := blk_frozen BK167.out 2
           try go_wp2
           have n0_ := Aside0.mk (Kd.R_drew HO_7.out)
           have n1_ := Aside0.mk (Kd.R_drew HO_10.out)
           have n2_ := Aside0.mk (Kd.R_drew HO_12.out)
           have n3_ := Aside0.mk (Kd.R_drew HO_14.out)
           have n4_ := Aside0.mk (Kd.S_drew HO_15.out)
           have n5_ := Aside0.mk (Kd.R_drew HO_23.out)
           have n6_ := Aside0.mk (Kd.R_drew HO_195002.out)
           have n7_ := Aside0.mk (Kd.R_drew HO_208002.out)
           have n8_ := Aside0.mk (k_d BK167.out)
           have n9_ := Aside0.mk (k_d BK194.out)
           have n10_ := Aside0.mk (k_d BK207.out)
           have n11_ := Aside0.mk (b_d HB.out)
           clear HO_7
           clear HO_10
           clear HO_12
           clear HO_14
           clear HO_15
           clear HO_23
           clear HO_195002
           clear HO_208002
           clear BK167
           clear BK194
           clear BK207
           clear HB
           have HO_7 := n0_
           have HO_10 := n1_
           have HO_12 := n2_
           have HO_14 := n3_
           have HO_15 := n4_
           have HO_23 := n5_
           have HO_195002 := n6_
           have HO_208002 := n7_
           have BK167 := n8_
           have BK194 := n9_
           have BK207 := n10_
           have HB := n11_
           clear n0_ n1_ n2_ n3_ n4_ n5_ n6_ n7_ n8_ n9_ n10_ n11_
           obtain ⟨Ao104, co104, eo104⟩ := Kd.S_slice HO_15.out
           (first | subst eo104 | (injection eo104 with f1_ f2_ f3_; have f4_ := f1_.symm; have f5_ := f3_.symm; clear f1_ f2_ f3_; subst f4_; subst f5_))
           have p218 : 0 ≤ (x25_5 : Int) := of_decide_eq_true (by first | (with_reducible assumption) | assumption)
           have q218 : x25_5 < (x15_5.length : Int) := of_decide_eq_true (by first | (with_reducible assumption) | assumption)
           obtain ⟨ad218, A218_0, c218_0, e218, hx218_0, hl218_0, hi218_0⟩ := at_L3 (Kd.S_reads' HO_15.out).2.2 x25_5 p218 q218
           cases e218
           obtain ⟨ce218, hce218, hMe218, hcc218⟩ := Kd.S_get HO_15.out [] x25_5 p218 (by first | exact q218 | exact of_decide_eq_true (by first | (with_reducible assumption) | assumption) | (have e_ := (Kd.S_reads' HO_15.out).1; omega))
           obtain ⟨ve218_0, rfl, ge218_0⟩ := hMe218
           have hv218_0 := hcc218 0 _ rfl
           rw [Nat.add_zero, show ((Kd.slice 21 (Kd.int .i32))).sz = 1 from rfl, Nat.mul_one] at hv218_0
           replace hv218_0 := Option.some.inj (hv218_0.symm.trans hx218_0)
           rw [hv218_0] at ge218_0
           have HL218_0 := Aside0.mk (show Kd.R (Kd.int .i32) 21 _ _ _ _ (rd_L3 x15_5 x25_5) from ge218_0)
           clear hv218_0 ge218_0
           have HX218_0 := Aside0.mk hx218_0
           clear hcc218 hce218
           have HR218_0 := Aside0.mk hi218_0
           have HC218_0 := Aside0.mk hl218_0
           clear hi218_0 hl218_0
           replace p218 := eq_true p218
           replace q218 := eq_true q218
           obtain ⟨Ao105, co105, eo105⟩ := Kd.R_slice HO_23.out
           (first | subst eo105 | (injection eo105 with f1_ f2_ f3_; have f4_ := f1_.symm; have f5_ := f3_.symm; clear f1_ f2_ f3_; subst f4_; subst f5_))
           have p219 : 0 ≤ (x25_5 : Int) := of_decide_eq_true (by first | (with_reducible assumption) | assumption)
           have q219 : x25_5 < (t211.length : Int) := of_decide_eq_true (by first | (with_reducible assumption) | assumption)
           obtain ⟨ad219, e219, hx219_0⟩ := Kd.at_int (Kd.R_reads' HO_23.out).2.2 x25_5 p219 q219
           cases e219
           replace p219 := eq_true p219
           replace q219 := eq_true q219
           obtain ⟨go106, co106, eo106, gb106, gl106, cl106, HG106⟩ := Kd.S_form HO_15.out (by have h_ : (x25_5 : Int) < ((x15_5.length : Int) : Int) := of_decide_eq_true (by first | (with_reducible assumption) | assumption); have h2_ : 0 ≤ (x25_5 : Int) := (of_decide_eq_true (by first | (with_reducible assumption) | assumption)); omega)
           (first | cases eo106 | (injection eo106 with ea_ en_ ec_; (first | subst ea_ | (injection ea_ with ea_; subst ea_)); subst ec_; clear en_))
           have GB106 := Aside0.mk gb106
           have GG106 := Aside0.mk HG106
           clear gb106 gl106 HG106
           (first | simp only [add_plain] at hx218_0 | skip)
           obtain ⟨oki106, ce106, hcl106, hM106, hcc106, _, _, hH106⟩ := Kd.S_elem HO_15.out [] (x25_5 : Int) (of_decide_eq_true (by first | (with_reducible assumption) | assumption)) (by have h_ : (x25_5 : Int) < ((x15_5.length : Int) : Int) := of_decide_eq_true (by first | (with_reducible assumption) | assumption); first | exact h_ | (have e_ := (Kd.S_reads' HO_15.out).1; omega) | simpa using h_)
           obtain ⟨ve106_0, rfl, ge106_0⟩ := hM106
           have hv106 := hcc106 0 _ rfl
           have hX106 := HX218_0.out
           (try simp only [add_plain] at hX106)
           (try simp only [Nat.add_zero] at hv106)
           (try rw [show ((Kd.slice 21 (Kd.int .i32))).sz = 1 from rfl, Nat.mul_one] at hv106)
           replace hv106 := Option.some.inj (hv106.symm.trans hX106)
           subst hv106
           clear hX106 hcc106 hcl106
           have UU106 := Aside0.mk (show Kd.R (Kd.int .i32) 21 _ w.heap.size oki106 (.slice A218_0 (rd_L3 x15_5 x25_5).length c218_0) (rd_L3 x15_5 x25_5) from ge106_0)
           have HH106 := Aside0.mk hH106
           have HN106 := Aside0.mk (Kd.S_reads' HO_15.out).1
           clear hH106 ge106_0
           refine start_ (n := 14) (S := fun w' => w'.cell? ⟨go106, (x25_5).toNat, none⟩ = some (.slice A218_0 (rd_L3 x15_5 x25_5).length c218_0) ∧ w'.cell? (ad219.add (x25_5).toNat) = some (.int .i32 (rd t211 x25_5))) (ds := [11, 13]) #[false, false, false, false, false, false, false, false, false, false, false, false, false, false] (by kernel_rfl) rfl rfl ⟨hx218_0, hx219_0⟩ (fun hHeld => ?_); refine with_tabW pelotonlaw04_MatmulParts.tab26 pelotonlaw04_MatmulParts.bits26 (fun HT_ HW_ => ?_)
           generalize wr.drew = w103 at HO_7 HO_10 HO_12 HO_14 HO_15 HO_23 HO_195002 HO_208002 BK167 BK194 BK207 HB GG106 HH106 HL218_0 HR218_0 HX218_0 UU106 hx218_0 hx219_0 hHeld ⊢
           refine pure_ (i := 0) (N := some 167) (v := ?_) (a' := ?_) #[true, false, false, false, false, false, false, false, false, false, false, false, false, false] rfl rfl (any_of HT_.out (by kernel_rfl)) (fun _ _ _ h => h) (Or.inl ⟨by rfl, ?_⟩) ?_ ?_
           rotate_left
           ·
            intro w'
            go_simp
            with_reducible rfl
           rotate_left
           ·
            simp only [Act.put, l_1, l_2, l_3, i64_w, i32_w]
            rfl
           refine pure_ (i := 1) (N := some 168) (v := ?_) (a' := ?_) #[true, true, false, false, false, false, false, false, false, false, false, false, false, false] rfl rfl (any_of HT_.out (by kernel_rfl)) (fun _ _ _ h => h) (Or.inl ⟨by rfl, ?_⟩) ?_ ?_
           rotate_left
           ·
            intro w'
            go_simp
            with_reducible rfl
           rotate_left
           ·
            simp only [Act.put, l_1, l_2, l_3, i64_w, i32_w]
            rfl
           refine pure_ (i := 2) (N := some 169) (v := ?_) (a' := ?_) #[true, true, true, false, false, false, false, false, false, false, false, false, false, false] rfl rfl (any_of HT_.out (by kernel_rfl)) (fun _ _ _ h => h) (Or.inl ⟨by rfl, ?_⟩) ?_ ?_
           rotate_left
           ·
            intro w'
            go_simp
            with_reducible rfl
           rotate_left
           ·
            simp only [Act.put, l_1, l_2, l_3, i64_w, i32_w]
            rfl
           refine pure_ (i := 3) (N := some 170) (v := ?_) (a' := ?_) #[true, true, true, true, false, false, false, false, false, false, false, false, false, false] rfl rfl (any_of HT_.out (by kernel_rfl)) (fun _ _ _ h => h) (Or.inl ⟨by rfl, ?_⟩) ?_ ?_
           rotate_left
           ·
            intro w'
            go_simp
            with_reducible rfl
           rotate_left
           ·
            simp only [Act.put, l_1, l_2, l_3, i64_w, i32_w]
            rfl
           refine pure_ (i := 4) (N := some 171) (v := ?_) (a' := ?_) #[true, true, true, true, true, false, false, false, false, false, false, false, false, false] rfl rfl (any_of HT_.out (by kernel_rfl)) (fun _ _ _ h => h) (Or.inl ⟨by rfl, ?_⟩) ?_ ?_
           rotate_left
           ·
            intro w'
            go_simp
            with_reducible rfl
           rotate_left
           ·
            simp only [Act.put, l_1, l_2, l_3, i64_w, i32_w]
            rfl
           refine pure_ (i := 6) (N := some 173) (v := ?_) (a' := ?_) #[true, true, true, true, true, false, true, false, false, false, false, false, false, false] rfl rfl (any_of HT_.out (by kernel_rfl)) (fun _ _ _ h => h) (Or.inl ⟨by rfl, ?_⟩) ?_ ?_
           rotate_left
           ·
            intro w'
            go_simp
            with_reducible rfl
           rotate_left
           ·
            simp only [Act.put, l_1, l_2, l_3, i64_w, i32_w]
            rfl
           refine pure_ (i := 7) (N := some 174) (v := ?_) (a' := ?_) #[true, true, true, true, true, false, true, true, false, false, false, false, false, false] rfl rfl (any_of HT_.out (by kernel_rfl)) (fun _ _ _ h => h) (Or.inl ⟨by rfl, ?_⟩) ?_ ?_
           rotate_left
           ·
            intro w'
            go_simp
            with_reducible rfl
           rotate_left
           ·
            simp only [Act.put, l_1, l_2, l_3, i64_w, i32_w]
            rfl
           refine pure_ (i := 8) (N := some 175) (v := ?_) (a' := ?_) #[true, true, true, true, true, false, true, true, true, false, false, false, false, false] rfl rfl (any_of HT_.out (by kernel_rfl)) (fun _ _ _ h => h) (Or.inl ⟨by rfl, ?_⟩) ?_ ?_
           rotate_left
           ·
            intro w'
            go_simp
            with_reducible rfl
           rotate_left
           ·
            simp only [Act.put, l_1, l_2, l_3, i64_w, i32_w]
            rfl
           refine take_ (i := 5) (N := some 172) (v := ?_) (a' := ?_) #[true, true, true, true, true, true, true, true, true, false, false, false, false, false] rfl rfl (take_ofW HT_.out HW_.out (by kernel_rfl)) (fun _ _ _ h => h) (Or.inl ⟨by rfl, ?_⟩) hHeld ?_ ?_
           rotate_left
           ·
            rintro w' ⟨s0, s1⟩
            go_simp
            with_reducible rfl
           rotate_left
           ·
            simp only [Act.put, l_1, l_2, l_3, i64_w, i32_w]
            rfl
           refine take_ (i := 9) (N := some 176) (v := ?_) (a' := ?_) #[true, true, true, true, true, true, true, true, true, true, false, false, false, false] rfl rfl (take_ofW HT_.out HW_.out (by kernel_rfl)) (fun _ _ _ h => h) (Or.inl ⟨by rfl, ?_⟩) hHeld ?_ ?_
           rotate_left
           ·
            rintro w' ⟨s0, s1⟩
            go_simp
            with_reducible rfl
           rotate_left
           ·
            simp only [Act.put, l_1, l_2, l_3, i64_w, i32_w]
            rfl
           refine one_ (i := 10) (N := some 177) #[true, true, true, true, true, true, true, true, true, true, true, false, false, false] rfl rfl (one_of HT_.out (by kernel_rfl)) (by decide) (fun K hK => ?_)
           refine value_ (w1 := ?_) (v := ?_) (by rfl) rfl ?_ ?_
           rotate_left 2
           ·
            go_simp
            constructor
            ·
             rfl
            ·
             rfl
           refine hK.out _ _ ⟨(World.cell?_alloc_lt _ _ _ (World.block_lt_of_cell? _ _ (hHeld.1))).trans (hHeld.1), (World.cell?_alloc_lt _ _ _ (World.block_lt_of_cell? _ _ (hHeld.2))).trans (hHeld.2)⟩ (fun hHeld => ?_)
           clear hK K
           refine norm_ (a' := ?_) ?_ ?_
           rotate_left
           ·
            show Act.put _ (some 177) _ = _
            simp only [Act.put, l_1, l_2, l_3, i64_w, i32_w]
            rfl
           refine last_ (i := 11) (N := some 178) #[true, true, true, true, true, true, true, true, true, true, true, true, false, false] rfl rfl (one_of HT_.out (by kernel_rfl)) (by decide) (fun K hK => ?_)
           refine Kd.R_append_step (Kd.int .i32) (w0 := w) w.heap.size (by rfl) (.tmp 172) (.tmp 177) 32 21 (.int .i32 0) 4 rfl Try.underlying32 info21 rfl (by decide) (by omega) (.slice A218_0 (rd_L3 x15_5 x25_5).length c218_0) (rd_L3 x15_5 x25_5) (rd t211 x25_5) [.int .i32 (rd t211 x25_5)] (fun k_ => oki106 k_ ∨ ((fun k_ => some k_ ≠ (v172 : Value).ownBlock ∧ some k_ ≠ (v216 : Value).ownBlock ∧ some k_ ≠ (.slice (some ad219) t211.length co105 : Value).ownBlock)) k_ ∧ w103.heap.size ≤ k_) (fun _ => False) rfl rfl ?aP (fun _ hk => hk.elim) ?aF ?aO ?aB ?aS ?aL ?_
           (case aP => exact rfl)
           (case aB => exact (by repeat (first | (with_reducible first | exact HB.out | apply b_a | apply b_n | apply b_d | refine b_s ?_ GE167.out | refine b_s ?_ GE194.out | refine b_s ?_ GE207.out) | exact HB.out)))
           (case aF => exact (fun k_ hk => .inr ⟨⟨Kd.fresh' (Kd.R_lt (by (with_reducible repeat (first | apply Kd.R_alloc | apply Kd.R_drewN | apply Kd.R_drew)); exact HO_7.out)) k_ hk, Kd.fresh' (Kd.R_lt (by (with_reducible repeat (first | apply Kd.R_alloc | apply Kd.R_drewN | apply Kd.R_drew)); exact HO_14.out)) k_ hk, Kd.fresh' (Kd.R_lt (by (with_reducible repeat (first | apply Kd.R_alloc | apply Kd.R_drewN | apply Kd.R_drew)); exact HO_23.out)) k_ hk⟩, hk⟩))
           (case aO => exact (by (with_reducible repeat (first | apply Kd.R_alloc | apply Kd.R_drewN | apply Kd.R_drew)); exact Kd.R_mono UU106.out (fun _ hk => .inl hk)))
           (case aS => exact (below_size (by repeat (first | (with_reducible first | exact HB.out | apply b_a | apply b_n | apply b_d | refine b_s ?_ GE167.out | refine b_s ?_ GE194.out | refine b_s ?_ GE207.out) | exact HB.out))))
           (case aL => have := LMc98.out; omega)
           intro v221 w107 ho hb hg hat
           rw [← Ny220.out] at ho
           have n0_ := Aside0.mk (Kd.R_grown2 (by (with_reducible repeat (first | apply Kd.R_alloc | apply Kd.R_drewN | apply Kd.R_drew)); exact HO_7.out) rfl hg (fun k_ e_ => (HL218_0.out.1 k_ e_).1.1))
           have n1_ := Aside0.mk (Kd.R_over' (v := (.slice A218_0 (rd_L3 x15_5 x25_5).length c218_0)) (by (with_reducible repeat (first | apply Kd.R_alloc | apply Kd.R_drewN | apply Kd.R_drew)); exact HO_10.out) (Kd.R_typed HL218_0.out) (by decide) hg)
           have n2_ := Aside0.mk (Kd.R_over' (v := (.slice A218_0 (rd_L3 x15_5 x25_5).length c218_0)) (by (with_reducible repeat (first | apply Kd.R_alloc | apply Kd.R_drewN | apply Kd.R_drew)); exact HO_12.out) (Kd.R_typed HL218_0.out) (by decide) hg)
           have n3_ := Aside0.mk (Kd.R_grown2 (by (with_reducible repeat (first | apply Kd.R_alloc | apply Kd.R_drewN | apply Kd.R_drew)); exact HO_14.out) rfl hg (fun k_ e_ => (HL218_0.out.1 k_ e_).1.2.1))
           have n4_ := Aside0.mk (Kd.R_grown2 (by (with_reducible repeat (first | apply Kd.R_alloc | apply Kd.R_drewN | apply Kd.R_drew)); exact HO_23.out) rfl hg (fun k_ e_ => (HL218_0.out.1 k_ e_).1.2.2))
           have n5_ := Aside0.mk (Kd.R_over' (v := (.slice A218_0 (rd_L3 x15_5 x25_5).length c218_0)) (by (with_reducible repeat (first | apply Kd.R_alloc | apply Kd.R_drewN | apply Kd.R_drew)); exact HO_195002.out) (Kd.R_typed HL218_0.out) (by decide) hg)
           have n6_ := Aside0.mk (Kd.R_over' (v := (.slice A218_0 (rd_L3 x15_5 x25_5).length c218_0)) (by (with_reducible repeat (first | apply Kd.R_alloc | apply Kd.R_drewN | apply Kd.R_drew)); exact HO_208002.out) (Kd.R_typed HL218_0.out) (by decide) hg)
           have n7_ := Aside0.mk (blk_grown (g := gb167) (o := .cells #[.int .i64 a0_0, .int .i64 a0_1, .slice A0_2 l0_2.length c0_2] 30 (0, 0)) (by (with_reducible repeat (first | refine k_n ?_ _ | refine k_d ?_ | refine k_a ?_ _)); exact BK167.out) hg (Kd.R_ne HL218_0.out BK167.out (by decide)))
           have n8_ := Aside0.mk (blk_grown (g := gb194) (o := .cells #[.int .i64 t188, .int .i64 t189, .slice Ao64 t190.length co64] 30 (0, 0)) (by (with_reducible repeat (first | refine k_n ?_ _ | refine k_d ?_ | refine k_a ?_ _)); exact BK194.out) hg (Kd.R_ne HL218_0.out BK194.out (by decide)))
           have n9_ := Aside0.mk (blk_grown (g := gb207) (o := .cells #[.int .i64 t201, .int .i64 t202, .slice Ao76 t203.length co76] 30 (0, 0)) (by (with_reducible repeat (first | refine k_n ?_ _ | refine k_d ?_ | refine k_a ?_ _)); exact BK207.out) hg (Kd.R_ne HL218_0.out BK207.out (by decide)))
           have n10_ := Aside0.mk (hb)
           have n11_ := Aside0.mk (Kd.H_grown (Kd.H_widen (by repeat (first | exact HH106.out | refine Kd.H_alloc ?_ _ | refine Kd.H_drewN ?_ _ | refine Kd.H_drew ?_))) hg (fun k_ e_ => .inl (UU106.out.1 k_ e_)))
           have n12_ := Aside0.mk (ho)
           clear HO_7
           clear HO_10
           clear HO_12
           clear HO_14
           clear HO_23
           clear HO_195002
           clear HO_208002
           clear BK167
           clear BK194
           clear BK207
           clear HB
           clear HH106
           clear HO_15
           clear UU106
           clear HL218_0
           have HO_7 := n0_
           have HO_10 := n1_
           have HO_12 := n2_
           have HO_14 := n3_
           have HO_23 := n4_
           have HO_195002 := n5_
           have HO_208002 := n6_
           have BK167 := n7_
           have BK194 := n8_
           have BK207 := n9_
           have HB := n10_
           have HH106 := n11_
           have HO222 := n12_
           clear n0_ n1_ n2_ n3_ n4_ n5_ n6_ n7_ n8_ n9_ n10_ n11_ n12_
           clear ho hb hg hat
           have p99 : 0 ≤ (x25_5 : Int) := of_decide_eq_true (by first | (with_reducible assumption) | assumption)
           have q99 : (x25_5 : Int) < ((x15_5.length : Int) : Int) := of_decide_eq_true (by first | (with_reducible assumption) | assumption)
           replace p99 := eq_true p99
           replace q99 := eq_true q99
           obtain ⟨Ao110, co110, eo110⟩ := Kd.R_slice HO222.out
           (first | subst eo110 | (injection eo110 with f1_ f2_ f3_; have f4_ := f1_.symm; have f5_ := f3_.symm; clear f1_ f2_ f3_; subst f4_; subst f5_))
           obtain ⟨_, _, hraw108, _, _, hcc108, _⟩ := Kd.H_raw HH106.out (of_decide_eq_true (by first | (with_reducible assumption) | assumption)) (by have h_ : (x25_5 : Int) < ((x15_5.length : Int) : Int) := of_decide_eq_true (by first | (with_reducible assumption) | assumption); first | exact h_ | (have e_ := (HN106.out); omega) | simpa using h_)
           obtain ⟨_, hfr108⟩ := Kd.H_at HH106.out (of_decide_eq_true (by first | (with_reducible assumption) | assumption)) (by have h_ : (x25_5 : Int) < ((x15_5.length : Int) : Int) := of_decide_eq_true (by first | (with_reducible assumption) | assumption); first | exact h_ | (have e_ := (HN106.out); omega) | simpa using h_)
           have hx108_0 := hcc108 0 _ rfl
           have hf108_0 := hfr108 0
           (try simp only [Nat.add_zero] at hx108_0 hf108_0)
           (try rw [show ((Kd.slice 21 (Kd.int .i32))).sz = 1 from rfl, Nat.mul_one] at hx108_0)
           (try rw [show ((Kd.slice 21 (Kd.int .i32))).sz = 1 from rfl, Nat.mul_one] at hf108_0)
           have HP108 := Kd.S_seg0 HH106.out (of_decide_eq_true (by first | (with_reducible assumption) | assumption)) (by have h_ : (x25_5 : Int) < ((x15_5.length : Int) : Int) := of_decide_eq_true (by first | (with_reducible assumption) | assumption); first | exact h_ | (have e_ := (HN106.out); omega) | simpa using h_) (seg := [.slice Ao110 y220.length co110]) (j := 0) (show 1 ≤ 1 from by decide) (x' := y220) (Kd.M_row HO222.out) (fun _ hk => hk)
           (try simp only [show ((Kd.slice 21 (Kd.int .i32))).sz = 1 from rfl, Nat.mul_one, Nat.add_zero] at HP108)
           clear hcc108 hfr108
           have HNB167_go106 := Aside0.mk (show gb167 ≠ go106 from by have h_ := Kd.R_ne hraw108 BK167.out (by decide); intro e_; exact h_ (by rw [e_]; rfl))
           have HNB194_go106 := Aside0.mk (show gb194 ≠ go106 from by have h_ := Kd.R_ne hraw108 BK194.out (by decide); intro e_; exact h_ (by rw [e_]; rfl))
           have HNB207_go106 := Aside0.mk (show gb207 ≠ go106 from by have h_ := Kd.R_ne hraw108 BK207.out (by decide); intro e_; exact h_ (by rw [e_]; rfl))
           have HS108 := HP108.1
           rw [← Ny223.out] at HS108
           have HQ108 := Aside0.mk HS108
           obtain ⟨_, hgg108⟩ := Kd.R_typed hraw108 go106 rfl
           have GG108_ := Aside0.mk hgg108
           clear HP108 HS108 hgg108
           refine hK.out _ _ ?_
           clear hK K
           refine norm_ (a' := ?_) ?_ ?_
           rotate_left
           ·
            show Act.put _ (some 178) _ = _
            simp only [Act.put, l_1, l_2, l_3, i64_w, i32_w]
            rfl
           refine pure_ (i := 12) (N := some 179) (v := ?_) (a' := ?_) #[true, true, true, true, true, true, true, true, true, true, true, true, true, false] rfl rfl (any_of HT_.out (by kernel_rfl)) (fun _ _ _ h => h) (Or.inl ⟨by rfl, ?_⟩) ?_ ?_
           rotate_left
           ·
            intro w'
            go_simp
            with_reducible rfl
           rotate_left
           ·
            simp only [Act.put, l_1, l_2, l_3, i64_w, i32_w]
            rfl
           refine last_ (i := 13) (N := none) #[true, true, true, true, true, true, true, true, true, true, true, true, true, true] rfl rfl (one_of HT_.out (by kernel_rfl)) (by decide) (fun K hK => ?_)
           refine skip_ (w1 := ?_) (by rfl) rfl ?_ ?_
           rotate_left
           ·
            go_simp
            rfl
           refine hK.out _ _ ?_
           clear hK K
           refine done_ (done_of HT_.out (by kernel_rfl)) ?_
           try go_wp2
           go_roundg k5
           case measure => have := HJ3.out; have := HJ23.out; have := HK3.out; have := HJ55.out; have := HK5.out; omega
           case rel => exact ⟨(y223), (wrap64 (x25_5 + 1)), (by first | rfl | (simp; done) | (simp [*]; done)), H', ⟨by have := HJ3.out; have := HJ23.out; have := HK3.out; have := HJ55.out; have := HK5.out; omega⟩, ⟨by (with_reducible repeat (first | apply Kd.R_alloc | apply Kd.R_drewN | apply Kd.R_drew)); exact Kd.R_mono (Kd.R_far (p := ⟨go106, (x25_5 : Int).toNat, none⟩) (Kd.R_types HO_7.out GG108_.out (by decide)) (fun _ hk => hk.2) (.slice Ao110 y220.length co110)) (fun _ hk => ⟨hk.1.1, hk.1.2⟩)⟩, ⟨by (with_reducible repeat (first | apply Kd.R_alloc | apply Kd.R_drewN | apply Kd.R_drew)); exact Kd.R_mono (Kd.R_far (p := ⟨go106, (x25_5 : Int).toNat, none⟩) (Kd.R_types HO_10.out GG108_.out (by decide)) (fun _ hk => hk.2) (.slice Ao110 y220.length co110)) (fun _ hk => hk.1)⟩, ⟨by (with_reducible repeat (first | apply Kd.R_alloc | apply Kd.R_drewN | apply Kd.R_drew)); exact Kd.R_mono (Kd.R_far (p := ⟨go106, (x25_5 : Int).toNat, none⟩) (Kd.R_types HO_12.out GG108_.out (by decide)) (fun _ hk => hk.2) (.slice Ao110 y220.length co110)) (fun _ hk => hk.1)⟩, ⟨by (with_reducible repeat (first | apply Kd.R_alloc | apply Kd.R_drewN | apply Kd.R_drew)); exact Kd.R_mono (Kd.R_far (p := ⟨go106, (x25_5 : Int).toNat, none⟩) (Kd.R_types HO_14.out GG108_.out (by decide)) (fun _ hk => hk.2) (.slice Ao110 y220.length co110)) (fun _ hk => ⟨hk.1.1, hk.1.2⟩)⟩, ⟨by (with_reducible repeat (first | apply Kd.S_alloc | apply Kd.S_drewN | apply Kd.S_drew)); exact HQ108.out⟩, ⟨by (with_reducible repeat (first | apply Kd.R_alloc | apply Kd.R_drewN | apply Kd.R_drew)); exact Kd.R_mono (Kd.R_far (p := ⟨go106, (x25_5 : Int).toNat, none⟩) (Kd.R_types HO_23.out GG108_.out (by decide)) (fun _ hk => hk.2) (.slice Ao110 y220.length co110)) (fun _ hk => ⟨hk.1.1, hk.1.2⟩)⟩, ⟨by (with_reducible repeat (first | apply Kd.R_alloc | apply Kd.R_drewN | apply Kd.R_drew)); exact Kd.R_mono (Kd.R_far (p := ⟨go106, (x25_5 : Int).toNat, none⟩) (Kd.R_types HO_195002.out GG108_.out (by decide)) (fun _ hk => hk.2) (.slice Ao110 y220.length co110)) (fun _ hk => hk.1)⟩, ⟨by (with_reducible repeat (first | apply Kd.R_alloc | apply Kd.R_drewN | apply Kd.R_drew)); exact Kd.R_mono (Kd.R_far (p := ⟨go106, (x25_5 : Int).toNat, none⟩) (Kd.R_types HO_208002.out GG108_.out (by decide)) (fun _ hk => hk.2) (.slice Ao110 y220.length co110)) (fun _ hk => hk.1)⟩, ⟨by (with_reducible repeat (first | refine k_n ?_ _ | refine k_d ?_ | refine k_a ?_ _)); refine blk_far ?_ HNB167_go106.out _; (with_reducible repeat (first | refine k_n ?_ _ | refine k_d ?_ | refine k_a ?_ _)); exact BK167.out⟩, ⟨by (with_reducible repeat (first | refine k_n ?_ _ | refine k_d ?_ | refine k_a ?_ _)); refine blk_far ?_ HNB194_go106.out _; (with_reducible repeat (first | refine k_n ?_ _ | refine k_d ?_ | refine k_a ?_ _)); exact BK194.out⟩, ⟨by (with_reducible repeat (first | refine k_n ?_ _ | refine k_d ?_ | refine k_a ?_ _)); refine blk_far ?_ HNB207_go106.out _; (with_reducible repeat (first | refine k_n ?_ _ | refine k_d ?_ | refine k_a ?_ _)); exact BK207.out⟩, ⟨by repeat (first | (with_reducible first | exact HB.out | apply b_a | apply b_n | apply b_d | refine b_s ?_ GB106.out | refine b_s ?_ GE167.out | refine b_s ?_ GE194.out | refine b_s ?_ GE207.out) | exact HB.out)⟩⟩
/-- THE ONE PURE STATEMENT of pelotonlaw04_MatmulParts. -/
def pelotonlaw04_MatmulParts.Pure : Prop := ∀ (a0_0 : Int) (a0_1 : Int) (l0_2 : List Int) (l1 : List Int) (a2 : Int), ((Lit.int .i64 a0_0).wf = true ∧ (Lit.int .i64 a0_1).wf = true ∧ l0_2.length ≤ maxLen ∧ ∀ y0 ∈ l0_2, (Lit.int .i8 y0).wf = true) → (l1.length ≤ maxLen ∧ ∀ y0 ∈ l1, (Lit.int .i8 y0).wf = true) → ((Lit.int .i64 a2).wf = true) → ∃ k, pelotonlaw04_MatmulParts.f k a0_0 a0_1 l0_2 l1 a2 = some true

end Go.Proofs.Ytananmepljeldaa.QMatmulParts
