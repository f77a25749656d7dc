-- Written by a program of this session (a turned copy of the print) out of the translation. Lean checks it.
import Derived.Test.YtggcgacndknlaaaQGridCutsx0
import Derived.Test.YtggcgacndknlaaaQGridCutsx2
import Derived.Test.YtggcgacndknlaaaQGridCutsx3
import Derived.Test.YtggcgacndknlaaaQGridCutsx4
import Derived.Test.YtggcgacndknlaaaQGridCutsx5
import Derived.Test.YtggcgacndknlaaaQGridCutsx6
import Derived.Test.YtggcgacndknlaaaQGridCutsx7
namespace Go.Proofs.Ytggcgacndknlaaa.QGridCuts
open Go.RowKit Go.Proofs.YtggcgacndknlaaaW.PrintWords Go.Proofs.YtggcgacndknlaaaW.PrintLast Go.Proofs.YtggcgacndknlaaaW.PrintMore
attribute [local go_sem] max2_int min2_int max_two min_two max_three min_three max_four min_four   -- for this text's walks alone
open Go.Proofs.YtggcgacndknlaaaW.PrintWords renaming below_alloc → b_a, pw_below_drewN → b_n, below_drew1 → b_d, below_set → b_s, blk_drewN → k_n, blk_drew → k_d, blk_alloc → k_a
open List renaming setIfInBounds_toArray → l_1, set_cons_zero → l_2, set_cons_succ → l_3, map_toArray → l_4, map_cons → l_5, map_nil → l_6, length_drop → l_7, length_take → l_8
set_option linter.unusedVariables false
set_option linter.unusedSimpArgs false

/-! ### pelotonlaw03_GridCuts: function 7 -/
mutual
def pelotonlaw03_GridCuts.j0 : Nat → Int → Int → Bool → Int → Int → List Int → Option (Bool)
 | 0, _, _, _, _, _, _ => none
 | k + 1, x1, x2, x21, x194000, x194001, x194002 => if x21 = true then ((pelotonlaw03_awake.f).bind fun t199 => (some t199)) else ((pelotonlaw03_copied.f k (([(⟨x194000, x194001, x194002⟩ : S24)] : List (S24)))).bind fun t203 => (if 0 < (t203.length : Int) then ((grid_Rows.f k ((rd_T24 t203 0).f0) ((rd_T24 t203 0).f1) ((rd_T24 t203 0).f2) x1 x2).bind fun bt208 => ((grid_Cols.f k ((rd_T24 t203 0).f0) ((rd_T24 t203 0).f1) ((rd_T24 t203 0).f2) x1 x2).bind fun bt215 => ((grid_Turn.f k ((rd_T24 t203 0).f0) ((rd_T24 t203 0).f1) ((rd_T24 t203 0).f2)).bind fun bt222 => ((pelotonref03_Same.f k ((rd_T24 t203 0).f0) ((rd_T24 t203 0).f1) ((rd_T24 t203 0).f2) x194000 x194001 x194002).bind fun t229 => (if t229 = true then ((pelotonref03_Fit.f x194000 x194001 x194002).bind fun t230 => (if t230 = true then ((pelotonref03_Turn.f k x194000 x194001 x194002).bind fun bt231 => ((pelotonlaw03_held.f k bt222.1 bt222.2.1 bt222.2.2.1 bt222.2.2.2 bt231.1 bt231.2.1 bt231.2.2 true).bind fun t236 => (if t236 = true then (if x1 < 0 then (pelotonlaw03_GridCuts.j1 k x1 x2 bt208.2.2.2 bt215.2.2.2 true x194000 x194001 x194002 bt208.1 bt208.2.1 bt208.2.2.1 bt215.1 bt215.2.1 bt215.2.2.1) else (if x1 > x2 then (pelotonlaw03_GridCuts.j1 k x1 x2 bt208.2.2.2 bt215.2.2.2 true x194000 x194001 x194002 bt208.1 bt208.2.1 bt208.2.2.1 bt215.1 bt215.2.1 bt215.2.2.1) else (pelotonlaw03_GridCuts.j1 k x1 x2 bt208.2.2.2 bt215.2.2.2 (decide (x2 > x194000)) x194000 x194001 x194002 bt208.1 bt208.2.1 bt208.2.2.1 bt215.1 bt215.2.1 bt215.2.2.1))) else (some false)))) else (if bt208.2.2.2 = 30 then (if bt215.2.2.2 = 30 then (some (bt222.2.2.2 == 30)) else (some false)) else (some false)))) else (some false)))))) else (none)))
def pelotonlaw03_GridCuts.j1 : Nat → Int → Int → Int → Int → Bool → Int → Int → List Int → Int → Int → List Int → Int → Int → List Int → Option (Bool)
 | 0, _, _, _, _, _, _, _, _, _, _, _, _, _, _ => none
 | k + 1, x1, x2, x9, x11, x82, x194000, x194001, x194002, x215000, x215001, x215002, x222000, x222001, x222002 => if x82 = true then (if x9 = 2 then ((pelotonref03_Same.f k x215000 x215001 x215002 0 0 ([] : List Int)).bind fun t237 => (if t237 = true then (pelotonlaw03_GridCuts.j2 k x1 x2 x11 x194000 x194001 x194002 x222000 x222001 x222002) else (some false))) else (some false)) else ((pelotonref03_Part.f k x194000 x194001 x194002 x1 x2 0 x194001).bind fun bt238 => ((pelotonlaw03_held.f k x215000 x215001 x215002 x9 bt238.1 bt238.2.1 bt238.2.2 true).bind fun t243 => (if t243 = true then (pelotonlaw03_GridCuts.j2 k x1 x2 x11 x194000 x194001 x194002 x222000 x222001 x222002) else (some false))))
def pelotonlaw03_GridCuts.j2 : Nat → Int → Int → Int → Int → Int → List Int → Int → Int → List Int → Option (Bool)
 | 0, _, _, _, _, _, _, _, _, _ => none
 | k + 1, x1, x2, x11, x194000, x194001, x194002, x222000, x222001, x222002 => if x1 < 0 then (pelotonlaw03_GridCuts.j3 k x1 x2 x11 true x194000 x194001 x194002 x222000 x222001 x222002) else (if x1 > x2 then (pelotonlaw03_GridCuts.j3 k x1 x2 x11 true x194000 x194001 x194002 x222000 x222001 x222002) else (pelotonlaw03_GridCuts.j3 k x1 x2 x11 (decide (x2 > x194001)) x194000 x194001 x194002 x222000 x222001 x222002))
def pelotonlaw03_GridCuts.j3 : Nat → Int → Int → Int → Bool → Int → Int → List Int → Int → Int → List Int → Option (Bool)
 | 0, _, _, _, _, _, _, _, _, _, _ => none
 | k + 1, x1, x2, x11, x113, x194000, x194001, x194002, x222000, x222001, x222002 => if x113 = true then (if x11 = 2 then ((pelotonref03_Same.f k x222000 x222001 x222002 0 0 ([] : List Int)).bind fun t244 => (some t244)) else (some false)) else ((pelotonref03_Part.f k x194000 x194001 x194002 0 x194000 x1 x2).bind fun bt245 => ((pelotonlaw03_held.f k x222000 x222001 x222002 x11 bt245.1 bt245.2.1 bt245.2.2 true).bind fun t250 => (some t250)))
end
def pelotonlaw03_GridCuts.f (k : Nat) (a0_0 : Int) (a0_1 : Int) (l0_2 : List Int) (a1 : Int) (a2 : Int) : Option (Bool) := (pelotonlaw03_awake.f).bind fun t194 => (if t194 = true then ((pelotonlaw03_small.f k (([(⟨a0_0, a0_1, l0_2⟩ : S24)] : List (S24)))).bind fun t198 => (pelotonlaw03_GridCuts.j0 k a1 a2 (!t198) a0_0 a0_1 l0_2)) else (pelotonlaw03_GridCuts.j0 k a1 a2 true a0_0 a0_1 l0_2))
theorem pelotonlaw03_GridCuts.mono_l : ∀ k, (∀ y0 y1 y2 y3 y4 y5, LeO (pelotonlaw03_GridCuts.j0 k y0 y1 y2 y3 y4 y5) (pelotonlaw03_GridCuts.j0 (k + 1) y0 y1 y2 y3 y4 y5)) ∧ (∀ y0 y1 y2 y3 y4 y5 y6 y7 y8 y9 y10 y11 y12 y13, LeO (pelotonlaw03_GridCuts.j1 k y0 y1 y2 y3 y4 y5 y6 y7 y8 y9 y10 y11 y12 y13) (pelotonlaw03_GridCuts.j1 (k + 1) y0 y1 y2 y3 y4 y5 y6 y7 y8 y9 y10 y11 y12 y13)) ∧ (∀ y0 y1 y2 y3 y4 y5 y6 y7 y8, LeO (pelotonlaw03_GridCuts.j2 k y0 y1 y2 y3 y4 y5 y6 y7 y8) (pelotonlaw03_GridCuts.j2 (k + 1) y0 y1 y2 y3 y4 y5 y6 y7 y8)) ∧ (∀ y0 y1 y2 y3 y4 y5 y6 y7 y8 y9, LeO (pelotonlaw03_GridCuts.j3 k y0 y1 y2 y3 y4 y5 y6 y7 y8 y9) (pelotonlaw03_GridCuts.j3 (k + 1) y0 y1 y2 y3 y4 y5 y6 y7 y8 y9))
 | 0 => ⟨fun _ _ _ _ _ _ r h => by simp [pelotonlaw03_GridCuts.j0] at h, fun _ _ _ _ _ _ _ _ _ _ _ _ _ _ r h => by simp [pelotonlaw03_GridCuts.j1] at h, fun _ _ _ _ _ _ _ _ _ r h => by simp [pelotonlaw03_GridCuts.j2] at h, fun _ _ _ _ _ _ _ _ _ _ r h => by simp [pelotonlaw03_GridCuts.j3] at h⟩
 | k + 1 => by
  obtain ⟨ih0, ih1, ih2, ih3⟩ := pelotonlaw03_GridCuts.mono_l k
  refine ⟨?_, ?_, ?_, ?_⟩
  ·
   intro y0 y1 y2 y3 y4 y5
   unfold pelotonlaw03_GridCuts.j0
   repeat' first
   | (with_reducible exact ih0 _ _ _ _ _ _)
   | (with_reducible exact ih1 _ _ _ _ _ _ _ _ _ _ _ _ _ _)
   | (with_reducible exact ih2 _ _ _ _ _ _ _ _ _)
   | (with_reducible exact ih3 _ _ _ _ _ _ _ _ _ _)
   | (with_reducible exact grid_Cols.mono _ _ _ _ _ _)
   | (with_reducible exact grid_Rows.mono _ _ _ _ _ _)
   | (with_reducible exact grid_Turn.mono _ _ _ _)
   | (with_reducible exact pelotonlaw03_copied.mono _ _)
   | (with_reducible exact pelotonlaw03_held.mono _ _ _ _ _ _ _ _ _)
   | (with_reducible exact pelotonlaw03_small.mono _ _)
   | (with_reducible exact pelotonref03_Part.mono _ _ _ _ _ _ _ _)
   | (with_reducible exact pelotonref03_Same.mono _ _ _ _ _ _ _)
   | (with_reducible exact pelotonref03_Turn.mono _ _ _ _)
   | (with_reducible exact LeO.refl _)
   | (with_reducible exact LeO.none _)
   | (with_reducible refine LeO.ite ?_ ?_)
   | (with_reducible refine LeO.bind ?_ (fun _ => ?_))
   | exact ih0 _ _ _ _ _ _
   | exact ih1 _ _ _ _ _ _ _ _ _ _ _ _ _ _
   | exact ih2 _ _ _ _ _ _ _ _ _
   | exact ih3 _ _ _ _ _ _ _ _ _ _
   | exact grid_Cols.mono _ _ _ _ _ _
   | exact grid_Rows.mono _ _ _ _ _ _
   | exact grid_Turn.mono _ _ _ _
   | exact pelotonlaw03_copied.mono _ _
   | exact pelotonlaw03_held.mono _ _ _ _ _ _ _ _ _
   | exact pelotonlaw03_small.mono _ _
   | exact pelotonref03_Part.mono _ _ _ _ _ _ _ _
   | exact pelotonref03_Same.mono _ _ _ _ _ _ _
   | exact pelotonref03_Turn.mono _ _ _ _
   | exact LeO.none _
   | refine LeO.ite ?_ ?_
   | refine LeO.bind ?_ (fun _ => ?_)
  ·
   intro y0 y1 y2 y3 y4 y5 y6 y7 y8 y9 y10 y11 y12 y13
   unfold pelotonlaw03_GridCuts.j1
   repeat' first
   | (with_reducible exact ih0 _ _ _ _ _ _)
   | (with_reducible exact ih1 _ _ _ _ _ _ _ _ _ _ _ _ _ _)
   | (with_reducible exact ih2 _ _ _ _ _ _ _ _ _)
   | (with_reducible exact ih3 _ _ _ _ _ _ _ _ _ _)
   | (with_reducible exact grid_Cols.mono _ _ _ _ _ _)
   | (with_reducible exact grid_Rows.mono _ _ _ _ _ _)
   | (with_reducible exact grid_Turn.mono _ _ _ _)
   | (with_reducible exact pelotonlaw03_copied.mono _ _)
   | (with_reducible exact pelotonlaw03_held.mono _ _ _ _ _ _ _ _ _)
   | (with_reducible exact pelotonlaw03_small.mono _ _)
   | (with_reducible exact pelotonref03_Part.mono _ _ _ _ _ _ _ _)
   | (with_reducible exact pelotonref03_Same.mono _ _ _ _ _ _ _)
   | (with_reducible exact pelotonref03_Turn.mono _ _ _ _)
   | (with_reducible exact LeO.refl _)
   | (with_reducible exact LeO.none _)
   | (with_reducible refine LeO.ite ?_ ?_)
   | (with_reducible refine LeO.bind ?_ (fun _ => ?_))
   | exact ih0 _ _ _ _ _ _
   | exact ih1 _ _ _ _ _ _ _ _ _ _ _ _ _ _
   | exact ih2 _ _ _ _ _ _ _ _ _
   | exact ih3 _ _ _ _ _ _ _ _ _ _
   | exact grid_Cols.mono _ _ _ _ _ _
   | exact grid_Rows.mono _ _ _ _ _ _
   | exact grid_Turn.mono _ _ _ _
   | exact pelotonlaw03_copied.mono _ _
   | exact pelotonlaw03_held.mono _ _ _ _ _ _ _ _ _
   | exact pelotonlaw03_small.mono _ _
   | exact pelotonref03_Part.mono _ _ _ _ _ _ _ _
   | exact pelotonref03_Same.mono _ _ _ _ _ _ _
   | exact pelotonref03_Turn.mono _ _ _ _
   | exact LeO.none _
   | refine LeO.ite ?_ ?_
   | refine LeO.bind ?_ (fun _ => ?_)
  ·
   intro y0 y1 y2 y3 y4 y5 y6 y7 y8
   unfold pelotonlaw03_GridCuts.j2
   repeat' first
   | (with_reducible exact ih0 _ _ _ _ _ _)
   | (with_reducible exact ih1 _ _ _ _ _ _ _ _ _ _ _ _ _ _)
   | (with_reducible exact ih2 _ _ _ _ _ _ _ _ _)
   | (with_reducible exact ih3 _ _ _ _ _ _ _ _ _ _)
   | (with_reducible exact grid_Cols.mono _ _ _ _ _ _)
   | (with_reducible exact grid_Rows.mono _ _ _ _ _ _)
   | (with_reducible exact grid_Turn.mono _ _ _ _)
   | (with_reducible exact pelotonlaw03_copied.mono _ _)
   | (with_reducible exact pelotonlaw03_held.mono _ _ _ _ _ _ _ _ _)
   | (with_reducible exact pelotonlaw03_small.mono _ _)
   | (with_reducible exact pelotonref03_Part.mono _ _ _ _ _ _ _ _)
   | (with_reducible exact pelotonref03_Same.mono _ _ _ _ _ _ _)
   | (with_reducible exact pelotonref03_Turn.mono _ _ _ _)
   | (with_reducible exact LeO.refl _)
   | (with_reducible exact LeO.none _)
   | (with_reducible refine LeO.ite ?_ ?_)
   | (with_reducible refine LeO.bind ?_ (fun _ => ?_))
   | exact ih0 _ _ _ _ _ _
   | exact ih1 _ _ _ _ _ _ _ _ _ _ _ _ _ _
   | exact ih2 _ _ _ _ _ _ _ _ _
   | exact ih3 _ _ _ _ _ _ _ _ _ _
   | exact grid_Cols.mono _ _ _ _ _ _
   | exact grid_Rows.mono _ _ _ _ _ _
   | exact grid_Turn.mono _ _ _ _
   | exact pelotonlaw03_copied.mono _ _
   | exact pelotonlaw03_held.mono _ _ _ _ _ _ _ _ _
   | exact pelotonlaw03_small.mono _ _
   | exact pelotonref03_Part.mono _ _ _ _ _ _ _ _
   | exact pelotonref03_Same.mono _ _ _ _ _ _ _
   | exact pelotonref03_Turn.mono _ _ _ _
   | exact LeO.none _
   | refine LeO.ite ?_ ?_
   | refine LeO.bind ?_ (fun _ => ?_)
  ·
   intro y0 y1 y2 y3 y4 y5 y6 y7 y8 y9
   unfold pelotonlaw03_GridCuts.j3
   repeat' first
   | (with_reducible exact ih0 _ _ _ _ _ _)
   | (with_reducible exact ih1 _ _ _ _ _ _ _ _ _ _ _ _ _ _)
   | (with_reducible exact ih2 _ _ _ _ _ _ _ _ _)
   | (with_reducible exact ih3 _ _ _ _ _ _ _ _ _ _)
   | (with_reducible exact grid_Cols.mono _ _ _ _ _ _)
   | (with_reducible exact grid_Rows.mono _ _ _ _ _ _)
   | (with_reducible exact grid_Turn.mono _ _ _ _)
   | (with_reducible exact pelotonlaw03_copied.mono _ _)
   | (with_reducible exact pelotonlaw03_held.mono _ _ _ _ _ _ _ _ _)
   | (with_reducible exact pelotonlaw03_small.mono _ _)
   | (with_reducible exact pelotonref03_Part.mono _ _ _ _ _ _ _ _)
   | (with_reducible exact pelotonref03_Same.mono _ _ _ _ _ _ _)
   | (with_reducible exact pelotonref03_Turn.mono _ _ _ _)
   | (with_reducible exact LeO.refl _)
   | (with_reducible exact LeO.none _)
   | (with_reducible refine LeO.ite ?_ ?_)
   | (with_reducible refine LeO.bind ?_ (fun _ => ?_))
   | exact ih0 _ _ _ _ _ _
   | exact ih1 _ _ _ _ _ _ _ _ _ _ _ _ _ _
   | exact ih2 _ _ _ _ _ _ _ _ _
   | exact ih3 _ _ _ _ _ _ _ _ _ _
   | exact grid_Cols.mono _ _ _ _ _ _
   | exact grid_Rows.mono _ _ _ _ _ _
   | exact grid_Turn.mono _ _ _ _
   | exact pelotonlaw03_copied.mono _ _
   | exact pelotonlaw03_held.mono _ _ _ _ _ _ _ _ _
   | exact pelotonlaw03_small.mono _ _
   | exact pelotonref03_Part.mono _ _ _ _ _ _ _ _
   | exact pelotonref03_Same.mono _ _ _ _ _ _ _
   | exact pelotonref03_Turn.mono _ _ _ _
   | exact LeO.none _
   | refine LeO.ite ?_ ?_
   | refine LeO.bind ?_ (fun _ => ?_)
theorem pelotonlaw03_GridCuts.mono : ∀ a0 a1 a2 a3 a4 k, LeO (pelotonlaw03_GridCuts.f k a0 a1 a2 a3 a4) (pelotonlaw03_GridCuts.f (k + 1) a0 a1 a2 a3 a4) := by
 intro a0 a1 a2 a3 a4 k
 obtain ⟨ih0, ih1, ih2, ih3⟩ := pelotonlaw03_GridCuts.mono_l k
 unfold pelotonlaw03_GridCuts.f
 repeat' first
   | (with_reducible exact ih0 _ _ _ _ _ _)
   | (with_reducible exact ih1 _ _ _ _ _ _ _ _ _ _ _ _ _ _)
   | (with_reducible exact ih2 _ _ _ _ _ _ _ _ _)
   | (with_reducible exact ih3 _ _ _ _ _ _ _ _ _ _)
   | (with_reducible exact grid_Cols.mono _ _ _ _ _ _)
   | (with_reducible exact grid_Rows.mono _ _ _ _ _ _)
   | (with_reducible exact grid_Turn.mono _ _ _ _)
   | (with_reducible exact pelotonlaw03_copied.mono _ _)
   | (with_reducible exact pelotonlaw03_held.mono _ _ _ _ _ _ _ _ _)
   | (with_reducible exact pelotonlaw03_small.mono _ _)
   | (with_reducible exact pelotonref03_Part.mono _ _ _ _ _ _ _ _)
   | (with_reducible exact pelotonref03_Same.mono _ _ _ _ _ _ _)
   | (with_reducible exact pelotonref03_Turn.mono _ _ _ _)
   | (with_reducible exact LeO.refl _)
   | (with_reducible exact LeO.none _)
   | (with_reducible refine LeO.ite ?_ ?_)
   | (with_reducible refine LeO.bind ?_ (fun _ => ?_))
   | exact ih0 _ _ _ _ _ _
   | exact ih1 _ _ _ _ _ _ _ _ _ _ _ _ _ _
   | exact ih2 _ _ _ _ _ _ _ _ _
   | exact ih3 _ _ _ _ _ _ _ _ _ _
   | exact grid_Cols.mono _ _ _ _ _ _
   | exact grid_Rows.mono _ _ _ _ _ _
   | exact grid_Turn.mono _ _ _ _
   | exact pelotonlaw03_copied.mono _ _
   | exact pelotonlaw03_held.mono _ _ _ _ _ _ _ _ _
   | exact pelotonlaw03_small.mono _ _
   | exact pelotonref03_Part.mono _ _ _ _ _ _ _ _
   | exact pelotonref03_Same.mono _ _ _ _ _ _ _
   | exact pelotonref03_Turn.mono _ _ _ _
   | exact LeO.none _
   | refine LeO.ite ?_ ?_
   | refine LeO.bind ?_ (fun _ => ?_)
def pelotonlaw03_GridCuts.T16 : Bool × List (List Nat × List Nat) := (true, [([], []), ([], []), ([], []), ([], []), ([], []), ([], []), ([5], [5]), ([2, 3, 4, 6], [2, 3, 4, 6]), ([0, 1, 7, 7], [0, 1, 7]), ([8], [8])])
def pelotonlaw03_GridCuts.B16 : List Nat := [0, 0, 0, 0, 0, 0, 32, 124, 255, 511]
theorem pelotonlaw03_GridCuts.tab16 : rtab .any (opsOf Try.f7 16) = pelotonlaw03_GridCuts.T16 := by kernel_rfl
theorem pelotonlaw03_GridCuts.bits16 : waitsOk pelotonlaw03_GridCuts.T16.2 pelotonlaw03_GridCuts.B16 = true := by kernel_rfl
def pelotonlaw03_GridCuts.T20 : Bool × List (List Nat × List Nat) := (true, [([], []), ([], []), ([], []), ([], []), ([3], [3]), ([], []), ([], []), ([2, 4, 5, 6], [2, 4, 5, 6]), ([0, 1, 7, 7], [0, 1, 7]), ([8, 8, 0, 1, 2, 3, 4, 5, 6, 7, 8], [8])])
def pelotonlaw03_GridCuts.B20 : List Nat := [0, 0, 0, 0, 8, 0, 0, 124, 255, 511]
theorem pelotonlaw03_GridCuts.tab20 : rtab .any (opsOf Try.f7 20) = pelotonlaw03_GridCuts.T20 := by kernel_rfl
theorem pelotonlaw03_GridCuts.bits20 : waitsOk pelotonlaw03_GridCuts.T20.2 pelotonlaw03_GridCuts.B20 = true := by kernel_rfl
set_option maxHeartbeats 60000000 in
set_option maxRecDepth 100000 in
theorem pelotonlaw03_GridCuts.callsV (k : Nat) (a0_0 : Int) (a0_1 : Int) (P0_2_ : Nat → Prop) (A0_2 : Option Addr) (c0_2 : Nat) (l0_2 : List Int) (a1 : Int) (a2 : Int) (r : Bool) (w : World) (hs0_2 : Kd.V (Kd.int .i32) 21 w w.heap.size (fun k_ => P0_2_ k_) (.slice A0_2 l0_2.length c0_2) l0_2) (h : pelotonlaw03_GridCuts.f k a0_0 a0_1 l0_2 a1 a2 = some r) :
  Calls Try.prog 7 #[.agg #[.int .i64 a0_0, .int .i64 a0_1, .slice A0_2 l0_2.length c0_2], .int .i64 a1, .int .i64 a2] w fun e w' => e = .returned (.bool r) ∧ Below w.heap.size w w' := by
 have hu24 := Try.underlying24
 have HO0_2 := Aside0.mk (show Kd.V (Kd.int .i32) 21 w w.heap.size (fun k_ => (P0_2_ k_ ∨ w.heap.size ≤ k_)) (.slice A0_2 l0_2.length c0_2) l0_2 from Kd.V_mono hs0_2 (fun k_ hk => .inl hk))
 have HB := Aside0.mk (Below.refl w.heap.size w)
 have H : ((pelotonlaw03_awake.f).bind fun t194 => (if t194 = true then ((pelotonlaw03_small.f k (([(⟨a0_0, a0_1, l0_2⟩ : S24)] : List (S24)))).bind fun t198 => (pelotonlaw03_GridCuts.j0 k a1 a2 (!t198) a0_0 a0_1 l0_2)) else (pelotonlaw03_GridCuts.j0 k a1 a2 true a0_0 a0_1 l0_2))) = some r := h
 clear h
 have HC4 := Aside0.mk H
 clear H
 go_enter Try.func7, Try.ntmps7
 go_upto_region 1 with (first | ((with_reducible refine gate_dst (N := 3) rfl ?_); (try (refine gate_guard (by rfl) ?_; dsimp only)); refine box_event ?hg (N := 3) ?hd (cs := #[.int .i64 a0_0, .int .i64 a0_1, .slice A0_2 l0_2.length c0_2]) (t := 24) ?hr ?_; (case hd => rfl); (case hg => rfl); (case hr => first | (go_simp; done) | (go_simp; rfl)); intro gb193 hg w5 hbox hb; have BK193 := Aside0.mk (hbox); have GW193 := Aside0.mk ((by rw [hg]; exact (below_size (bw_ HB)) : w.heap.size ≤ gb193)); have GE193 := Aside0.mk ((by rw [hg]; exact (below_size (bw_ HB)) : w.heap.size ≤ gb193)); replace HO0_2 := Aside0.mk (Kd.V_below (Kd.V_elderB (tV_ HO0_2) gb193 (Nat.le_of_eq hg.symm)) hb); replace HB := Aside0.mk (below_step (bw_ HB) hb); clear hb hbox hg))
 (try simp only [Act.put, l_1, l_2, l_3])
 go_cut [21] (fun v21 wc => ∃ (kq : Nat) (x21_3 : Bool), v21 = .bool x21_3 ∧ Aside0 (pelotonlaw03_GridCuts.j0 kq a1 a2 x21_3 a0_0 a0_1 l0_2 = some r) ∧ Aside0 (kq ≤ k) ∧ Aside0 (Kd.V (Kd.int .i32) 21 wc w.heap.size (fun k_ => (P0_2_ k_ ∨ w.heap.size ≤ k_) ∧ k_ ≠ gb193) (.slice A0_2 l0_2.length c0_2) l0_2) ∧ Aside0 (wc.heap[gb193]? = some (.cells #[.int .i64 a0_0, .int .i64 a0_1, (.slice A0_2 l0_2.length c0_2)] 24 (0, 0))) ∧ Aside0 (Below w.heap.size w wc))
 case first =>
  have H := HC4.out
  clear HC4
  replace H := Option.bind_eq_some_iff.mp H
  obtain ⟨t194, A60, H⟩ := H
  replace H : (if t194 = true then ((pelotonlaw03_small.f k (([(⟨a0_0, a0_1, l0_2⟩ : S24)] : List (S24)))).bind fun t198 => (pelotonlaw03_GridCuts.j0 k a1 a2 (!t198) a0_0 a0_1 l0_2)) else (pelotonlaw03_GridCuts.j0 k a1 a2 true a0_0 a0_1 l0_2)) = some r := H
  have A6 := Aside0.mk A60
  clear A60
  by_cases c7 : t194 = true
  rotate_left
  ·
   replace c7 := Bool.eq_false_iff.mpr c7
   subst c7
   have H1 : (pelotonlaw03_GridCuts.j0 k a1 a2 true a0_0 a0_1 l0_2) = some r := by rw [if_neg (show ¬ (false = true) by decide)] at H; exact H
   clear H
   have H := H1
   clear H1
   have H' := Aside0.mk H
   clear H
   go_wp2_with (first | ((with_reducible refine gate_callee (f := 10) rfl ?_); refine goesL_ (some 14) rfl rfl Try.func10 (by kernel_rfl) rfl #[] rfl (by (try simp only [l_4, l_5, l_6]); first | done | rfl | (simp only [l_7, l_8]; rfl)) ?_; (with_reducible refine (pelotonlaw03_awake.calls  false _ A6.out).mono ?_); rintro e w14 ⟨rfl, hb⟩; (try clear A6); refine ⟨_, rfl, ?_⟩; replace HO0_2 := Aside0.mk (Kd.V_below (tV_ HO0_2) hb); replace BK193 := Aside0.mk (blk_below (tk_ BK193) hb); replace HB := Aside0.mk (below_step (bw_ HB) hb); (try clear hb); (try clear hb2); (try clear hk); (try clear hi)))
   go_meet
   case rel => exact ⟨_, (true), (by first | rfl | (simp; done) | (simp [*]; done)), H', ⟨by first | omega | exact Nat.le_refl _⟩, ⟨tV_ HO0_2⟩, ⟨tk_ BK193⟩, ⟨by repeat (first | (with_reducible first | exact HB.out | apply b_a | apply b_n | apply b_d | refine b_s ?_ GE193.out) | exact HB.out)⟩⟩
  subst c7
  have H1 : ((pelotonlaw03_small.f k (([(⟨a0_0, a0_1, l0_2⟩ : S24)] : List (S24)))).bind fun t198 => (pelotonlaw03_GridCuts.j0 k a1 a2 (!t198) a0_0 a0_1 l0_2)) = some r := by rw [if_pos rfl] at H; exact H
  clear H
  have H := H1
  clear H1
  obtain ⟨y195, hy195⟩ : ∃ y_ : List (S24), y_ = (([(⟨a0_0, a0_1, l0_2⟩ : S24)] : List (S24))) := ⟨_, rfl⟩
  replace H : ((pelotonlaw03_small.f k y195).bind fun t198 => (pelotonlaw03_GridCuts.j0 k a1 a2 (!t198) a0_0 a0_1 l0_2)) = some r := by first | (rw [hy195]; with_reducible exact H) | (have H2_ := (Option.bind_some _ _).symm.trans H; rw [hy195]; with_reducible exact H2_) | (have H2_ := (Option.bind_some _ _).symm.trans H; with_reducible exact H2_) | with_reducible exact H | (rw [hy195]; exact H) | exact H
  have Ny195 := Aside0.mk hy195
  clear hy195
  replace H := Option.bind_eq_some_iff.mp H
  obtain ⟨t198, A80, H⟩ := H
  replace H : (pelotonlaw03_GridCuts.j0 k a1 a2 (!t198) a0_0 a0_1 l0_2) = some r := H
  have A8 := Aside0.mk A80
  clear A80
  have H' := Aside0.mk H
  clear H
  go_wp2_with (first | ((with_reducible refine gate_callee (f := 10) rfl ?_); refine goesL_ (some 14) rfl rfl Try.func10 (by kernel_rfl) rfl #[] rfl (by (try simp only [l_4, l_5, l_6]); first | done | rfl | (simp only [l_7, l_8]; rfl)) ?_; (with_reducible refine (pelotonlaw03_awake.calls  true _ A6.out).mono ?_); rintro e w9 ⟨rfl, hb⟩; (try clear A6); refine ⟨_, rfl, ?_⟩; replace HO0_2 := Aside0.mk (Kd.V_below (tV_ HO0_2) hb); replace BK193 := Aside0.mk (blk_below (tk_ BK193) hb); replace HB := Aside0.mk (below_step (bw_ HB) hb); (try clear hb); (try clear hb2); (try clear hk); (try clear hi); have hcz10_0 := bc_0 BK193; have hcz10_1 := bc_1 BK193; have hcz10_2 := bc_2 BK193; have hfz10_0 := blk_frozen BK193.out 0; have hfz10_1 := blk_frozen BK193.out 1; have hfz10_2 := blk_frozen BK193.out 2) | ((with_reducible refine gate_dst (N := 18) rfl ?_); (try (refine gate_guard (by rfl) ?_; dsimp only)); refine Kd.N_lit k24 _ 24 ?hg (N' := 18) ?hd (xs := ([(⟨a0_0, a0_1, l0_2⟩ : S24)] : List (S24))) (inner := [.int .i64 a0_0, .int .i64 a0_1, .slice A0_2 l0_2.length c0_2]) (ok := (fun k_ => (P0_2_ k_ ∨ w.heap.size ≤ k_) ∧ k_ ≠ gb193)) (okp := (fun k_ => (P0_2_ k_ ∨ w.heap.size ≤ k_) ∧ k_ ≠ gb193)) ?hr ?hp (fun _ hk => hk) ((show ∀ k_, (_ : Nat) ≤ k_ → (fun k_ => (P0_2_ k_ ∨ w.heap.size ≤ k_) ∧ k_ ≠ gb193) k_ from fun k_ hk => ⟨(.inr (Nat.le_trans (below_size (bw_ HB)) hk)), Kd.freshB (tk_ BK193) k_ hk⟩) _ (Nat.le_refl _)) (Below.refl _ _) (Nat.le_refl _) (by simp) ?_; (case hd => rfl); (case hg => rfl); (case hr => first | (go_simp; done) | (go_simp; rfl)); (case hp => exact (Reps.c3 (show Kd.FK k24 _ _ (⟨a0_0, a0_1, l0_2⟩ : S24) [.int .i64 a0_0, .int .i64 a0_1, .slice A0_2 l0_2.length c0_2] from (k24_mkF _ _ (⟨a0_0, a0_1, l0_2⟩ : S24) (Kd.V_reads' (Kd.V_mono (ok' := (fun k_ => (P0_2_ k_ ∨ w.heap.size ≤ k_) ∧ k_ ≠ gb193)) (HO0_2.out) (fun k_ hk => ⟨hk.1, hk.2⟩))).2.1 (Kd.V_F (Kd.V_mono (ok' := (fun k_ => (P0_2_ k_ ∨ w.heap.size ≤ k_) ∧ k_ ≠ gb193)) (HO0_2.out) (fun k_ hk => ⟨hk.1, hk.2⟩))))) (Reps.none _ _))); intro v196 w11 ho12 hb hg_ hnew_; clear hg_ hnew_; (first | rw [← Ny195.out] at ho12 | (simp only [Int.reduceToNat] at ho12; rw [← Ny195.out] at ho12)); have HO197 := Aside0.mk (Kd.N_lower ho12 (below_size (bw_ HB))); replace HO0_2 := Aside0.mk (Kd.V_elder' (tV_ HO0_2) (by first | exact Kd.N_base ho12 | exact Kd.N_base (Kd.S_N ho12)) hb); replace BK193 := Aside0.mk (blk_below (tk_ BK193) hb); replace HB := Aside0.mk (below_step (bw_ HB) hb); clear hb ho12; obtain ⟨Ao13, co13, eo13⟩ := Kd.N_slice HO197.out; subst eo13) | (go_at_call 11; (with_reducible refine (pelotonlaw03_small.calls k _ _ y195 t198 _ ?side1 ?side2 A8.out).mono ?_); (case side1 => repeat (first | exact (Kd.N_reads' HO197.out).2.2 | (with_reducible refine Kd.C_alloc ?_ _) | (with_reducible refine Kd.C_drewN ?_ _) | (with_reducible refine Kd.C_drew ?_))); (case side2 => exact (Kd.N_reads' HO197.out).2.1); rintro e w' ⟨rfl, ⟨nd, rfl⟩⟩))
  go_meet
  case rel => exact ⟨_, (!t198), (by first | rfl | (simp; done) | (simp [*]; done)), H', ⟨by first | omega | exact Nat.le_refl _⟩, ⟨by (with_reducible repeat (first | apply Kd.V_alloc | apply Kd.V_drewN | apply Kd.V_drew)); exact Kd.V_mono HO0_2.out (fun _ hk => ⟨hk.1.1, hk.1.2⟩)⟩, ⟨tk_ BK193⟩, ⟨by repeat (first | (with_reducible first | exact HB.out | apply b_a | apply b_n | apply b_d | refine b_s ?_ GE193.out) | exact HB.out)⟩⟩
 case rest => as_aux_lemma =>
  clear HC4
  try clear c1
  try clear p2
  try clear c3
  try clear c7
  try clear c10
  try clear hcz10_0
  try clear hcz10_1
  try clear hcz10_2
  try clear hfz10_0
  try clear hfz10_1
  try clear hfz10_2
  obtain ⟨kq, x21_3, rfl, HA, HJ3, HO_194002, BK193, HB⟩ := hcut
  cases kq with
  | zero => exact absurd HA.out (by simp [pelotonlaw03_GridCuts.j0])
  | succ kj3 =>
   have H := HA.out
   clear HA
   simp only [pelotonlaw03_GridCuts.j0] at H
   by_cases c15 : x21_3 = true
   ·
    subst c15
    have H1 : ((pelotonlaw03_awake.f).bind fun t199 => (some t199)) = some r := by rw [if_pos rfl] at H; exact H
    clear H
    have H := H1
    clear H1
    replace H := Option.bind_eq_some_iff.mp H
    obtain ⟨t199, A160, H⟩ := H
    replace H : (some t199) = some r := H
    have A16 := Aside0.mk A160
    clear A160
    obtain rfl := Option.some.inj H
    go_wp2_with (first | ((with_reducible refine gate_callee (f := 10) rfl ?_); refine goesL_ (some 22) rfl rfl Try.func10 (by kernel_rfl) rfl #[] rfl (by (try simp only [l_4, l_5, l_6]); first | done | rfl | (simp only [l_7, l_8]; rfl)) ?_; (with_reducible refine (pelotonlaw03_awake.calls  t199 _ A16.out).mono ?_); rintro e w17 ⟨rfl, hb⟩; (try clear A16); refine ⟨_, rfl, ?_⟩; replace HO_194002 := Aside0.mk (Kd.V_below (tV_ HO_194002) hb); replace BK193 := Aside0.mk (blk_below (tk_ BK193) hb); replace HB := Aside0.mk (below_step (bw_ HB) hb); (try clear hb); (try clear hb2); (try clear hk); (try clear hi)))
    go_ret
    exact ⟨by first | rfl | (simp [errW_none, errW_some] <;> rfl) | (simp [*, errW_none, errW_some] <;> rfl), by repeat (first | (with_reducible first | exact HB.out | apply b_a | apply b_n | apply b_d | refine b_s ?_ GE193.out) | exact HB.out)⟩
   replace c15 := Bool.eq_false_iff.mpr c15
   subst c15
   have H1 : ((pelotonlaw03_copied.f kj3 (([(⟨a0_0, a0_1, l0_2⟩ : S24)] : List (S24)))).bind fun t203 => (if 0 < (t203.length : Int) then ((grid_Rows.f kj3 ((rd_T24 t203 0).f0) ((rd_T24 t203 0).f1) ((rd_T24 t203 0).f2) a1 a2).bind fun bt208 => ((grid_Cols.f kj3 ((rd_T24 t203 0).f0) ((rd_T24 t203 0).f1) ((rd_T24 t203 0).f2) a1 a2).bind fun bt215 => ((grid_Turn.f kj3 ((rd_T24 t203 0).f0) ((rd_T24 t203 0).f1) ((rd_T24 t203 0).f2)).bind fun bt222 => ((pelotonref03_Same.f kj3 ((rd_T24 t203 0).f0) ((rd_T24 t203 0).f1) ((rd_T24 t203 0).f2) a0_0 a0_1 l0_2).bind fun t229 => (if t229 = true then ((pelotonref03_Fit.f a0_0 a0_1 l0_2).bind fun t230 => (if t230 = true then ((pelotonref03_Turn.f kj3 a0_0 a0_1 l0_2).bind fun bt231 => ((pelotonlaw03_held.f kj3 bt222.1 bt222.2.1 bt222.2.2.1 bt222.2.2.2 bt231.1 bt231.2.1 bt231.2.2 true).bind fun t236 => (if t236 = true then (if a1 < 0 then (pelotonlaw03_GridCuts.j1 kj3 a1 a2 bt208.2.2.2 bt215.2.2.2 true a0_0 a0_1 l0_2 bt208.1 bt208.2.1 bt208.2.2.1 bt215.1 bt215.2.1 bt215.2.2.1) else (if a1 > a2 then (pelotonlaw03_GridCuts.j1 kj3 a1 a2 bt208.2.2.2 bt215.2.2.2 true a0_0 a0_1 l0_2 bt208.1 bt208.2.1 bt208.2.2.1 bt215.1 bt215.2.1 bt215.2.2.1) else (pelotonlaw03_GridCuts.j1 kj3 a1 a2 bt208.2.2.2 bt215.2.2.2 (decide (a2 > a0_0)) a0_0 a0_1 l0_2 bt208.1 bt208.2.1 bt208.2.2.1 bt215.1 bt215.2.1 bt215.2.2.1))) else (some false)))) else (if bt208.2.2.2 = 30 then (if bt215.2.2.2 = 30 then (some (bt222.2.2.2 == 30)) else (some false)) else (some false)))) else (some false)))))) else (none))) = some r := by rw [if_neg (show ¬ (false = true) by decide)] at H; exact H
   clear H
   have H := H1
   clear H1
   obtain ⟨y200, hy200⟩ : ∃ y_ : List (S24), y_ = (([(⟨a0_0, a0_1, l0_2⟩ : S24)] : List (S24))) := ⟨_, rfl⟩
   replace H : ((pelotonlaw03_copied.f kj3 y200).bind fun t203 => (if 0 < (t203.length : Int) then ((grid_Rows.f kj3 ((rd_T24 t203 0).f0) ((rd_T24 t203 0).f1) ((rd_T24 t203 0).f2) a1 a2).bind fun bt208 => ((grid_Cols.f kj3 ((rd_T24 t203 0).f0) ((rd_T24 t203 0).f1) ((rd_T24 t203 0).f2) a1 a2).bind fun bt215 => ((grid_Turn.f kj3 ((rd_T24 t203 0).f0) ((rd_T24 t203 0).f1) ((rd_T24 t203 0).f2)).bind fun bt222 => ((pelotonref03_Same.f kj3 ((rd_T24 t203 0).f0) ((rd_T24 t203 0).f1) ((rd_T24 t203 0).f2) a0_0 a0_1 l0_2).bind fun t229 => (if t229 = true then ((pelotonref03_Fit.f a0_0 a0_1 l0_2).bind fun t230 => (if t230 = true then ((pelotonref03_Turn.f kj3 a0_0 a0_1 l0_2).bind fun bt231 => ((pelotonlaw03_held.f kj3 bt222.1 bt222.2.1 bt222.2.2.1 bt222.2.2.2 bt231.1 bt231.2.1 bt231.2.2 true).bind fun t236 => (if t236 = true then (if a1 < 0 then (pelotonlaw03_GridCuts.j1 kj3 a1 a2 bt208.2.2.2 bt215.2.2.2 true a0_0 a0_1 l0_2 bt208.1 bt208.2.1 bt208.2.2.1 bt215.1 bt215.2.1 bt215.2.2.1) else (if a1 > a2 then (pelotonlaw03_GridCuts.j1 kj3 a1 a2 bt208.2.2.2 bt215.2.2.2 true a0_0 a0_1 l0_2 bt208.1 bt208.2.1 bt208.2.2.1 bt215.1 bt215.2.1 bt215.2.2.1) else (pelotonlaw03_GridCuts.j1 kj3 a1 a2 bt208.2.2.2 bt215.2.2.2 (decide (a2 > a0_0)) a0_0 a0_1 l0_2 bt208.1 bt208.2.1 bt208.2.2.1 bt215.1 bt215.2.1 bt215.2.2.1))) else (some false)))) else (if bt208.2.2.2 = 30 then (if bt215.2.2.2 = 30 then (some (bt222.2.2.2 == 30)) else (some false)) else (some false)))) else (some false)))))) else (none))) = some r := by first | (rw [hy200]; with_reducible exact H) | (have H2_ := (Option.bind_some _ _).symm.trans H; rw [hy200]; with_reducible exact H2_) | (have H2_ := (Option.bind_some _ _).symm.trans H; with_reducible exact H2_) | with_reducible exact H | (rw [hy200]; exact H) | exact H
   have Ny200 := Aside0.mk hy200
   clear hy200
   replace H := Option.bind_eq_some_iff.mp H
   obtain ⟨t203, A180, H⟩ := H
   replace H : (if 0 < (t203.length : Int) then ((grid_Rows.f kj3 ((rd_T24 t203 0).f0) ((rd_T24 t203 0).f1) ((rd_T24 t203 0).f2) a1 a2).bind fun bt208 => ((grid_Cols.f kj3 ((rd_T24 t203 0).f0) ((rd_T24 t203 0).f1) ((rd_T24 t203 0).f2) a1 a2).bind fun bt215 => ((grid_Turn.f kj3 ((rd_T24 t203 0).f0) ((rd_T24 t203 0).f1) ((rd_T24 t203 0).f2)).bind fun bt222 => ((pelotonref03_Same.f kj3 ((rd_T24 t203 0).f0) ((rd_T24 t203 0).f1) ((rd_T24 t203 0).f2) a0_0 a0_1 l0_2).bind fun t229 => (if t229 = true then ((pelotonref03_Fit.f a0_0 a0_1 l0_2).bind fun t230 => (if t230 = true then ((pelotonref03_Turn.f kj3 a0_0 a0_1 l0_2).bind fun bt231 => ((pelotonlaw03_held.f kj3 bt222.1 bt222.2.1 bt222.2.2.1 bt222.2.2.2 bt231.1 bt231.2.1 bt231.2.2 true).bind fun t236 => (if t236 = true then (if a1 < 0 then (pelotonlaw03_GridCuts.j1 kj3 a1 a2 bt208.2.2.2 bt215.2.2.2 true a0_0 a0_1 l0_2 bt208.1 bt208.2.1 bt208.2.2.1 bt215.1 bt215.2.1 bt215.2.2.1) else (if a1 > a2 then (pelotonlaw03_GridCuts.j1 kj3 a1 a2 bt208.2.2.2 bt215.2.2.2 true a0_0 a0_1 l0_2 bt208.1 bt208.2.1 bt208.2.2.1 bt215.1 bt215.2.1 bt215.2.2.1) else (pelotonlaw03_GridCuts.j1 kj3 a1 a2 bt208.2.2.2 bt215.2.2.2 (decide (a2 > a0_0)) a0_0 a0_1 l0_2 bt208.1 bt208.2.1 bt208.2.2.1 bt215.1 bt215.2.1 bt215.2.2.1))) else (some false)))) else (if bt208.2.2.2 = 30 then (if bt215.2.2.2 = 30 then (some (bt222.2.2.2 == 30)) else (some false)) else (some false)))) else (some false)))))) else (none)) = some r := H
   have A18 := Aside0.mk A180
   clear A180
   by_cases c19 : 0 < (t203.length : Int)
   rotate_left
   ·
    rw [if_neg c19] at H
    exact absurd H (by simp)

   rw [if_pos c19] at H
   have c19b0 : decide (0 < (t203.length : Int)) = true := decide_eq_true c19
   have c19b1 : decide (0 < t203.length) = true := decide_eq_true (by omega)
   clear c19
   replace H := Option.bind_eq_some_iff.mp H
   obtain ⟨⟨t208, t209, t210, t213⟩, A200, H⟩ := H
   replace H : ((grid_Cols.f kj3 ((rd_T24 t203 0).f0) ((rd_T24 t203 0).f1) ((rd_T24 t203 0).f2) a1 a2).bind fun bt215 => ((grid_Turn.f kj3 ((rd_T24 t203 0).f0) ((rd_T24 t203 0).f1) ((rd_T24 t203 0).f2)).bind fun bt222 => ((pelotonref03_Same.f kj3 ((rd_T24 t203 0).f0) ((rd_T24 t203 0).f1) ((rd_T24 t203 0).f2) a0_0 a0_1 l0_2).bind fun t229 => (if t229 = true then ((pelotonref03_Fit.f a0_0 a0_1 l0_2).bind fun t230 => (if t230 = true then ((pelotonref03_Turn.f kj3 a0_0 a0_1 l0_2).bind fun bt231 => ((pelotonlaw03_held.f kj3 bt222.1 bt222.2.1 bt222.2.2.1 bt222.2.2.2 bt231.1 bt231.2.1 bt231.2.2 true).bind fun t236 => (if t236 = true then (if a1 < 0 then (pelotonlaw03_GridCuts.j1 kj3 a1 a2 t213 bt215.2.2.2 true a0_0 a0_1 l0_2 t208 t209 t210 bt215.1 bt215.2.1 bt215.2.2.1) else (if a1 > a2 then (pelotonlaw03_GridCuts.j1 kj3 a1 a2 t213 bt215.2.2.2 true a0_0 a0_1 l0_2 t208 t209 t210 bt215.1 bt215.2.1 bt215.2.2.1) else (pelotonlaw03_GridCuts.j1 kj3 a1 a2 t213 bt215.2.2.2 (decide (a2 > a0_0)) a0_0 a0_1 l0_2 t208 t209 t210 bt215.1 bt215.2.1 bt215.2.2.1))) else (some false)))) else (if t213 = 30 then (if bt215.2.2.2 = 30 then (some (bt222.2.2.2 == 30)) else (some false)) else (some false)))) else (some false))))) = some r := H
   have A20 := Aside0.mk A200
   clear A200
   replace H := Option.bind_eq_some_iff.mp H
   obtain ⟨⟨t215, t216, t217, t220⟩, A210, H⟩ := H
   replace H : ((grid_Turn.f kj3 ((rd_T24 t203 0).f0) ((rd_T24 t203 0).f1) ((rd_T24 t203 0).f2)).bind fun bt222 => ((pelotonref03_Same.f kj3 ((rd_T24 t203 0).f0) ((rd_T24 t203 0).f1) ((rd_T24 t203 0).f2) a0_0 a0_1 l0_2).bind fun t229 => (if t229 = true then ((pelotonref03_Fit.f a0_0 a0_1 l0_2).bind fun t230 => (if t230 = true then ((pelotonref03_Turn.f kj3 a0_0 a0_1 l0_2).bind fun bt231 => ((pelotonlaw03_held.f kj3 bt222.1 bt222.2.1 bt222.2.2.1 bt222.2.2.2 bt231.1 bt231.2.1 bt231.2.2 true).bind fun t236 => (if t236 = true then (if a1 < 0 then (pelotonlaw03_GridCuts.j1 kj3 a1 a2 t213 t220 true a0_0 a0_1 l0_2 t208 t209 t210 t215 t216 t217) else (if a1 > a2 then (pelotonlaw03_GridCuts.j1 kj3 a1 a2 t213 t220 true a0_0 a0_1 l0_2 t208 t209 t210 t215 t216 t217) else (pelotonlaw03_GridCuts.j1 kj3 a1 a2 t213 t220 (decide (a2 > a0_0)) a0_0 a0_1 l0_2 t208 t209 t210 t215 t216 t217))) else (some false)))) else (if t213 = 30 then (if t220 = 30 then (some (bt222.2.2.2 == 30)) else (some false)) else (some false)))) else (some false)))) = some r := H
   have A21 := Aside0.mk A210
   clear A210
   replace H := Option.bind_eq_some_iff.mp H
   obtain ⟨⟨t222, t223, t224, t227⟩, A220, H⟩ := H
   replace H : ((pelotonref03_Same.f kj3 ((rd_T24 t203 0).f0) ((rd_T24 t203 0).f1) ((rd_T24 t203 0).f2) a0_0 a0_1 l0_2).bind fun t229 => (if t229 = true then ((pelotonref03_Fit.f a0_0 a0_1 l0_2).bind fun t230 => (if t230 = true then ((pelotonref03_Turn.f kj3 a0_0 a0_1 l0_2).bind fun bt231 => ((pelotonlaw03_held.f kj3 t222 t223 t224 t227 bt231.1 bt231.2.1 bt231.2.2 true).bind fun t236 => (if t236 = true then (if a1 < 0 then (pelotonlaw03_GridCuts.j1 kj3 a1 a2 t213 t220 true a0_0 a0_1 l0_2 t208 t209 t210 t215 t216 t217) else (if a1 > a2 then (pelotonlaw03_GridCuts.j1 kj3 a1 a2 t213 t220 true a0_0 a0_1 l0_2 t208 t209 t210 t215 t216 t217) else (pelotonlaw03_GridCuts.j1 kj3 a1 a2 t213 t220 (decide (a2 > a0_0)) a0_0 a0_1 l0_2 t208 t209 t210 t215 t216 t217))) else (some false)))) else (if t213 = 30 then (if t220 = 30 then (some (t227 == 30)) else (some false)) else (some false)))) else (some false))) = some r := H
   have A22 := Aside0.mk A220
   clear A220
   replace H := Option.bind_eq_some_iff.mp H
   obtain ⟨t229, A230, H⟩ := H
   replace H : (if t229 = true then ((pelotonref03_Fit.f a0_0 a0_1 l0_2).bind fun t230 => (if t230 = true then ((pelotonref03_Turn.f kj3 a0_0 a0_1 l0_2).bind fun bt231 => ((pelotonlaw03_held.f kj3 t222 t223 t224 t227 bt231.1 bt231.2.1 bt231.2.2 true).bind fun t236 => (if t236 = true then (if a1 < 0 then (pelotonlaw03_GridCuts.j1 kj3 a1 a2 t213 t220 true a0_0 a0_1 l0_2 t208 t209 t210 t215 t216 t217) else (if a1 > a2 then (pelotonlaw03_GridCuts.j1 kj3 a1 a2 t213 t220 true a0_0 a0_1 l0_2 t208 t209 t210 t215 t216 t217) else (pelotonlaw03_GridCuts.j1 kj3 a1 a2 t213 t220 (decide (a2 > a0_0)) a0_0 a0_1 l0_2 t208 t209 t210 t215 t216 t217))) else (some false)))) else (if t213 = 30 then (if t220 = 30 then (some (t227 == 30)) else (some false)) else (some false)))) else (some false)) = some r := H
   have A23 := Aside0.mk A230
   clear A230
   have hcz24_0 := bc_0 BK193
   have hcz24_1 := bc_1 BK193
   have hcz24_2 := bc_2 BK193
   have hfz24_0 := blk_frozen BK193.out 0
   have hfz24_1 := blk_frozen BK193.out 1
   have hfz24_2 := blk_frozen BK193.out 2
   go_upto_if 50 with (first | ((with_reducible refine gate_dst (N := 24) rfl ?_); (try (refine gate_guard (by rfl) ?_; dsimp only)); refine Kd.N_lit k24 _ 24 ?hg (N' := 24) ?hd (xs := ([(⟨a0_0, a0_1, l0_2⟩ : S24)] : List (S24))) (inner := [.int .i64 a0_0, .int .i64 a0_1, .slice A0_2 l0_2.length c0_2]) (ok := (fun k_ => (P0_2_ k_ ∨ w.heap.size ≤ k_) ∧ k_ ≠ gb193)) (okp := (fun k_ => (P0_2_ k_ ∨ w.heap.size ≤ k_) ∧ k_ ≠ gb193)) ?hr ?hp (fun _ hk => hk) ((show ∀ k_, (_ : Nat) ≤ k_ → (fun k_ => (P0_2_ k_ ∨ w.heap.size ≤ k_) ∧ k_ ≠ gb193) k_ from fun k_ hk => ⟨(.inr (Nat.le_trans (below_size (bw_ HB)) hk)), Kd.freshB (tk_ BK193) k_ hk⟩) _ (Nat.le_refl _)) (Below.refl _ _) (Nat.le_refl _) (by simp) ?_; (case hd => rfl); (case hg => rfl); (case hr => first | (go_simp; done) | (go_simp; rfl)); (case hp => exact (Reps.c3 (show Kd.FK k24 _ _ (⟨a0_0, a0_1, l0_2⟩ : S24) [.int .i64 a0_0, .int .i64 a0_1, .slice A0_2 l0_2.length c0_2] from (k24_mkF _ _ (⟨a0_0, a0_1, l0_2⟩ : S24) (Kd.V_reads' (Kd.V_mono (ok' := (fun k_ => (P0_2_ k_ ∨ w.heap.size ≤ k_) ∧ k_ ≠ gb193)) (HO_194002.out) (fun k_ hk => ⟨hk.1, hk.2⟩))).2.1 (Kd.V_F (Kd.V_mono (ok' := (fun k_ => (P0_2_ k_ ∨ w.heap.size ≤ k_) ∧ k_ ≠ gb193)) (HO_194002.out) (fun k_ hk => ⟨hk.1, hk.2⟩))))) (Reps.none _ _))); intro v201 w25 ho26 hb hg_ hnew_; clear hg_ hnew_; (first | rw [← Ny200.out] at ho26 | (simp only [Int.reduceToNat] at ho26; rw [← Ny200.out] at ho26)); have HO202 := Aside0.mk (Kd.N_lower ho26 (below_size (bw_ HB))); replace HO_194002 := Aside0.mk (Kd.V_elder' (tV_ HO_194002) (by first | exact Kd.N_base ho26 | exact Kd.N_base (Kd.S_N ho26)) hb); replace BK193 := Aside0.mk (blk_below (tk_ BK193) hb); replace HB := Aside0.mk (below_step (bw_ HB) hb); clear hb ho26; obtain ⟨Ao27, co27, eo27⟩ := Kd.N_slice HO202.out; subst eo27) | ((with_reducible refine gate_callee (f := 23) rfl ?_); refine goesL_ (some 25) rfl rfl Try.func23 (by kernel_rfl) rfl #[.slice Ao27 y200.length co27] rfl (by (try simp only [l_4, l_5, l_6]); first | done | rfl | (simp only [l_7, l_8]; rfl)) ?_; (with_reducible refine (pelotonlaw03_copied.calls kj3 _ _ y200 t203 _ ?side1 ?side2 A18.out).mono ?_); (case side1 => repeat (first | exact (Kd.N_reads' HO202.out).2.2 | (with_reducible refine Kd.C_alloc ?_ _) | (with_reducible refine Kd.C_drewN ?_ _) | (with_reducible refine Kd.C_drew ?_))); (case side2 => exact (Kd.N_reads' HO202.out).2.1); rintro e w28 ⟨v204, rfl, ho0, hb⟩; (try clear A18); refine ⟨_, rfl, ?_⟩; have HO205 := Aside0.mk (Kd.N_lower (Kd.N_mono (ok' := fun k_ => (P0_2_ k_ ∨ w.heap.size ≤ k_) ∧ some k_ ≠ (.slice Ao27 y200.length co27 : Value).ownBlock ∧ k_ ≠ gb193) (Kd.S_N (Kd.S_bound ho0)) (fun k_ hk_ => ⟨(.inr (Nat.le_trans (below_size (bw_ HB)) hk_.2.1)), (Kd.fresh' (Kd.N_lt (tN_ HO202)) k_ hk_.2.1), (Kd.freshB (tk_ BK193) k_ hk_.2.1)⟩)) (below_size (bw_ HB))); replace HO_194002 := Aside0.mk (Kd.V_elder' (tV_ HO_194002) (by first | exact Kd.N_base ho0 | exact Kd.N_base (Kd.S_N ho0)) hb); replace HO202 := Aside0.mk (Kd.N_elder' (tN_ HO202) (by first | exact Kd.N_base ho0 | exact Kd.N_base (Kd.S_N ho0)) hb); replace BK193 := Aside0.mk (blk_below (tk_ BK193) hb); replace HB := Aside0.mk (below_step (bw_ HB) hb); (try clear hb); (try clear hb2); (try clear hk); (try clear hi); (try clear ho0); obtain ⟨Ao29, co29, eo29⟩ := Kd.N_slice HO205.out; subst eo29; have p206 : 0 ≤ (0 : Int) := (by omega); have q206 : 0 < (t203.length : Int) := of_decide_eq_true (by first | (with_reducible assumption) | assumption); obtain ⟨ad206, A206_2, c206_2, e206, hx206_0, hx206_1, hx206_2, hl206_2, hi206_2⟩ := at_T24 (Kd.N_reads' HO205.out).2.2 0 p206 q206; cases e206; obtain ⟨ce206, hce206, hMe206, hcc206⟩ := Kd.N_get HO205.out z24 0 p206 (by first | exact q206 | exact of_decide_eq_true (by first | (with_reducible assumption) | assumption) | (have e_ := (Kd.N_reads' HO205.out).1; omega)); obtain ⟨ua206_2, uc206_2, rfl, ul206_2, ge206_2⟩ := k24_openF hMe206; have hv206_2 := hcc206 2 _ rfl; rw [add_field _ _ 2 (by omega)] at hv206_2; replace hv206_2 := Option.some.inj (hv206_2.symm.trans hx206_2); injection hv206_2 with hva_ hvn_ hvc_; rw [hva_] at ge206_2; rw [hvc_] at ul206_2; have HL206_2 := Aside0.mk (show Kd.V (Kd.int .i32) 21 _ w.heap.size _ _ ((rd_T24 t203 0).f2) from Kd.V_mk ul206_2 ge206_2); clear hva_ hvn_ hvc_ ge206_2 ul206_2; clear hcc206 hce206; have qi206 : (0 < t203.length) = True := eq_true (by omega); (try rw [show ((0 : Int)).toNat = 0 from rfl] at hx206_0); (try rw [show 0 * 3 = 0 from rfl] at hx206_0); (try rw [Addr.add_zero'] at hx206_0); (try rw [show ((0 : Int)).toNat = 0 from rfl] at hx206_1); (try rw [show 0 * 3 = 0 from rfl] at hx206_1); (try rw [Addr.add_zero'] at hx206_1); (try rw [show ((0 : Int)).toNat = 0 from rfl] at hx206_2); (try rw [show 0 * 3 = 0 from rfl] at hx206_2); (try rw [Addr.add_zero'] at hx206_2); have HR206_2 := Aside0.mk hi206_2; have HC206_2 := Aside0.mk hl206_2; clear hi206_2 hl206_2; replace p206 := eq_true p206; replace q206 := eq_true q206) | ((with_reducible refine gate_dst (N := 7) rfl ?_); (try (refine gate_guard (by rfl) ?_; dsimp only)); refine box_event ?hg (N := 7) ?hd (cs := #[.int .i64 0, .int .i64 0, .slice none 0 0]) (t := 24) ?hr ?_; (case hd => rfl); (case hg => rfl); (case hr => first | (go_simp; done) | (go_simp; rfl)); intro gb207 hg w30 hbox hb; have BK207 := Aside0.mk (hbox); have GW207 := Aside0.mk ((by rw [hg]; exact (below_size (bw_ HB)) : w.heap.size ≤ gb207)); have GE207 := Aside0.mk ((by rw [hg]; exact (below_size (bw_ HB)) : w.heap.size ≤ gb207)); have NB193_207 := Aside0.mk ((by rw [hg]; exact Nat.ne_of_lt (blk_lt (tk_ BK193)) : gb193 ≠ gb207)); have NB207_193 := Aside0.mk ((by rw [hg]; exact Nat.ne_of_gt (blk_lt (tk_ BK193)) : gb207 ≠ gb193)); replace HO_194002 := Aside0.mk (Kd.V_below (Kd.V_elderB (tV_ HO_194002) gb207 (Nat.le_of_eq hg.symm)) hb); replace HO202 := Aside0.mk (Kd.N_below (Kd.N_elderB (tN_ HO202) gb207 (Nat.le_of_eq hg.symm)) hb); replace HO205 := Aside0.mk (Kd.N_below (Kd.N_elderB (tN_ HO205) gb207 (Nat.le_of_eq hg.symm)) hb); replace HL206_2 := Aside0.mk (Kd.V_below (Kd.V_elderB (tV_ HL206_2) gb207 (Nat.le_of_eq hg.symm)) hb); replace BK193 := Aside0.mk (blk_below (tk_ BK193) hb); replace HR206_2 := Aside0.mk (Kd.C_below (by repeat (first | (with_reducible exact HR206_2.out) | (with_reducible refine Kd.C_alloc ?_ _) | (with_reducible refine Kd.C_drewN ?_ _) | (with_reducible refine Kd.C_drew ?_) | exact HR206_2.out)) hb); replace HB := Aside0.mk (below_step (bw_ HB) hb); clear hb hbox hg; have hnb31 := NB207_193.out; have hnc31 := NB193_207.out; have hcz32_0 := bc_0 BK207; have hcz32_1 := bc_1 BK207; have hcz32_2 := bc_2 BK207; have hfz32_0 := blk_frozen BK207.out 0; have hfz32_1 := blk_frozen BK207.out 1; have hfz32_2 := blk_frozen BK207.out 2) | ((with_reducible refine gate_callee (f := 30) rfl ?_); refine goesL_ (some 32) rfl rfl Try.func30 (by kernel_rfl) rfl #[.agg #[.int .i64 ((rd_T24 t203 0).f0), .int .i64 ((rd_T24 t203 0).f1), .slice A206_2 ((rd_T24 t203 0).f2).length c206_2], .int .i64 a1, .int .i64 a2] rfl (by (try simp only [l_4, l_5, l_6]); first | done | rfl | (simp only [l_7, l_8]; rfl)) ?_; (with_reducible refine (grid_Rows.calls kj3 ((rd_T24 t203 0).f0) ((rd_T24 t203 0).f1) _ _ ((rd_T24 t203 0).f2) a1 a2 t208 t209 t210 t213 _ ?side1 ?side2 A20.out).mono ?_); (case side1 => repeat (first | exact ((Kd.V_reads' (by (with_reducible repeat (first | apply Kd.V_alloc | apply Kd.V_drewN | apply Kd.V_drew)); exact (Kd.V_mono (Kd.V_far (p := ⟨gb207, 2, none⟩) (Kd.V_far (p := ⟨gb207, 1, none⟩) (Kd.V_far (p := ⟨gb207, 0, none⟩) (Kd.V_mono HL206_2.out (fun k_ hk => (⟨hk, hk.2⟩ : _ ∧ k_ ≠ gb207))) (fun _ hk => hk.2) (.int .i64 ((rd_T24 t203 0).f0))) (fun _ hk => hk.2) (.int .i64 ((rd_T24 t203 0).f1))) (fun _ hk => hk.2) (.slice A206_2 ((rd_T24 t203 0).f2).length c206_2)) (fun _ h_ => h_.1)))).2.2) | (with_reducible refine Kd.C_alloc ?_ _) | (with_reducible refine Kd.C_drewN ?_ _) | (with_reducible refine Kd.C_drew ?_))); (case side2 => exact HC206_2.out); rintro e w33 ⟨v211, rfl, ho0, hb⟩; (try clear A20); refine ⟨_, rfl, ?_⟩; have HO212 := Aside0.mk (Kd.R_lower (Kd.R_newM (M := fun k_ => (w.heap.size ≤ k_)) ho0 (below_size (bw_ HB)) (fun k_ h_ => h_)) (below_size (bw_ HB))); replace HO_194002 := Aside0.mk (Kd.V_elder' (by (with_reducible repeat (first | apply Kd.V_alloc | apply Kd.V_drewN | apply Kd.V_drew)); exact (Kd.V_mono (Kd.V_far (p := ⟨gb207, 2, none⟩) (Kd.V_far (p := ⟨gb207, 1, none⟩) (Kd.V_far (p := ⟨gb207, 0, none⟩) (Kd.V_mono HO_194002.out (fun k_ hk => (⟨hk, hk.2⟩ : _ ∧ k_ ≠ gb207))) (fun _ hk => hk.2) (.int .i64 ((rd_T24 t203 0).f0))) (fun _ hk => hk.2) (.int .i64 ((rd_T24 t203 0).f1))) (fun _ hk => hk.2) (.slice A206_2 ((rd_T24 t203 0).f2).length c206_2)) (fun _ h_ => h_.1))) (Kd.R_base ho0) hb); replace HO202 := Aside0.mk (Kd.N_elder' (by (with_reducible repeat (first | apply Kd.N_alloc | apply Kd.N_drewN | apply Kd.N_drew)); exact (Kd.N_mono (Kd.N_far (p := ⟨gb207, 2, none⟩) (Kd.N_far (p := ⟨gb207, 1, none⟩) (Kd.N_far (p := ⟨gb207, 0, none⟩) (Kd.N_mono HO202.out (fun k_ hk => (⟨hk, hk.2⟩ : _ ∧ k_ ≠ gb207))) (fun _ hk => hk.2) (.int .i64 ((rd_T24 t203 0).f0))) (fun _ hk => hk.2) (.int .i64 ((rd_T24 t203 0).f1))) (fun _ hk => hk.2) (.slice A206_2 ((rd_T24 t203 0).f2).length c206_2)) (fun _ h_ => h_.1))) (Kd.R_base ho0) hb); replace HO205 := Aside0.mk (Kd.N_elder' (by (with_reducible repeat (first | apply Kd.N_alloc | apply Kd.N_drewN | apply Kd.N_drew)); exact (Kd.N_mono (Kd.N_far (p := ⟨gb207, 2, none⟩) (Kd.N_far (p := ⟨gb207, 1, none⟩) (Kd.N_far (p := ⟨gb207, 0, none⟩) (Kd.N_mono HO205.out (fun k_ hk => (⟨hk, hk.2⟩ : _ ∧ k_ ≠ gb207))) (fun _ hk => hk.2) (.int .i64 ((rd_T24 t203 0).f0))) (fun _ hk => hk.2) (.int .i64 ((rd_T24 t203 0).f1))) (fun _ hk => hk.2) (.slice A206_2 ((rd_T24 t203 0).f2).length c206_2)) (fun _ h_ => h_.1))) (Kd.R_base ho0) hb); replace BK193 := Aside0.mk (blk_below (g := gb193) (o := .cells #[.int .i64 a0_0, .int .i64 a0_1, .slice A0_2 l0_2.length c0_2] 24 (0, 0)) (by (with_reducible repeat (first | refine k_n ?_ _ | refine k_d ?_ | refine k_a ?_ _)); refine blk_far ?_ NB193_207.out _; (with_reducible repeat (first | refine k_n ?_ _ | refine k_d ?_ | refine k_a ?_ _)); refine blk_far ?_ NB193_207.out _; (with_reducible repeat (first | refine k_n ?_ _ | refine k_d ?_ | refine k_a ?_ _)); refine blk_far ?_ NB193_207.out _; (with_reducible repeat (first | refine k_n ?_ _ | refine k_d ?_ | refine k_a ?_ _)); exact BK193.out) hb); replace HR206_2 := Aside0.mk (Kd.C_below ((Kd.V_reads' (by (with_reducible repeat (first | apply Kd.V_alloc | apply Kd.V_drewN | apply Kd.V_drew)); exact (Kd.V_mono (Kd.V_far (p := ⟨gb207, 2, none⟩) (Kd.V_far (p := ⟨gb207, 1, none⟩) (Kd.V_far (p := ⟨gb207, 0, none⟩) (Kd.V_mono HL206_2.out (fun k_ hk => (⟨hk, hk.2⟩ : _ ∧ k_ ≠ gb207))) (fun _ hk => hk.2) (.int .i64 ((rd_T24 t203 0).f0))) (fun _ hk => hk.2) (.int .i64 ((rd_T24 t203 0).f1))) (fun _ hk => hk.2) (.slice A206_2 ((rd_T24 t203 0).f2).length c206_2)) (fun _ h_ => h_.1)))).2.2) hb); replace HL206_2 := Aside0.mk (Kd.V_elder' (by (with_reducible repeat (first | apply Kd.V_alloc | apply Kd.V_drewN | apply Kd.V_drew)); exact (Kd.V_mono (Kd.V_far (p := ⟨gb207, 2, none⟩) (Kd.V_far (p := ⟨gb207, 1, none⟩) (Kd.V_far (p := ⟨gb207, 0, none⟩) (Kd.V_mono HL206_2.out (fun k_ hk => (⟨hk, hk.2⟩ : _ ∧ k_ ≠ gb207))) (fun _ hk => hk.2) (.int .i64 ((rd_T24 t203 0).f0))) (fun _ hk => hk.2) (.int .i64 ((rd_T24 t203 0).f1))) (fun _ hk => hk.2) (.slice A206_2 ((rd_T24 t203 0).f2).length c206_2)) (fun _ h_ => h_.1))) (Kd.R_base ho0) hb); replace BK207 := Aside0.mk (blk_below (g := gb207) (o := .cells #[.int .i64 ((rd_T24 t203 0).f0), .int .i64 ((rd_T24 t203 0).f1), .slice A206_2 ((rd_T24 t203 0).f2).length c206_2] 24 (0, 0)) (by (with_reducible repeat (first | refine k_n ?_ _ | refine k_d ?_ | refine k_a ?_ _)); refine blk_put (cs := #[.int .i64 ((rd_T24 t203 0).f0), .int .i64 ((rd_T24 t203 0).f1), .slice none 0 0]) ?_ 2 _ rfl; (with_reducible repeat (first | refine k_n ?_ _ | refine k_d ?_ | refine k_a ?_ _)); refine blk_put (cs := #[.int .i64 ((rd_T24 t203 0).f0), .int .i64 0, .slice none 0 0]) ?_ 1 _ rfl; (with_reducible repeat (first | refine k_n ?_ _ | refine k_d ?_ | refine k_a ?_ _)); refine blk_put (cs := #[.int .i64 0, .int .i64 0, .slice none 0 0]) ?_ 0 _ rfl; (with_reducible repeat (first | refine k_n ?_ _ | refine k_d ?_ | refine k_a ?_ _)); exact BK207.out) hb); replace HB := Aside0.mk (below_step (bw_ HB) hb); (try clear hb); (try clear hb2); (try clear hk); (try clear hi); (try clear ho0)) | ((with_reducible refine gate_dst (N := 8) rfl ?_); (try (refine gate_guard (by rfl) ?_; dsimp only)); refine box_event ?hg (N := 8) ?hd (cs := #[.int .i64 0, .int .i64 0, .slice none 0 0]) (t := 24) ?hr ?_; (case hd => rfl); (case hg => rfl); (case hr => first | (go_simp; done) | (go_simp; rfl)); intro gb214 hg w34 hbox hb; have BK214 := Aside0.mk (hbox); have GW214 := Aside0.mk ((by rw [hg]; exact (below_size (bw_ HB)) : w.heap.size ≤ gb214)); have GE214 := Aside0.mk ((by rw [hg]; exact (below_size (bw_ HB)) : w.heap.size ≤ gb214)); have NB193_214 := Aside0.mk ((by rw [hg]; exact Nat.ne_of_lt (blk_lt (tk_ BK193)) : gb193 ≠ gb214)); have NB214_193 := Aside0.mk ((by rw [hg]; exact Nat.ne_of_gt (blk_lt (tk_ BK193)) : gb214 ≠ gb193)); have NB207_214 := Aside0.mk ((by rw [hg]; exact Nat.ne_of_lt (blk_lt (tk_ BK207)) : gb207 ≠ gb214)); have NB214_207 := Aside0.mk ((by rw [hg]; exact Nat.ne_of_gt (blk_lt (tk_ BK207)) : gb214 ≠ gb207)); replace HO_194002 := Aside0.mk (Kd.V_below (Kd.V_elderB (tV_ HO_194002) gb214 (Nat.le_of_eq hg.symm)) hb); replace HO202 := Aside0.mk (Kd.N_below (Kd.N_elderB (tN_ HO202) gb214 (Nat.le_of_eq hg.symm)) hb); replace HO205 := Aside0.mk (Kd.N_below (Kd.N_elderB (tN_ HO205) gb214 (Nat.le_of_eq hg.symm)) hb); replace HL206_2 := Aside0.mk (Kd.V_below (Kd.V_elderB (tV_ HL206_2) gb214 (Nat.le_of_eq hg.symm)) hb); replace HO212 := Aside0.mk (Kd.R_below (tR_ HO212) hb); replace BK193 := Aside0.mk (blk_below (tk_ BK193) hb); replace HR206_2 := Aside0.mk (Kd.C_below (by repeat (first | (with_reducible exact HR206_2.out) | (with_reducible refine Kd.C_alloc ?_ _) | (with_reducible refine Kd.C_drewN ?_ _) | (with_reducible refine Kd.C_drew ?_) | exact HR206_2.out)) hb); replace BK207 := Aside0.mk (blk_below (tk_ BK207) hb); replace HB := Aside0.mk (below_step (bw_ HB) hb); clear hb hbox hg; have hnb35 := NB214_193.out; have hnc35 := NB193_214.out; have hnb36 := NB214_207.out; have hnc36 := NB207_214.out; have hcz37_0 := bc_0 BK214; have hcz37_1 := bc_1 BK214; have hcz37_2 := bc_2 BK214; have hfz37_0 := blk_frozen BK214.out 0; have hfz37_1 := blk_frozen BK214.out 1; have hfz37_2 := blk_frozen BK214.out 2; obtain ⟨Ao38, co38, eo38⟩ := Kd.R_slice HO212.out; subst eo38; have hcz39_0 := bc_0 BK207; have hcz39_1 := bc_1 BK207; have hcz39_2 := bc_2 BK207; have hfz39_0 := blk_frozen BK207.out 0; have hfz39_1 := blk_frozen BK207.out 1; have hfz39_2 := blk_frozen BK207.out 2) | ((with_reducible refine gate_callee (f := 31) rfl ?_); refine goesL_ (some 39) rfl rfl Try.func31 (by kernel_rfl) rfl #[.agg #[.int .i64 ((rd_T24 t203 0).f0), .int .i64 ((rd_T24 t203 0).f1), .slice A206_2 ((rd_T24 t203 0).f2).length c206_2], .int .i64 a1, .int .i64 a2] rfl (by (try simp only [l_4, l_5, l_6]); first | done | rfl | (simp only [l_7, l_8]; rfl)) ?_; (with_reducible refine (grid_Cols.calls kj3 ((rd_T24 t203 0).f0) ((rd_T24 t203 0).f1) _ _ ((rd_T24 t203 0).f2) a1 a2 t215 t216 t217 t220 _ ?side1 ?side2 A21.out).mono ?_); (case side1 => repeat (first | exact ((Kd.V_reads' (by (with_reducible repeat (first | apply Kd.V_alloc | apply Kd.V_drewN | apply Kd.V_drew)); exact (Kd.V_mono (Kd.V_far (p := ⟨gb214, 2, none⟩) (Kd.V_far (p := ⟨gb214, 1, none⟩) (Kd.V_far (p := ⟨gb214, 0, none⟩) (Kd.V_mono HL206_2.out (fun k_ hk => (⟨hk, hk.2⟩ : _ ∧ k_ ≠ gb214))) (fun _ hk => hk.2) (.int .i64 t208)) (fun _ hk => hk.2) (.int .i64 t209)) (fun _ hk => hk.2) (.slice Ao38 t210.length co38)) (fun _ h_ => h_.1)))).2.2) | (with_reducible refine Kd.C_alloc ?_ _) | (with_reducible refine Kd.C_drewN ?_ _) | (with_reducible refine Kd.C_drew ?_))); (case side2 => exact HC206_2.out); rintro e w40 ⟨v218, rfl, ho0, hb⟩; (try clear A21); refine ⟨_, rfl, ?_⟩; have HO219 := Aside0.mk (Kd.R_lower (Kd.R_new' (Kd.R_newM (M := fun k_ => (w.heap.size ≤ k_)) ho0 (below_size (bw_ HB)) (fun k_ h_ => h_)) (Kd.R_lt (by (with_reducible repeat (first | apply Kd.R_alloc | apply Kd.R_drewN | apply Kd.R_drew)); exact (Kd.R_mono (Kd.R_far (p := ⟨gb214, 2, none⟩) (Kd.R_far (p := ⟨gb214, 1, none⟩) (Kd.R_far (p := ⟨gb214, 0, none⟩) (Kd.R_types HO212.out BK214.out (by decide)) (fun _ hk => hk.2) (.int .i64 t208)) (fun _ hk => hk.2) (.int .i64 t209)) (fun _ hk => hk.2) (.slice Ao38 t210.length co38)) (fun _ h_ => h_.1))))) (below_size (bw_ HB))); replace HO_194002 := Aside0.mk (Kd.V_elder' (by (with_reducible repeat (first | apply Kd.V_alloc | apply Kd.V_drewN | apply Kd.V_drew)); exact (Kd.V_mono (Kd.V_far (p := ⟨gb214, 2, none⟩) (Kd.V_far (p := ⟨gb214, 1, none⟩) (Kd.V_far (p := ⟨gb214, 0, none⟩) (Kd.V_mono HO_194002.out (fun k_ hk => (⟨hk, hk.2⟩ : _ ∧ k_ ≠ gb214))) (fun _ hk => hk.2) (.int .i64 t208)) (fun _ hk => hk.2) (.int .i64 t209)) (fun _ hk => hk.2) (.slice Ao38 t210.length co38)) (fun _ h_ => h_.1))) (Kd.R_base ho0) hb); replace HO202 := Aside0.mk (Kd.N_elder' (by (with_reducible repeat (first | apply Kd.N_alloc | apply Kd.N_drewN | apply Kd.N_drew)); exact (Kd.N_mono (Kd.N_far (p := ⟨gb214, 2, none⟩) (Kd.N_far (p := ⟨gb214, 1, none⟩) (Kd.N_far (p := ⟨gb214, 0, none⟩) (Kd.N_mono HO202.out (fun k_ hk => (⟨hk, hk.2⟩ : _ ∧ k_ ≠ gb214))) (fun _ hk => hk.2) (.int .i64 t208)) (fun _ hk => hk.2) (.int .i64 t209)) (fun _ hk => hk.2) (.slice Ao38 t210.length co38)) (fun _ h_ => h_.1))) (Kd.R_base ho0) hb); replace HO205 := Aside0.mk (Kd.N_elder' (by (with_reducible repeat (first | apply Kd.N_alloc | apply Kd.N_drewN | apply Kd.N_drew)); exact (Kd.N_mono (Kd.N_far (p := ⟨gb214, 2, none⟩) (Kd.N_far (p := ⟨gb214, 1, none⟩) (Kd.N_far (p := ⟨gb214, 0, none⟩) (Kd.N_mono HO205.out (fun k_ hk => (⟨hk, hk.2⟩ : _ ∧ k_ ≠ gb214))) (fun _ hk => hk.2) (.int .i64 t208)) (fun _ hk => hk.2) (.int .i64 t209)) (fun _ hk => hk.2) (.slice Ao38 t210.length co38)) (fun _ h_ => h_.1))) (Kd.R_base ho0) hb); replace HO212 := Aside0.mk (Kd.R_elder' (by (with_reducible repeat (first | apply Kd.R_alloc | apply Kd.R_drewN | apply Kd.R_drew)); exact (Kd.R_mono (Kd.R_far (p := ⟨gb214, 2, none⟩) (Kd.R_far (p := ⟨gb214, 1, none⟩) (Kd.R_far (p := ⟨gb214, 0, none⟩) (Kd.R_types HO212.out BK214.out (by decide)) (fun _ hk => hk.2) (.int .i64 t208)) (fun _ hk => hk.2) (.int .i64 t209)) (fun _ hk => hk.2) (.slice Ao38 t210.length co38)) (fun _ h_ => h_.1))) (Kd.R_base ho0) hb); replace BK193 := Aside0.mk (blk_below (g := gb193) (o := .cells #[.int .i64 a0_0, .int .i64 a0_1, .slice A0_2 l0_2.length c0_2] 24 (0, 0)) (by (with_reducible repeat (first | refine k_n ?_ _ | refine k_d ?_ | refine k_a ?_ _)); refine blk_far ?_ NB193_214.out _; (with_reducible repeat (first | refine k_n ?_ _ | refine k_d ?_ | refine k_a ?_ _)); refine blk_far ?_ NB193_214.out _; (with_reducible repeat (first | refine k_n ?_ _ | refine k_d ?_ | refine k_a ?_ _)); refine blk_far ?_ NB193_214.out _; (with_reducible repeat (first | refine k_n ?_ _ | refine k_d ?_ | refine k_a ?_ _)); exact BK193.out) hb); replace HR206_2 := Aside0.mk (Kd.C_below ((Kd.V_reads' (by (with_reducible repeat (first | apply Kd.V_alloc | apply Kd.V_drewN | apply Kd.V_drew)); exact (Kd.V_mono (Kd.V_far (p := ⟨gb214, 2, none⟩) (Kd.V_far (p := ⟨gb214, 1, none⟩) (Kd.V_far (p := ⟨gb214, 0, none⟩) (Kd.V_mono HL206_2.out (fun k_ hk => (⟨hk, hk.2⟩ : _ ∧ k_ ≠ gb214))) (fun _ hk => hk.2) (.int .i64 t208)) (fun _ hk => hk.2) (.int .i64 t209)) (fun _ hk => hk.2) (.slice Ao38 t210.length co38)) (fun _ h_ => h_.1)))).2.2) hb); replace HL206_2 := Aside0.mk (Kd.V_elder' (by (with_reducible repeat (first | apply Kd.V_alloc | apply Kd.V_drewN | apply Kd.V_drew)); exact (Kd.V_mono (Kd.V_far (p := ⟨gb214, 2, none⟩) (Kd.V_far (p := ⟨gb214, 1, none⟩) (Kd.V_far (p := ⟨gb214, 0, none⟩) (Kd.V_mono HL206_2.out (fun k_ hk => (⟨hk, hk.2⟩ : _ ∧ k_ ≠ gb214))) (fun _ hk => hk.2) (.int .i64 t208)) (fun _ hk => hk.2) (.int .i64 t209)) (fun _ hk => hk.2) (.slice Ao38 t210.length co38)) (fun _ h_ => h_.1))) (Kd.R_base ho0) hb); replace BK207 := Aside0.mk (blk_below (g := gb207) (o := .cells #[.int .i64 ((rd_T24 t203 0).f0), .int .i64 ((rd_T24 t203 0).f1), .slice A206_2 ((rd_T24 t203 0).f2).length c206_2] 24 (0, 0)) (by (with_reducible repeat (first | refine k_n ?_ _ | refine k_d ?_ | refine k_a ?_ _)); refine blk_far ?_ NB207_214.out _; (with_reducible repeat (first | refine k_n ?_ _ | refine k_d ?_ | refine k_a ?_ _)); refine blk_far ?_ NB207_214.out _; (with_reducible repeat (first | refine k_n ?_ _ | refine k_d ?_ | refine k_a ?_ _)); refine blk_far ?_ NB207_214.out _; (with_reducible repeat (first | refine k_n ?_ _ | refine k_d ?_ | refine k_a ?_ _)); exact BK207.out) hb); replace BK214 := Aside0.mk (blk_below (g := gb214) (o := .cells #[.int .i64 t208, .int .i64 t209, .slice Ao38 t210.length co38] 24 (0, 0)) (by (with_reducible repeat (first | refine k_n ?_ _ | refine k_d ?_ | refine k_a ?_ _)); refine blk_put (cs := #[.int .i64 t208, .int .i64 t209, .slice none 0 0]) ?_ 2 _ rfl; (with_reducible repeat (first | refine k_n ?_ _ | refine k_d ?_ | refine k_a ?_ _)); refine blk_put (cs := #[.int .i64 t208, .int .i64 0, .slice none 0 0]) ?_ 1 _ rfl; (with_reducible repeat (first | refine k_n ?_ _ | refine k_d ?_ | refine k_a ?_ _)); refine blk_put (cs := #[.int .i64 0, .int .i64 0, .slice none 0 0]) ?_ 0 _ rfl; (with_reducible repeat (first | refine k_n ?_ _ | refine k_d ?_ | refine k_a ?_ _)); exact BK214.out) hb); replace HB := Aside0.mk (below_step (bw_ HB) hb); (try clear hb); (try clear hb2); (try clear hk); (try clear hi); (try clear ho0)) | ((with_reducible refine gate_dst (N := 10) rfl ?_); (try (refine gate_guard (by rfl) ?_; dsimp only)); refine box_event ?hg (N := 10) ?hd (cs := #[.int .i64 0, .int .i64 0, .slice none 0 0]) (t := 24) ?hr ?_; (case hd => rfl); (case hg => rfl); (case hr => first | (go_simp; done) | (go_simp; rfl)); intro gb221 hg w41 hbox hb; have BK221 := Aside0.mk (hbox); have GW221 := Aside0.mk ((by rw [hg]; exact (below_size (bw_ HB)) : w.heap.size ≤ gb221)); have GE221 := Aside0.mk ((by rw [hg]; exact (below_size (bw_ HB)) : w.heap.size ≤ gb221)); have NB193_221 := Aside0.mk ((by rw [hg]; exact Nat.ne_of_lt (blk_lt (tk_ BK193)) : gb193 ≠ gb221)); have NB221_193 := Aside0.mk ((by rw [hg]; exact Nat.ne_of_gt (blk_lt (tk_ BK193)) : gb221 ≠ gb193)); have NB207_221 := Aside0.mk ((by rw [hg]; exact Nat.ne_of_lt (blk_lt (tk_ BK207)) : gb207 ≠ gb221)); have NB221_207 := Aside0.mk ((by rw [hg]; exact Nat.ne_of_gt (blk_lt (tk_ BK207)) : gb221 ≠ gb207)); have NB214_221 := Aside0.mk ((by rw [hg]; exact Nat.ne_of_lt (blk_lt (tk_ BK214)) : gb214 ≠ gb221)); have NB221_214 := Aside0.mk ((by rw [hg]; exact Nat.ne_of_gt (blk_lt (tk_ BK214)) : gb221 ≠ gb214)); replace HO_194002 := Aside0.mk (Kd.V_below (Kd.V_elderB (tV_ HO_194002) gb221 (Nat.le_of_eq hg.symm)) hb); replace HO202 := Aside0.mk (Kd.N_below (Kd.N_elderB (tN_ HO202) gb221 (Nat.le_of_eq hg.symm)) hb); replace HO205 := Aside0.mk (Kd.N_below (Kd.N_elderB (tN_ HO205) gb221 (Nat.le_of_eq hg.symm)) hb); replace HL206_2 := Aside0.mk (Kd.V_below (Kd.V_elderB (tV_ HL206_2) gb221 (Nat.le_of_eq hg.symm)) hb); replace HO212 := Aside0.mk (Kd.R_below (tR_ HO212) hb); replace HO219 := Aside0.mk (Kd.R_below (tR_ HO219) hb); replace BK193 := Aside0.mk (blk_below (tk_ BK193) hb); replace HR206_2 := Aside0.mk (Kd.C_below (by repeat (first | (with_reducible exact HR206_2.out) | (with_reducible refine Kd.C_alloc ?_ _) | (with_reducible refine Kd.C_drewN ?_ _) | (with_reducible refine Kd.C_drew ?_) | exact HR206_2.out)) hb); replace BK207 := Aside0.mk (blk_below (tk_ BK207) hb); replace BK214 := Aside0.mk (blk_below (tk_ BK214) hb); replace HB := Aside0.mk (below_step (bw_ HB) hb); clear hb hbox hg; have hnb42 := NB221_193.out; have hnc42 := NB193_221.out; have hnb43 := NB221_207.out; have hnc43 := NB207_221.out; have hnb44 := NB221_214.out; have hnc44 := NB214_221.out; have hcz45_0 := bc_0 BK221; have hcz45_1 := bc_1 BK221; have hcz45_2 := bc_2 BK221; have hfz45_0 := blk_frozen BK221.out 0; have hfz45_1 := blk_frozen BK221.out 1; have hfz45_2 := blk_frozen BK221.out 2; obtain ⟨Ao46, co46, eo46⟩ := Kd.R_slice HO219.out; subst eo46; have hcz47_0 := bc_0 BK207; have hcz47_1 := bc_1 BK207; have hcz47_2 := bc_2 BK207; have hfz47_0 := blk_frozen BK207.out 0; have hfz47_1 := blk_frozen BK207.out 1; have hfz47_2 := blk_frozen BK207.out 2) | ((with_reducible refine gate_callee (f := 22) rfl ?_); refine goesL_ (some 44) rfl rfl Try.func22 (by kernel_rfl) rfl #[.agg #[.int .i64 ((rd_T24 t203 0).f0), .int .i64 ((rd_T24 t203 0).f1), .slice A206_2 ((rd_T24 t203 0).f2).length c206_2]] rfl (by (try simp only [l_4, l_5, l_6]); first | done | rfl | (simp only [l_7, l_8]; rfl)) ?_; (with_reducible refine (grid_Turn.calls kj3 ((rd_T24 t203 0).f0) ((rd_T24 t203 0).f1) _ _ ((rd_T24 t203 0).f2) t222 t223 t224 t227 _ ?side1 ?side2 A22.out).mono ?_); (case side1 => repeat (first | exact ((Kd.V_reads' (by (with_reducible repeat (first | apply Kd.V_alloc | apply Kd.V_drewN | apply Kd.V_drew)); exact (Kd.V_mono (Kd.V_far (p := ⟨gb221, 2, none⟩) (Kd.V_far (p := ⟨gb221, 1, none⟩) (Kd.V_far (p := ⟨gb221, 0, none⟩) (Kd.V_mono HL206_2.out (fun k_ hk => (⟨hk, hk.2⟩ : _ ∧ k_ ≠ gb221))) (fun _ hk => hk.2) (.int .i64 t215)) (fun _ hk => hk.2) (.int .i64 t216)) (fun _ hk => hk.2) (.slice Ao46 t217.length co46)) (fun _ h_ => h_.1)))).2.2) | (with_reducible refine Kd.C_alloc ?_ _) | (with_reducible refine Kd.C_drewN ?_ _) | (with_reducible refine Kd.C_drew ?_))); (case side2 => exact HC206_2.out); rintro e w48 ⟨v225, rfl, ho0, hb⟩; (try clear A22); refine ⟨_, rfl, ?_⟩; have HO226 := Aside0.mk (Kd.R_lower (Kd.R_new' (Kd.R_new' (Kd.R_newM (M := fun k_ => (w.heap.size ≤ k_)) ho0 (below_size (bw_ HB)) (fun k_ h_ => h_)) (Kd.R_lt (by (with_reducible repeat (first | apply Kd.R_alloc | apply Kd.R_drewN | apply Kd.R_drew)); exact (Kd.R_mono (Kd.R_far (p := ⟨gb221, 2, none⟩) (Kd.R_far (p := ⟨gb221, 1, none⟩) (Kd.R_far (p := ⟨gb221, 0, none⟩) (Kd.R_types HO212.out BK221.out (by decide)) (fun _ hk => hk.2) (.int .i64 t215)) (fun _ hk => hk.2) (.int .i64 t216)) (fun _ hk => hk.2) (.slice Ao46 t217.length co46)) (fun _ h_ => h_.1))))) (Kd.R_lt (by (with_reducible repeat (first | apply Kd.R_alloc | apply Kd.R_drewN | apply Kd.R_drew)); exact (Kd.R_mono (Kd.R_far (p := ⟨gb221, 2, none⟩) (Kd.R_far (p := ⟨gb221, 1, none⟩) (Kd.R_far (p := ⟨gb221, 0, none⟩) (Kd.R_types HO219.out BK221.out (by decide)) (fun _ hk => hk.2) (.int .i64 t215)) (fun _ hk => hk.2) (.int .i64 t216)) (fun _ hk => hk.2) (.slice Ao46 t217.length co46)) (fun _ h_ => h_.1))))) (below_size (bw_ HB))); replace HO_194002 := Aside0.mk (Kd.V_elder' (by (with_reducible repeat (first | apply Kd.V_alloc | apply Kd.V_drewN | apply Kd.V_drew)); exact (Kd.V_mono (Kd.V_far (p := ⟨gb221, 2, none⟩) (Kd.V_far (p := ⟨gb221, 1, none⟩) (Kd.V_far (p := ⟨gb221, 0, none⟩) (Kd.V_mono HO_194002.out (fun k_ hk => (⟨hk, hk.2⟩ : _ ∧ k_ ≠ gb221))) (fun _ hk => hk.2) (.int .i64 t215)) (fun _ hk => hk.2) (.int .i64 t216)) (fun _ hk => hk.2) (.slice Ao46 t217.length co46)) (fun _ h_ => h_.1))) (Kd.R_base ho0) hb); replace HO202 := Aside0.mk (Kd.N_elder' (by (with_reducible repeat (first | apply Kd.N_alloc | apply Kd.N_drewN | apply Kd.N_drew)); exact (Kd.N_mono (Kd.N_far (p := ⟨gb221, 2, none⟩) (Kd.N_far (p := ⟨gb221, 1, none⟩) (Kd.N_far (p := ⟨gb221, 0, none⟩) (Kd.N_mono HO202.out (fun k_ hk => (⟨hk, hk.2⟩ : _ ∧ k_ ≠ gb221))) (fun _ hk => hk.2) (.int .i64 t215)) (fun _ hk => hk.2) (.int .i64 t216)) (fun _ hk => hk.2) (.slice Ao46 t217.length co46)) (fun _ h_ => h_.1))) (Kd.R_base ho0) hb); replace HO205 := Aside0.mk (Kd.N_elder' (by (with_reducible repeat (first | apply Kd.N_alloc | apply Kd.N_drewN | apply Kd.N_drew)); exact (Kd.N_mono (Kd.N_far (p := ⟨gb221, 2, none⟩) (Kd.N_far (p := ⟨gb221, 1, none⟩) (Kd.N_far (p := ⟨gb221, 0, none⟩) (Kd.N_mono HO205.out (fun k_ hk => (⟨hk, hk.2⟩ : _ ∧ k_ ≠ gb221))) (fun _ hk => hk.2) (.int .i64 t215)) (fun _ hk => hk.2) (.int .i64 t216)) (fun _ hk => hk.2) (.slice Ao46 t217.length co46)) (fun _ h_ => h_.1))) (Kd.R_base ho0) hb); replace HO212 := Aside0.mk (Kd.R_elder' (by (with_reducible repeat (first | apply Kd.R_alloc | apply Kd.R_drewN | apply Kd.R_drew)); exact (Kd.R_mono (Kd.R_far (p := ⟨gb221, 2, none⟩) (Kd.R_far (p := ⟨gb221, 1, none⟩) (Kd.R_far (p := ⟨gb221, 0, none⟩) (Kd.R_types HO212.out BK221.out (by decide)) (fun _ hk => hk.2) (.int .i64 t215)) (fun _ hk => hk.2) (.int .i64 t216)) (fun _ hk => hk.2) (.slice Ao46 t217.length co46)) (fun _ h_ => h_.1))) (Kd.R_base ho0) hb); replace HO219 := Aside0.mk (Kd.R_elder' (by (with_reducible repeat (first | apply Kd.R_alloc | apply Kd.R_drewN | apply Kd.R_drew)); exact (Kd.R_mono (Kd.R_far (p := ⟨gb221, 2, none⟩) (Kd.R_far (p := ⟨gb221, 1, none⟩) (Kd.R_far (p := ⟨gb221, 0, none⟩) (Kd.R_types HO219.out BK221.out (by decide)) (fun _ hk => hk.2) (.int .i64 t215)) (fun _ hk => hk.2) (.int .i64 t216)) (fun _ hk => hk.2) (.slice Ao46 t217.length co46)) (fun _ h_ => h_.1))) (Kd.R_base ho0) hb); replace BK193 := Aside0.mk (blk_below (g := gb193) (o := .cells #[.int .i64 a0_0, .int .i64 a0_1, .slice A0_2 l0_2.length c0_2] 24 (0, 0)) (by (with_reducible repeat (first | refine k_n ?_ _ | refine k_d ?_ | refine k_a ?_ _)); refine blk_far ?_ NB193_221.out _; (with_reducible repeat (first | refine k_n ?_ _ | refine k_d ?_ | refine k_a ?_ _)); refine blk_far ?_ NB193_221.out _; (with_reducible repeat (first | refine k_n ?_ _ | refine k_d ?_ | refine k_a ?_ _)); refine blk_far ?_ NB193_221.out _; (with_reducible repeat (first | refine k_n ?_ _ | refine k_d ?_ | refine k_a ?_ _)); exact BK193.out) hb); replace HR206_2 := Aside0.mk (Kd.C_below ((Kd.V_reads' (by (with_reducible repeat (first | apply Kd.V_alloc | apply Kd.V_drewN | apply Kd.V_drew)); exact (Kd.V_mono (Kd.V_far (p := ⟨gb221, 2, none⟩) (Kd.V_far (p := ⟨gb221, 1, none⟩) (Kd.V_far (p := ⟨gb221, 0, none⟩) (Kd.V_mono HL206_2.out (fun k_ hk => (⟨hk, hk.2⟩ : _ ∧ k_ ≠ gb221))) (fun _ hk => hk.2) (.int .i64 t215)) (fun _ hk => hk.2) (.int .i64 t216)) (fun _ hk => hk.2) (.slice Ao46 t217.length co46)) (fun _ h_ => h_.1)))).2.2) hb); replace HL206_2 := Aside0.mk (Kd.V_elder' (by (with_reducible repeat (first | apply Kd.V_alloc | apply Kd.V_drewN | apply Kd.V_drew)); exact (Kd.V_mono (Kd.V_far (p := ⟨gb221, 2, none⟩) (Kd.V_far (p := ⟨gb221, 1, none⟩) (Kd.V_far (p := ⟨gb221, 0, none⟩) (Kd.V_mono HL206_2.out (fun k_ hk => (⟨hk, hk.2⟩ : _ ∧ k_ ≠ gb221))) (fun _ hk => hk.2) (.int .i64 t215)) (fun _ hk => hk.2) (.int .i64 t216)) (fun _ hk => hk.2) (.slice Ao46 t217.length co46)) (fun _ h_ => h_.1))) (Kd.R_base ho0) hb); replace BK207 := Aside0.mk (blk_below (g := gb207) (o := .cells #[.int .i64 ((rd_T24 t203 0).f0), .int .i64 ((rd_T24 t203 0).f1), .slice A206_2 ((rd_T24 t203 0).f2).length c206_2] 24 (0, 0)) (by (with_reducible repeat (first | refine k_n ?_ _ | refine k_d ?_ | refine k_a ?_ _)); refine blk_far ?_ NB207_221.out _; (with_reducible repeat (first | refine k_n ?_ _ | refine k_d ?_ | refine k_a ?_ _)); refine blk_far ?_ NB207_221.out _; (with_reducible repeat (first | refine k_n ?_ _ | refine k_d ?_ | refine k_a ?_ _)); refine blk_far ?_ NB207_221.out _; (with_reducible repeat (first | refine k_n ?_ _ | refine k_d ?_ | refine k_a ?_ _)); exact BK207.out) hb); replace BK214 := Aside0.mk (blk_below (g := gb214) (o := .cells #[.int .i64 t208, .int .i64 t209, .slice Ao38 t210.length co38] 24 (0, 0)) (by (with_reducible repeat (first | refine k_n ?_ _ | refine k_d ?_ | refine k_a ?_ _)); refine blk_far ?_ NB214_221.out _; (with_reducible repeat (first | refine k_n ?_ _ | refine k_d ?_ | refine k_a ?_ _)); refine blk_far ?_ NB214_221.out _; (with_reducible repeat (first | refine k_n ?_ _ | refine k_d ?_ | refine k_a ?_ _)); refine blk_far ?_ NB214_221.out _; (with_reducible repeat (first | refine k_n ?_ _ | refine k_d ?_ | refine k_a ?_ _)); exact BK214.out) hb); replace BK221 := Aside0.mk (blk_below (g := gb221) (o := .cells #[.int .i64 t215, .int .i64 t216, .slice Ao46 t217.length co46] 24 (0, 0)) (by (with_reducible repeat (first | refine k_n ?_ _ | refine k_d ?_ | refine k_a ?_ _)); refine blk_put (cs := #[.int .i64 t215, .int .i64 t216, .slice none 0 0]) ?_ 2 _ rfl; (with_reducible repeat (first | refine k_n ?_ _ | refine k_d ?_ | refine k_a ?_ _)); refine blk_put (cs := #[.int .i64 t215, .int .i64 0, .slice none 0 0]) ?_ 1 _ rfl; (with_reducible repeat (first | refine k_n ?_ _ | refine k_d ?_ | refine k_a ?_ _)); refine blk_put (cs := #[.int .i64 0, .int .i64 0, .slice none 0 0]) ?_ 0 _ rfl; (with_reducible repeat (first | refine k_n ?_ _ | refine k_d ?_ | refine k_a ?_ _)); exact BK221.out) hb); replace HB := Aside0.mk (below_step (bw_ HB) hb); (try clear hb); (try clear hb2); (try clear hk); (try clear hi); (try clear ho0)) | ((with_reducible refine gate_dst (N := 12) rfl ?_); (try (refine gate_guard (by rfl) ?_; dsimp only)); refine box_event ?hg (N := 12) ?hd (cs := #[.int .i64 0, .int .i64 0, .slice none 0 0]) (t := 24) ?hr ?_; (case hd => rfl); (case hg => rfl); (case hr => first | (go_simp; done) | (go_simp; rfl)); intro gb228 hg w49 hbox hb; have BK228 := Aside0.mk (hbox); have GW228 := Aside0.mk ((by rw [hg]; exact (below_size (bw_ HB)) : w.heap.size ≤ gb228)); have GE228 := Aside0.mk ((by rw [hg]; exact (below_size (bw_ HB)) : w.heap.size ≤ gb228)); have NB193_228 := Aside0.mk ((by rw [hg]; exact Nat.ne_of_lt (blk_lt (tk_ BK193)) : gb193 ≠ gb228)); have NB228_193 := Aside0.mk ((by rw [hg]; exact Nat.ne_of_gt (blk_lt (tk_ BK193)) : gb228 ≠ gb193)); have NB207_228 := Aside0.mk ((by rw [hg]; exact Nat.ne_of_lt (blk_lt (tk_ BK207)) : gb207 ≠ gb228)); have NB228_207 := Aside0.mk ((by rw [hg]; exact Nat.ne_of_gt (blk_lt (tk_ BK207)) : gb228 ≠ gb207)); have NB214_228 := Aside0.mk ((by rw [hg]; exact Nat.ne_of_lt (blk_lt (tk_ BK214)) : gb214 ≠ gb228)); have NB228_214 := Aside0.mk ((by rw [hg]; exact Nat.ne_of_gt (blk_lt (tk_ BK214)) : gb228 ≠ gb214)); have NB221_228 := Aside0.mk ((by rw [hg]; exact Nat.ne_of_lt (blk_lt (tk_ BK221)) : gb221 ≠ gb228)); have NB228_221 := Aside0.mk ((by rw [hg]; exact Nat.ne_of_gt (blk_lt (tk_ BK221)) : gb228 ≠ gb221)); replace HO_194002 := Aside0.mk (Kd.V_below (Kd.V_elderB (tV_ HO_194002) gb228 (Nat.le_of_eq hg.symm)) hb); replace HO202 := Aside0.mk (Kd.N_below (Kd.N_elderB (tN_ HO202) gb228 (Nat.le_of_eq hg.symm)) hb); replace HO205 := Aside0.mk (Kd.N_below (Kd.N_elderB (tN_ HO205) gb228 (Nat.le_of_eq hg.symm)) hb); replace HL206_2 := Aside0.mk (Kd.V_below (Kd.V_elderB (tV_ HL206_2) gb228 (Nat.le_of_eq hg.symm)) hb); replace HO212 := Aside0.mk (Kd.R_below (tR_ HO212) hb); replace HO219 := Aside0.mk (Kd.R_below (tR_ HO219) hb); replace HO226 := Aside0.mk (Kd.R_below (tR_ HO226) hb); replace BK193 := Aside0.mk (blk_below (tk_ BK193) hb); replace HR206_2 := Aside0.mk (Kd.C_below (by repeat (first | (with_reducible exact HR206_2.out) | (with_reducible refine Kd.C_alloc ?_ _) | (with_reducible refine Kd.C_drewN ?_ _) | (with_reducible refine Kd.C_drew ?_) | exact HR206_2.out)) hb); replace BK207 := Aside0.mk (blk_below (tk_ BK207) hb); replace BK214 := Aside0.mk (blk_below (tk_ BK214) hb); replace BK221 := Aside0.mk (blk_below (tk_ BK221) hb); replace HB := Aside0.mk (below_step (bw_ HB) hb); clear hb hbox hg; have hnb50 := NB228_193.out; have hnc50 := NB193_228.out; have hnb51 := NB228_207.out; have hnc51 := NB207_228.out; have hnb52 := NB228_214.out; have hnc52 := NB214_228.out; have hnb53 := NB228_221.out; have hnc53 := NB221_228.out; have hcz54_0 := bc_0 BK228; have hcz54_1 := bc_1 BK228; have hcz54_2 := bc_2 BK228; have hfz54_0 := blk_frozen BK228.out 0; have hfz54_1 := blk_frozen BK228.out 1; have hfz54_2 := blk_frozen BK228.out 2; obtain ⟨Ao55, co55, eo55⟩ := Kd.R_slice HO226.out; subst eo55; have hcz56_0 := bc_0 BK207; have hcz56_1 := bc_1 BK207; have hcz56_2 := bc_2 BK207; have hfz56_0 := blk_frozen BK207.out 0; have hfz56_1 := blk_frozen BK207.out 1; have hfz56_2 := blk_frozen BK207.out 2; have hcz57_0 := bc_0 BK193; have hcz57_1 := bc_1 BK193; have hcz57_2 := bc_2 BK193; have hfz57_0 := blk_frozen BK193.out 0; have hfz57_1 := blk_frozen BK193.out 1; have hfz57_2 := blk_frozen BK193.out 2) | ((with_reducible refine gate_callee (f := 26) rfl ?_); refine goesL_ (some 49) rfl rfl Try.func26 (by kernel_rfl) rfl #[.agg #[.int .i64 ((rd_T24 t203 0).f0), .int .i64 ((rd_T24 t203 0).f1), .slice A206_2 ((rd_T24 t203 0).f2).length c206_2], .agg #[.int .i64 a0_0, .int .i64 a0_1, .slice A0_2 l0_2.length c0_2]] rfl (by (try simp only [l_4, l_5, l_6]); first | done | rfl | (simp only [l_7, l_8]; rfl)) ?_; (with_reducible refine (pelotonref03_Same.calls kj3 ((rd_T24 t203 0).f0) ((rd_T24 t203 0).f1) _ _ ((rd_T24 t203 0).f2) a0_0 a0_1 _ _ l0_2 t229 _ ?side1 ?side2 ?side3 ?side4 A23.out).mono ?_); (case side1 => repeat (first | exact ((Kd.V_reads' (by (with_reducible repeat (first | apply Kd.V_alloc | apply Kd.V_drewN | apply Kd.V_drew)); exact (Kd.V_mono (Kd.V_far (p := ⟨gb228, 2, none⟩) (Kd.V_far (p := ⟨gb228, 1, none⟩) (Kd.V_far (p := ⟨gb228, 0, none⟩) (Kd.V_mono HL206_2.out (fun k_ hk => (⟨hk, hk.2⟩ : _ ∧ k_ ≠ gb228))) (fun _ hk => hk.2) (.int .i64 t222)) (fun _ hk => hk.2) (.int .i64 t223)) (fun _ hk => hk.2) (.slice Ao55 t224.length co55)) (fun _ h_ => h_.1)))).2.2) | (with_reducible refine Kd.C_alloc ?_ _) | (with_reducible refine Kd.C_drewN ?_ _) | (with_reducible refine Kd.C_drew ?_))); (case side2 => exact HC206_2.out); (case side3 => refine (Kd.V_reads' (e := 21) (base := w.heap.size) (ok := fun k_ => ((((((((((((P0_2_ k_ ∨ w.heap.size ≤ k_)) ∧ k_ ≠ gb193) ∧ some k_ ≠ (.slice Ao27 y200.length co27 : Value).ownBlock) ∧ some k_ ≠ (.slice (some ad206) t203.length co29 : Value).ownBlock) ∧ k_ ≠ gb207) ∧ some k_ ≠ (.slice Ao38 t210.length co38 : Value).ownBlock) ∧ k_ ≠ gb214) ∧ some k_ ≠ (.slice Ao46 t217.length co46 : Value).ownBlock) ∧ k_ ≠ gb221) ∧ some k_ ≠ (.slice Ao55 t224.length co55 : Value).ownBlock) ∧ k_ ≠ gb228)) (n := l0_2.length) (c := c0_2) ?_).2.2; exact (by (with_reducible repeat (first | apply Kd.V_alloc | apply Kd.V_drewN | apply Kd.V_drew)); exact (Kd.V_mono (Kd.V_far (p := ⟨gb228, 2, none⟩) (Kd.V_far (p := ⟨gb228, 1, none⟩) (Kd.V_far (p := ⟨gb228, 0, none⟩) (Kd.V_mono HO_194002.out (fun k_ hk => (⟨hk, hk.2⟩ : _ ∧ k_ ≠ gb228))) (fun _ hk => hk.2) (.int .i64 t222)) (fun _ hk => hk.2) (.int .i64 t223)) (fun _ hk => hk.2) (.slice Ao55 t224.length co55)) (fun _ h_ => h_.1)))); (case side4 => exact (Kd.V_reads' HO_194002.out).2.1); rintro e w58 ⟨rfl, hb⟩; (try clear A23); refine ⟨_, rfl, ?_⟩; replace HO_194002 := Aside0.mk (Kd.V_below (by (with_reducible repeat (first | apply Kd.V_alloc | apply Kd.V_drewN | apply Kd.V_drew)); exact (Kd.V_mono (Kd.V_far (p := ⟨gb228, 2, none⟩) (Kd.V_far (p := ⟨gb228, 1, none⟩) (Kd.V_far (p := ⟨gb228, 0, none⟩) (Kd.V_mono HO_194002.out (fun k_ hk => (⟨hk, hk.2⟩ : _ ∧ k_ ≠ gb228))) (fun _ hk => hk.2) (.int .i64 t222)) (fun _ hk => hk.2) (.int .i64 t223)) (fun _ hk => hk.2) (.slice Ao55 t224.length co55)) (fun _ h_ => h_.1))) hb); replace HO202 := Aside0.mk (Kd.N_below (by (with_reducible repeat (first | apply Kd.N_alloc | apply Kd.N_drewN | apply Kd.N_drew)); exact (Kd.N_mono (Kd.N_far (p := ⟨gb228, 2, none⟩) (Kd.N_far (p := ⟨gb228, 1, none⟩) (Kd.N_far (p := ⟨gb228, 0, none⟩) (Kd.N_mono HO202.out (fun k_ hk => (⟨hk, hk.2⟩ : _ ∧ k_ ≠ gb228))) (fun _ hk => hk.2) (.int .i64 t222)) (fun _ hk => hk.2) (.int .i64 t223)) (fun _ hk => hk.2) (.slice Ao55 t224.length co55)) (fun _ h_ => h_.1))) hb); replace HO205 := Aside0.mk (Kd.N_below (by (with_reducible repeat (first | apply Kd.N_alloc | apply Kd.N_drewN | apply Kd.N_drew)); exact (Kd.N_mono (Kd.N_far (p := ⟨gb228, 2, none⟩) (Kd.N_far (p := ⟨gb228, 1, none⟩) (Kd.N_far (p := ⟨gb228, 0, none⟩) (Kd.N_mono HO205.out (fun k_ hk => (⟨hk, hk.2⟩ : _ ∧ k_ ≠ gb228))) (fun _ hk => hk.2) (.int .i64 t222)) (fun _ hk => hk.2) (.int .i64 t223)) (fun _ hk => hk.2) (.slice Ao55 t224.length co55)) (fun _ h_ => h_.1))) hb); replace HO212 := Aside0.mk (Kd.R_below (by (with_reducible repeat (first | apply Kd.R_alloc | apply Kd.R_drewN | apply Kd.R_drew)); exact (Kd.R_mono (Kd.R_far (p := ⟨gb228, 2, none⟩) (Kd.R_far (p := ⟨gb228, 1, none⟩) (Kd.R_far (p := ⟨gb228, 0, none⟩) (Kd.R_types HO212.out BK228.out (by decide)) (fun _ hk => hk.2) (.int .i64 t222)) (fun _ hk => hk.2) (.int .i64 t223)) (fun _ hk => hk.2) (.slice Ao55 t224.length co55)) (fun _ h_ => h_.1))) hb); replace HO219 := Aside0.mk (Kd.R_below (by (with_reducible repeat (first | apply Kd.R_alloc | apply Kd.R_drewN | apply Kd.R_drew)); exact (Kd.R_mono (Kd.R_far (p := ⟨gb228, 2, none⟩) (Kd.R_far (p := ⟨gb228, 1, none⟩) (Kd.R_far (p := ⟨gb228, 0, none⟩) (Kd.R_types HO219.out BK228.out (by decide)) (fun _ hk => hk.2) (.int .i64 t222)) (fun _ hk => hk.2) (.int .i64 t223)) (fun _ hk => hk.2) (.slice Ao55 t224.length co55)) (fun _ h_ => h_.1))) hb); replace HO226 := Aside0.mk (Kd.R_below (by (with_reducible repeat (first | apply Kd.R_alloc | apply Kd.R_drewN | apply Kd.R_drew)); exact (Kd.R_mono (Kd.R_far (p := ⟨gb228, 2, none⟩) (Kd.R_far (p := ⟨gb228, 1, none⟩) (Kd.R_far (p := ⟨gb228, 0, none⟩) (Kd.R_types HO226.out BK228.out (by decide)) (fun _ hk => hk.2) (.int .i64 t222)) (fun _ hk => hk.2) (.int .i64 t223)) (fun _ hk => hk.2) (.slice Ao55 t224.length co55)) (fun _ h_ => h_.1))) hb); replace BK193 := Aside0.mk (blk_below (g := gb193) (o := .cells #[.int .i64 a0_0, .int .i64 a0_1, .slice A0_2 l0_2.length c0_2] 24 (0, 0)) (by (with_reducible repeat (first | refine k_n ?_ _ | refine k_d ?_ | refine k_a ?_ _)); refine blk_far ?_ NB193_228.out _; (with_reducible repeat (first | refine k_n ?_ _ | refine k_d ?_ | refine k_a ?_ _)); refine blk_far ?_ NB193_228.out _; (with_reducible repeat (first | refine k_n ?_ _ | refine k_d ?_ | refine k_a ?_ _)); refine blk_far ?_ NB193_228.out _; (with_reducible repeat (first | refine k_n ?_ _ | refine k_d ?_ | refine k_a ?_ _)); exact BK193.out) hb); replace HR206_2 := Aside0.mk (Kd.C_below ((Kd.V_reads' (by (with_reducible repeat (first | apply Kd.V_alloc | apply Kd.V_drewN | apply Kd.V_drew)); exact (Kd.V_mono (Kd.V_far (p := ⟨gb228, 2, none⟩) (Kd.V_far (p := ⟨gb228, 1, none⟩) (Kd.V_far (p := ⟨gb228, 0, none⟩) (Kd.V_mono HL206_2.out (fun k_ hk => (⟨hk, hk.2⟩ : _ ∧ k_ ≠ gb228))) (fun _ hk => hk.2) (.int .i64 t222)) (fun _ hk => hk.2) (.int .i64 t223)) (fun _ hk => hk.2) (.slice Ao55 t224.length co55)) (fun _ h_ => h_.1)))).2.2) hb); replace HL206_2 := Aside0.mk (Kd.V_below (by (with_reducible repeat (first | apply Kd.V_alloc | apply Kd.V_drewN | apply Kd.V_drew)); exact (Kd.V_mono (Kd.V_far (p := ⟨gb228, 2, none⟩) (Kd.V_far (p := ⟨gb228, 1, none⟩) (Kd.V_far (p := ⟨gb228, 0, none⟩) (Kd.V_mono HL206_2.out (fun k_ hk => (⟨hk, hk.2⟩ : _ ∧ k_ ≠ gb228))) (fun _ hk => hk.2) (.int .i64 t222)) (fun _ hk => hk.2) (.int .i64 t223)) (fun _ hk => hk.2) (.slice Ao55 t224.length co55)) (fun _ h_ => h_.1))) hb); replace BK207 := Aside0.mk (blk_below (g := gb207) (o := .cells #[.int .i64 ((rd_T24 t203 0).f0), .int .i64 ((rd_T24 t203 0).f1), .slice A206_2 ((rd_T24 t203 0).f2).length c206_2] 24 (0, 0)) (by (with_reducible repeat (first | refine k_n ?_ _ | refine k_d ?_ | refine k_a ?_ _)); refine blk_far ?_ NB207_228.out _; (with_reducible repeat (first | refine k_n ?_ _ | refine k_d ?_ | refine k_a ?_ _)); refine blk_far ?_ NB207_228.out _; (with_reducible repeat (first | refine k_n ?_ _ | refine k_d ?_ | refine k_a ?_ _)); refine blk_far ?_ NB207_228.out _; (with_reducible repeat (first | refine k_n ?_ _ | refine k_d ?_ | refine k_a ?_ _)); exact BK207.out) hb); replace BK214 := Aside0.mk (blk_below (g := gb214) (o := .cells #[.int .i64 t208, .int .i64 t209, .slice Ao38 t210.length co38] 24 (0, 0)) (by (with_reducible repeat (first | refine k_n ?_ _ | refine k_d ?_ | refine k_a ?_ _)); refine blk_far ?_ NB214_228.out _; (with_reducible repeat (first | refine k_n ?_ _ | refine k_d ?_ | refine k_a ?_ _)); refine blk_far ?_ NB214_228.out _; (with_reducible repeat (first | refine k_n ?_ _ | refine k_d ?_ | refine k_a ?_ _)); refine blk_far ?_ NB214_228.out _; (with_reducible repeat (first | refine k_n ?_ _ | refine k_d ?_ | refine k_a ?_ _)); exact BK214.out) hb); replace BK221 := Aside0.mk (blk_below (g := gb221) (o := .cells #[.int .i64 t215, .int .i64 t216, .slice Ao46 t217.length co46] 24 (0, 0)) (by (with_reducible repeat (first | refine k_n ?_ _ | refine k_d ?_ | refine k_a ?_ _)); refine blk_far ?_ NB221_228.out _; (with_reducible repeat (first | refine k_n ?_ _ | refine k_d ?_ | refine k_a ?_ _)); refine blk_far ?_ NB221_228.out _; (with_reducible repeat (first | refine k_n ?_ _ | refine k_d ?_ | refine k_a ?_ _)); refine blk_far ?_ NB221_228.out _; (with_reducible repeat (first | refine k_n ?_ _ | refine k_d ?_ | refine k_a ?_ _)); exact BK221.out) hb); replace BK228 := Aside0.mk (blk_below (g := gb228) (o := .cells #[.int .i64 t222, .int .i64 t223, .slice Ao55 t224.length co55] 24 (0, 0)) (by (with_reducible repeat (first | refine k_n ?_ _ | refine k_d ?_ | refine k_a ?_ _)); refine blk_put (cs := #[.int .i64 t222, .int .i64 t223, .slice none 0 0]) ?_ 2 _ rfl; (with_reducible repeat (first | refine k_n ?_ _ | refine k_d ?_ | refine k_a ?_ _)); refine blk_put (cs := #[.int .i64 t222, .int .i64 0, .slice none 0 0]) ?_ 1 _ rfl; (with_reducible repeat (first | refine k_n ?_ _ | refine k_d ?_ | refine k_a ?_ _)); refine blk_put (cs := #[.int .i64 0, .int .i64 0, .slice none 0 0]) ?_ 0 _ rfl; (with_reducible repeat (first | refine k_n ?_ _ | refine k_d ?_ | refine k_a ?_ _)); exact BK228.out) hb); replace HB := Aside0.mk (below_step (bw_ HB) hb); (try clear hb); (try clear hb2); (try clear hk); (try clear hi)))
   by_cases c59 : t229 = true
   rotate_left
   ·
    replace c59 := Bool.eq_false_iff.mpr c59
    subst c59
    have H1 : (some false) = some r := by rw [if_neg (show ¬ (false = true) by decide)] at H; exact H
    clear H
    have H := H1
    clear H1
    obtain rfl := Option.some.inj H
    go_wp2
    go_ret
    exact ⟨by first | rfl | (simp [errW_none, errW_some] <;> rfl) | (simp [*, errW_none, errW_some] <;> rfl), by repeat (first | (with_reducible first | exact HB.out | apply b_a | apply b_n | apply b_d | refine b_s ?_ GE193.out | refine b_s ?_ GE207.out | refine b_s ?_ GE214.out | refine b_s ?_ GE221.out | refine b_s ?_ GE228.out) | exact HB.out)⟩
   subst c59
   have H1 : ((pelotonref03_Fit.f a0_0 a0_1 l0_2).bind fun t230 => (if t230 = true then ((pelotonref03_Turn.f kj3 a0_0 a0_1 l0_2).bind fun bt231 => ((pelotonlaw03_held.f kj3 t222 t223 t224 t227 bt231.1 bt231.2.1 bt231.2.2 true).bind fun t236 => (if t236 = true then (if a1 < 0 then (pelotonlaw03_GridCuts.j1 kj3 a1 a2 t213 t220 true a0_0 a0_1 l0_2 t208 t209 t210 t215 t216 t217) else (if a1 > a2 then (pelotonlaw03_GridCuts.j1 kj3 a1 a2 t213 t220 true a0_0 a0_1 l0_2 t208 t209 t210 t215 t216 t217) else (pelotonlaw03_GridCuts.j1 kj3 a1 a2 t213 t220 (decide (a2 > a0_0)) a0_0 a0_1 l0_2 t208 t209 t210 t215 t216 t217))) else (some false)))) else (if t213 = 30 then (if t220 = 30 then (some (t227 == 30)) else (some false)) else (some false)))) = some r := by rw [if_pos rfl] at H; exact H
   clear H
   have H := H1
   clear H1
   replace H := Option.bind_eq_some_iff.mp H
   obtain ⟨t230, A600, H⟩ := H
   replace H : (if t230 = true then ((pelotonref03_Turn.f kj3 a0_0 a0_1 l0_2).bind fun bt231 => ((pelotonlaw03_held.f kj3 t222 t223 t224 t227 bt231.1 bt231.2.1 bt231.2.2 true).bind fun t236 => (if t236 = true then (if a1 < 0 then (pelotonlaw03_GridCuts.j1 kj3 a1 a2 t213 t220 true a0_0 a0_1 l0_2 t208 t209 t210 t215 t216 t217) else (if a1 > a2 then (pelotonlaw03_GridCuts.j1 kj3 a1 a2 t213 t220 true a0_0 a0_1 l0_2 t208 t209 t210 t215 t216 t217) else (pelotonlaw03_GridCuts.j1 kj3 a1 a2 t213 t220 (decide (a2 > a0_0)) a0_0 a0_1 l0_2 t208 t209 t210 t215 t216 t217))) else (some false)))) else (if t213 = 30 then (if t220 = 30 then (some (t227 == 30)) else (some false)) else (some false))) = some r := H
   have A60 := Aside0.mk A600
   clear A600
   have hnb61 := NB193_207.out
   have hnc61 := NB207_193.out
   have hnb62 := NB193_214.out
   have hnc62 := NB214_193.out
   have hnb63 := NB193_221.out
   have hnc63 := NB221_193.out
   have hnb64 := NB193_228.out
   have hnc64 := NB228_193.out
   have hcz65_0 := bc_0 BK193
   have hcz65_1 := bc_1 BK193
   have hcz65_2 := bc_2 BK193
   have hfz65_0 := blk_frozen BK193.out 0
   have hfz65_1 := blk_frozen BK193.out 1
   have hfz65_2 := blk_frozen BK193.out 2
   go_upto_if 53 with (first | ((with_reducible refine gate_callee (f := 32) rfl ?_); refine goesL_ (some 52) rfl rfl Try.func32 (by kernel_rfl) rfl #[.agg #[.int .i64 a0_0, .int .i64 a0_1, .slice A0_2 l0_2.length c0_2]] rfl (by (try simp only [l_4, l_5, l_6]); first | done | rfl | (simp only [l_7, l_8]; rfl)) ?_; (with_reducible refine (pelotonref03_Fit.calls a0_0 a0_1 _ _ l0_2 t230 _ ?side1 ?side2 A60.out).mono ?_); (case side1 => repeat (first | exact (Kd.V_reads' HO_194002.out).2.2 | (with_reducible refine Kd.C_alloc ?_ _) | (with_reducible refine Kd.C_drewN ?_ _) | (with_reducible refine Kd.C_drew ?_))); (case side2 => exact (Kd.V_reads' HO_194002.out).2.1); rintro e w66 ⟨rfl, hb⟩; (try clear A60); refine ⟨_, rfl, ?_⟩; replace HO_194002 := Aside0.mk (Kd.V_below (tV_ HO_194002) hb); replace HO202 := Aside0.mk (Kd.N_below (tN_ HO202) hb); replace HO205 := Aside0.mk (Kd.N_below (tN_ HO205) hb); replace HL206_2 := Aside0.mk (Kd.V_below (tV_ HL206_2) hb); replace HO212 := Aside0.mk (Kd.R_below (tR_ HO212) hb); replace HO219 := Aside0.mk (Kd.R_below (tR_ HO219) hb); replace HO226 := Aside0.mk (Kd.R_below (tR_ HO226) hb); replace BK193 := Aside0.mk (blk_below (tk_ BK193) hb); replace HR206_2 := Aside0.mk (Kd.C_below (by repeat (first | (with_reducible exact HR206_2.out) | (with_reducible refine Kd.C_alloc ?_ _) | (with_reducible refine Kd.C_drewN ?_ _) | (with_reducible refine Kd.C_drew ?_) | exact HR206_2.out)) hb); replace BK207 := Aside0.mk (blk_below (tk_ BK207) hb); replace BK214 := Aside0.mk (blk_below (tk_ BK214) hb); replace BK221 := Aside0.mk (blk_below (tk_ BK221) hb); replace BK228 := Aside0.mk (blk_below (tk_ BK228) hb); replace HB := Aside0.mk (below_step (bw_ HB) hb); (try clear hb); (try clear hb2); (try clear hk); (try clear hi)))
   by_cases c67 : t230 = true
   rotate_left
   ·
    replace c67 := Bool.eq_false_iff.mpr c67
    subst c67
    have H1 : (if t213 = 30 then (if t220 = 30 then (some (t227 == 30)) else (some false)) else (some false)) = some r := by rw [if_neg (show ¬ (false = true) by decide)] at H; exact H
    clear H
    have H := H1
    clear H1
    by_cases c121 : t213 = 30
    rotate_left
    ·
     rw [if_neg c121] at H
     have c121b0 : (t213 == 30) = false := beq_eq_false_iff_ne.mpr c121
     have c121b1 : (t213 != 30) = true := bne_iff_ne.mpr c121
     (first | rw [c121b0] | (simp only [i64_w, i32_w]; rw [c121b0]) | skip)
     obtain rfl := Option.some.inj H
     go_wp2
     go_ret
     exact ⟨by first | rfl | (simp [errW_none, errW_some] <;> rfl) | (simp [*, errW_none, errW_some] <;> rfl), by repeat (first | (with_reducible first | exact HB.out | apply b_a | apply b_n | apply b_d | refine b_s ?_ GE193.out | refine b_s ?_ GE207.out | refine b_s ?_ GE214.out | refine b_s ?_ GE221.out | refine b_s ?_ GE228.out) | exact HB.out)⟩
    rw [if_pos c121] at H
    have c121b0 : (t213 == 30) = true := beq_iff_eq.mpr c121
    have c121b1 : (t213 != 30) = false := bne_eq_false_iff_eq.mpr c121
    clear c121
    (first | rw [c121b0] | (simp only [i64_w, i32_w]; rw [c121b0]) | skip)
    by_cases c122 : t220 = 30
    rotate_left
    ·
     rw [if_neg c122] at H
     have c122b0 : (t220 == 30) = false := beq_eq_false_iff_ne.mpr c122
     have c122b1 : (t220 != 30) = true := bne_iff_ne.mpr c122
     obtain rfl := Option.some.inj H
     go_wp2
     go_ret
     exact ⟨by first | rfl | (simp [errW_none, errW_some] <;> rfl) | (simp [*, errW_none, errW_some] <;> rfl), by repeat (first | (with_reducible first | exact HB.out | apply b_a | apply b_n | apply b_d | refine b_s ?_ GE193.out | refine b_s ?_ GE207.out | refine b_s ?_ GE214.out | refine b_s ?_ GE221.out | refine b_s ?_ GE228.out) | exact HB.out)⟩
    rw [if_pos c122] at H
    have c122b0 : (t220 == 30) = true := beq_iff_eq.mpr c122
    have c122b1 : (t220 != 30) = false := bne_eq_false_iff_eq.mpr c122
    clear c122
    obtain rfl := Option.some.inj H
    go_wp2
    go_ret
    exact ⟨by first | rfl | (simp [errW_none, errW_some] <;> rfl) | (simp [*, errW_none, errW_some] <;> rfl), by repeat (first | (with_reducible first | exact HB.out | apply b_a | apply b_n | apply b_d | refine b_s ?_ GE193.out | refine b_s ?_ GE207.out | refine b_s ?_ GE214.out | refine b_s ?_ GE221.out | refine b_s ?_ GE228.out) | exact HB.out)⟩
   subst c67
   have H1 : ((pelotonref03_Turn.f kj3 a0_0 a0_1 l0_2).bind fun bt231 => ((pelotonlaw03_held.f kj3 t222 t223 t224 t227 bt231.1 bt231.2.1 bt231.2.2 true).bind fun t236 => (if t236 = true then (if a1 < 0 then (pelotonlaw03_GridCuts.j1 kj3 a1 a2 t213 t220 true a0_0 a0_1 l0_2 t208 t209 t210 t215 t216 t217) else (if a1 > a2 then (pelotonlaw03_GridCuts.j1 kj3 a1 a2 t213 t220 true a0_0 a0_1 l0_2 t208 t209 t210 t215 t216 t217) else (pelotonlaw03_GridCuts.j1 kj3 a1 a2 t213 t220 (decide (a2 > a0_0)) a0_0 a0_1 l0_2 t208 t209 t210 t215 t216 t217))) else (some false)))) = some r := by rw [if_pos rfl] at H; exact H
   clear H
   have H := H1
   clear H1
   replace H := Option.bind_eq_some_iff.mp H
   obtain ⟨⟨t231, t232, t233⟩, A680, H⟩ := H
   replace H : ((pelotonlaw03_held.f kj3 t222 t223 t224 t227 t231 t232 t233 true).bind fun t236 => (if t236 = true then (if a1 < 0 then (pelotonlaw03_GridCuts.j1 kj3 a1 a2 t213 t220 true a0_0 a0_1 l0_2 t208 t209 t210 t215 t216 t217) else (if a1 > a2 then (pelotonlaw03_GridCuts.j1 kj3 a1 a2 t213 t220 true a0_0 a0_1 l0_2 t208 t209 t210 t215 t216 t217) else (pelotonlaw03_GridCuts.j1 kj3 a1 a2 t213 t220 (decide (a2 > a0_0)) a0_0 a0_1 l0_2 t208 t209 t210 t215 t216 t217))) else (some false))) = some r := H
   have A68 := Aside0.mk A680
   clear A680
   replace H := Option.bind_eq_some_iff.mp H
   obtain ⟨t236, A690, H⟩ := H
   replace H : (if t236 = true then (if a1 < 0 then (pelotonlaw03_GridCuts.j1 kj3 a1 a2 t213 t220 true a0_0 a0_1 l0_2 t208 t209 t210 t215 t216 t217) else (if a1 > a2 then (pelotonlaw03_GridCuts.j1 kj3 a1 a2 t213 t220 true a0_0 a0_1 l0_2 t208 t209 t210 t215 t216 t217) else (pelotonlaw03_GridCuts.j1 kj3 a1 a2 t213 t220 (decide (a2 > a0_0)) a0_0 a0_1 l0_2 t208 t209 t210 t215 t216 t217))) else (some false)) = some r := H
   have A69 := Aside0.mk A690
   clear A690
   try go_wp2
   replace HO_194002 := Aside0.mk (Kd.V_drew HO_194002.out)
   replace HO202 := Aside0.mk (Kd.N_drew HO202.out)
   replace HO205 := Aside0.mk (Kd.N_drew HO205.out)
   replace HL206_2 := Aside0.mk (Kd.V_drew HL206_2.out)
   replace HO212 := Aside0.mk (Kd.R_drew HO212.out)
   replace HO219 := Aside0.mk (Kd.R_drew HO219.out)
   replace HO226 := Aside0.mk (Kd.R_drew HO226.out)
   replace BK193 := Aside0.mk (k_d BK193.out)
   replace BK207 := Aside0.mk (k_d BK207.out)
   replace BK214 := Aside0.mk (k_d BK214.out)
   replace BK221 := Aside0.mk (k_d BK221.out)
   replace BK228 := Aside0.mk (k_d BK228.out)
   replace HR206_2 := Aside0.mk (Kd.C_drew HR206_2.out)
   replace HB := Aside0.mk (b_d HB.out)
   refine start_ (n := 6) (S := fun w' => w'.cell? ⟨gb228, 0, none⟩ = some (.int .i64 t222) ∧ w'.cell? ⟨gb228, 1, none⟩ = some (.int .i64 t223) ∧ w'.cell? ⟨gb228, 2, none⟩ = some (.slice Ao55 t224.length co55) ∧ w'.cell? ⟨gb193, 0, none⟩ = some (.int .i64 a0_0) ∧ w'.cell? ⟨gb193, 1, none⟩ = some (.int .i64 a0_1) ∧ w'.cell? ⟨gb193, 2, none⟩ = some (.slice A0_2 l0_2.length c0_2)) (ds := []) #[false, false, false, false, false, false] (by kernel_rfl) rfl rfl ⟨(blk_cell BK228.out 0).trans rfl, (blk_cell BK228.out 1).trans rfl, (blk_cell BK228.out 2).trans rfl, (blk_cell BK193.out 0).trans rfl, (blk_cell BK193.out 1).trans rfl, (blk_cell BK193.out 2).trans rfl⟩ (fun hHeld => ?_)
   generalize w66.drew = w70 at HO_194002 HO202 HO205 HL206_2 HO212 HO219 HO226 BK193 BK207 BK214 BK221 BK228 HR206_2 HB hHeld ⊢
   refine pure_ (i := 1) (N := some 65) (v := ?_) (a' := ?_) (bs_ 6 2) rfl rfl (by kernel_rfl) (fun _ _ _ h => h) (Or.inl ⟨by rfl, ?_⟩) ?_ ?_
   rotate_left
   ·
    intro w'
    go_simp
    with_reducible rfl
   rotate_left
   ·
    simp only [Act.put, l_1, l_2, l_3, i64_w, i32_w]
    rfl
   refine take_ (i := 0) (N := some 64) (v := ?_) (a' := ?_) (bs_ 6 3) rfl rfl (by kernel_rfl) (fun _ _ _ h => h) (Or.inl ⟨by rfl, ?_⟩) hHeld ?_ ?_
   rotate_left
   ·
    rintro w' ⟨s0, s1, s2, s3, s4, s5⟩
    go_simp
    with_reducible rfl
   rotate_left
   ·
    simp only [Act.put, l_1, l_2, l_3, i64_w, i32_w]
    rfl
   refine take_ (i := 2) (N := some 66) (v := ?_) (a' := ?_) (bs_ 6 7) rfl rfl (by kernel_rfl) (fun _ _ _ h => h) (Or.inl ⟨by rfl, ?_⟩) hHeld ?_ ?_
   rotate_left
   ·
    rintro w' ⟨s0, s1, s2, s3, s4, s5⟩
    go_simp
    with_reducible rfl
   rotate_left
   ·
    simp only [Act.put, l_1, l_2, l_3, i64_w, i32_w]
    rfl
   refine one_ (i := 3) (N := some 67) (bs_ 6 15) rfl rfl (by kernel_rfl) (by decide) (fun K hK => ?_)
   refine goes_ Try.func33 (by kernel_rfl) rfl #[.agg #[.int .i64 a0_0, .int .i64 a0_1, .slice A0_2 l0_2.length c0_2]] (by rfl) rfl rfl (by (try simp only [l_4, l_5, l_6]); first | done | rfl | (simp only [l_7, l_8]; rfl)) ?_
   with_reducible refine (pelotonref03_Turn.calls kj3 a0_0 a0_1 _ _ l0_2 t231 t232 t233 _ ?side1 ?side2 A68.out).mono ?_
   (case side1 => repeat (first | exact (Kd.V_reads' HO_194002.out).2.2 | (with_reducible refine Kd.C_alloc ?_ _) | (with_reducible refine Kd.C_drewN ?_ _) | (with_reducible refine Kd.C_drew ?_)))
   (case side2 => exact (Kd.V_reads' HO_194002.out).2.1)
   rintro e w71 ⟨v234, rfl, ho0, hb⟩
   refine ⟨_, rfl, ?_⟩
   have HO235 := Aside0.mk (Kd.R_lower (Kd.R_new' (Kd.R_new' (Kd.R_new' (Kd.R_newM (M := fun k_ => (w.heap.size ≤ k_)) ho0 (below_size (bw_ HB)) (fun k_ h_ => h_)) (Kd.R_lt (tR_ HO212))) (Kd.R_lt (tR_ HO219))) (Kd.R_lt (tR_ HO226))) (below_size (bw_ HB)))
   replace HO_194002 := Aside0.mk (Kd.V_elder' (tV_ HO_194002) (Kd.R_base ho0) hb)
   replace HO202 := Aside0.mk (Kd.N_elder' (tN_ HO202) (Kd.R_base ho0) hb)
   replace HO205 := Aside0.mk (Kd.N_elder' (tN_ HO205) (Kd.R_base ho0) hb)
   replace HL206_2 := Aside0.mk (Kd.V_elder' (tV_ HL206_2) (Kd.R_base ho0) hb)
   replace HO212 := Aside0.mk (Kd.R_elder' (tR_ HO212) (Kd.R_base ho0) hb)
   replace HO219 := Aside0.mk (Kd.R_elder' (tR_ HO219) (Kd.R_base ho0) hb)
   replace HO226 := Aside0.mk (Kd.R_elder' (tR_ HO226) (Kd.R_base ho0) hb)
   replace BK193 := Aside0.mk (blk_below (tk_ BK193) hb)
   replace HR206_2 := Aside0.mk (Kd.C_below (by repeat (first | (with_reducible exact HR206_2.out) | (with_reducible refine Kd.C_alloc ?_ _) | (with_reducible refine Kd.C_drewN ?_ _) | (with_reducible refine Kd.C_drew ?_) | exact HR206_2.out)) hb)
   replace BK207 := Aside0.mk (blk_below (tk_ BK207) hb)
   replace BK214 := Aside0.mk (blk_below (tk_ BK214) hb)
   replace BK221 := Aside0.mk (blk_below (tk_ BK221) hb)
   replace BK228 := Aside0.mk (blk_below (tk_ BK228) hb)
   replace HB := Aside0.mk (below_step (bw_ HB) hb)
   (try clear hb)
   (try clear hb2)
   (try clear hk)
   (try clear hi)
   (try clear ho0)
   obtain ⟨Ao72, co72, eo72⟩ := Kd.R_slice HO235.out
   (first | subst eo72 | (injection eo72 with f1_ f2_ f3_; have f4_ := f1_.symm; have f5_ := f3_.symm; clear f1_ f2_ f3_; subst f4_; subst f5_))
   refine hK.out _ _ ⟨(blk_cell BK228.out 0).trans rfl, (blk_cell BK228.out 1).trans rfl, (blk_cell BK228.out 2).trans rfl, (blk_cell BK193.out 0).trans rfl, (blk_cell BK193.out 1).trans rfl, (blk_cell BK193.out 2).trans rfl⟩ (fun hHeld => ?_)
   clear hK K
   refine no_ (N := some 67) ?_
   refine one_ (i := 4) (N := some 68) (bs_ 6 31) rfl rfl (by kernel_rfl) (by decide) (fun K hK => ?_)
   refine goes_ Try.func14 (by kernel_rfl) rfl #[.agg #[.int .i64 t222, .int .i64 t223, .slice Ao55 t224.length co55], .int .i64 t227, .agg #[.int .i64 t231, .int .i64 t232, .slice Ao72 t233.length co72], .bool true] (by rfl) rfl rfl (by (try simp only [l_4, l_5, l_6]); first | done | rfl | (simp only [l_7, l_8]; rfl)) ?_
   with_reducible refine (pelotonlaw03_held.calls kj3 t222 t223 _ _ t224 t227 t231 t232 _ _ t233 true t236 _ ?side1 ?side2 ?side3 ?side4 A69.out).mono ?_
   (case side1 => repeat (first | exact (Kd.R_reads' HO226.out).2.2 | (with_reducible refine Kd.C_alloc ?_ _) | (with_reducible refine Kd.C_drewN ?_ _) | (with_reducible refine Kd.C_drew ?_)))
   (case side2 => exact (Kd.R_reads' HO226.out).2.1)
   (case side3 => repeat (first | exact (Kd.R_reads' HO235.out).2.2 | (with_reducible refine Kd.C_alloc ?_ _) | (with_reducible refine Kd.C_drewN ?_ _) | (with_reducible refine Kd.C_drew ?_)))
   (case side4 => exact (Kd.R_reads' HO235.out).2.1)
   rintro e w73 ⟨rfl, hb⟩
   refine ⟨_, rfl, ?_⟩
   replace HO_194002 := Aside0.mk (Kd.V_below (tV_ HO_194002) hb)
   replace HO202 := Aside0.mk (Kd.N_below (tN_ HO202) hb)
   replace HO205 := Aside0.mk (Kd.N_below (tN_ HO205) hb)
   replace HL206_2 := Aside0.mk (Kd.V_below (tV_ HL206_2) hb)
   replace HO212 := Aside0.mk (Kd.R_below (tR_ HO212) hb)
   replace HO219 := Aside0.mk (Kd.R_below (tR_ HO219) hb)
   replace HO226 := Aside0.mk (Kd.R_below (tR_ HO226) hb)
   replace HO235 := Aside0.mk (Kd.R_below (tR_ HO235) hb)
   replace BK193 := Aside0.mk (blk_below (tk_ BK193) hb)
   replace HR206_2 := Aside0.mk (Kd.C_below (by repeat (first | (with_reducible exact HR206_2.out) | (with_reducible refine Kd.C_alloc ?_ _) | (with_reducible refine Kd.C_drewN ?_ _) | (with_reducible refine Kd.C_drew ?_) | exact HR206_2.out)) hb)
   replace BK207 := Aside0.mk (blk_below (tk_ BK207) hb)
   replace BK214 := Aside0.mk (blk_below (tk_ BK214) hb)
   replace BK221 := Aside0.mk (blk_below (tk_ BK221) hb)
   replace BK228 := Aside0.mk (blk_below (tk_ BK228) hb)
   replace HB := Aside0.mk (below_step (bw_ HB) hb)
   (try clear hb)
   (try clear hb2)
   (try clear hk)
   (try clear hi)
   refine hK.out _ _ ⟨(blk_cell BK228.out 0).trans rfl, (blk_cell BK228.out 1).trans rfl, (blk_cell BK228.out 2).trans rfl, (blk_cell BK193.out 0).trans rfl, (blk_cell BK193.out 1).trans rfl, (blk_cell BK193.out 2).trans rfl⟩ (fun hHeld => ?_)
   clear hK K
   refine no_ (N := some 68) ?_
   refine pure_ (i := 5) (N := some 69) (v := ?_) (a' := ?_) (bs_ 6 63) rfl rfl (by kernel_rfl) (fun _ _ _ h => h) (Or.inl ⟨by rfl, ?_⟩) ?_ ?_
   rotate_left
   ·
    intro w'
    go_simp
    with_reducible rfl
   rotate_left
   ·
    simp only [Act.put, l_1, l_2, l_3, i64_w, i32_w]
    rfl
   refine done_ (by kernel_rfl) ?_
   go_upto_if 69 with (fail)
   by_cases c74 : t236 = true
   rotate_left
   ·
    replace c74 := Bool.eq_false_iff.mpr c74
    subst c74
    have H1 : (some false) = some r := by rw [if_neg (show ¬ (false = true) by decide)] at H; exact H
    clear H
    have H := H1
    clear H1
    obtain rfl := Option.some.inj H
    go_wp2
    go_ret
    exact ⟨by first | rfl | (simp [errW_none, errW_some] <;> rfl) | (simp [*, errW_none, errW_some] <;> rfl), by repeat (first | (with_reducible first | exact HB.out | apply b_a | apply b_n | apply b_d | refine b_s ?_ GE193.out | refine b_s ?_ GE207.out | refine b_s ?_ GE214.out | refine b_s ?_ GE221.out | refine b_s ?_ GE228.out) | exact HB.out)⟩
   subst c74
   have H1 : (if a1 < 0 then (pelotonlaw03_GridCuts.j1 kj3 a1 a2 t213 t220 true a0_0 a0_1 l0_2 t208 t209 t210 t215 t216 t217) else (if a1 > a2 then (pelotonlaw03_GridCuts.j1 kj3 a1 a2 t213 t220 true a0_0 a0_1 l0_2 t208 t209 t210 t215 t216 t217) else (pelotonlaw03_GridCuts.j1 kj3 a1 a2 t213 t220 (decide (a2 > a0_0)) a0_0 a0_1 l0_2 t208 t209 t210 t215 t216 t217))) = some r := by rw [if_pos rfl] at H; exact H
   clear H
   have H := H1
   clear H1
   have HC75 := Aside0.mk H
   clear H
   go_upto_region 13 with (fail)
   go_cut [82] (fun v82 wc => ∃ (kq : Nat) (x82_74 : Bool), v82 = .bool x82_74 ∧ Aside0 (pelotonlaw03_GridCuts.j1 kq a1 a2 t213 t220 x82_74 a0_0 a0_1 l0_2 t208 t209 t210 t215 t216 t217 = some r) ∧ Aside0 (kq ≤ kj3) ∧ Aside0 (Kd.V (Kd.int .i32) 21 wc w.heap.size (fun k_ => (P0_2_ k_ ∨ w.heap.size ≤ k_) ∧ some k_ ≠ ((.slice Ao38 t210.length co38) : Value).ownBlock ∧ some k_ ≠ ((.slice Ao46 t217.length co46) : Value).ownBlock ∧ some k_ ≠ ((.slice Ao55 t224.length co55) : Value).ownBlock ∧ k_ ≠ gb193 ∧ k_ ≠ gb214 ∧ k_ ≠ gb221 ∧ k_ ≠ gb228) (.slice A0_2 l0_2.length c0_2) l0_2) ∧ Aside0 (Kd.R (Kd.int .i32) 21 wc w.heap.size (fun k_ => (w.heap.size ≤ k_) ∧ some k_ ≠ ((.slice Ao46 t217.length co46) : Value).ownBlock ∧ some k_ ≠ ((.slice Ao55 t224.length co55) : Value).ownBlock) (.slice Ao38 t210.length co38) t210) ∧ Aside0 (Kd.R (Kd.int .i32) 21 wc w.heap.size (fun k_ => (w.heap.size ≤ k_) ∧ some k_ ≠ ((.slice Ao38 t210.length co38) : Value).ownBlock ∧ some k_ ≠ ((.slice Ao55 t224.length co55) : Value).ownBlock) (.slice Ao46 t217.length co46) t217) ∧ Aside0 (Kd.R (Kd.int .i32) 21 wc w.heap.size (fun k_ => (w.heap.size ≤ k_) ∧ some k_ ≠ ((.slice Ao38 t210.length co38) : Value).ownBlock ∧ some k_ ≠ ((.slice Ao46 t217.length co46) : Value).ownBlock) (.slice Ao55 t224.length co55) t224) ∧ Aside0 (wc.heap[gb193]? = some (.cells #[.int .i64 a0_0, .int .i64 a0_1, (.slice A0_2 l0_2.length c0_2)] 24 (0, 0))) ∧ Aside0 (wc.heap[gb214]? = some (.cells #[.int .i64 t208, .int .i64 t209, (.slice Ao38 t210.length co38)] 24 (0, 0))) ∧ Aside0 (wc.heap[gb221]? = some (.cells #[.int .i64 t215, .int .i64 t216, (.slice Ao46 t217.length co46)] 24 (0, 0))) ∧ Aside0 (wc.heap[gb228]? = some (.cells #[.int .i64 t222, .int .i64 t223, (.slice Ao55 t224.length co55)] 24 (0, 0))) ∧ Aside0 (Kd.C (Kd.int .i32) wc A206_2 ((rd_T24 t203 0).f2).length ((rd_T24 t203 0).f2)) ∧ Aside0 (Below w.heap.size w wc))
   case first =>
    have H := HC75.out
    clear HC75
    by_cases c76 : a1 < 0
    ·
     rw [if_pos c76] at H
     have c76b0 : decide (a1 < 0) = true := decide_eq_true c76
     clear c76
     (first | rw [c76b0] | (simp only [i64_w, i32_w]; rw [c76b0]) | skip)
     have H' := Aside0.mk H
     clear H
     go_wp2
     go_meet
     case rel => exact ⟨_, (true), (by first | rfl | (simp; done) | (simp [*]; done)), H', ⟨by have := HJ3.out; first | omega | exact Nat.le_refl _⟩, ⟨by (with_reducible repeat (first | apply Kd.V_alloc | apply Kd.V_drewN | apply Kd.V_drew)); exact Kd.V_mono HO_194002.out (fun _ hk => ⟨hk.1.1.1.1.1.1.1.1.1.1.1, ⟨hk.1.1.1.1.1.1.2, ⟨hk.1.1.1.1.2, ⟨hk.1.1.2, ⟨hk.1.1.1.1.1.1.1.1.1.1.2, ⟨hk.1.1.1.1.1.2, ⟨hk.1.1.1.2, hk.1.2⟩⟩⟩⟩⟩⟩⟩)⟩, ⟨by (with_reducible repeat (first | apply Kd.R_alloc | apply Kd.R_drewN | apply Kd.R_drew)); exact Kd.R_mono HO212.out (fun _ hk => ⟨hk.1.1.1.1, ⟨hk.1.1.2, hk.1.2⟩⟩)⟩, ⟨by (with_reducible repeat (first | apply Kd.R_alloc | apply Kd.R_drewN | apply Kd.R_drew)); exact Kd.R_mono HO219.out (fun _ hk => ⟨hk.1.1.1.1, ⟨hk.1.1.2, hk.1.2⟩⟩)⟩, ⟨by (with_reducible repeat (first | apply Kd.R_alloc | apply Kd.R_drewN | apply Kd.R_drew)); exact Kd.R_mono HO226.out (fun _ hk => ⟨hk.1.1.1.1, ⟨hk.1.1.2, hk.1.2⟩⟩)⟩, ⟨tk_ BK193⟩, ⟨tk_ BK214⟩, ⟨tk_ BK221⟩, ⟨tk_ BK228⟩, ⟨by repeat (first | (with_reducible exact HR206_2.out) | (with_reducible refine Kd.C_alloc ?_ _) | (with_reducible refine Kd.C_drewN ?_ _) | (with_reducible refine Kd.C_drew ?_) | exact HR206_2.out)⟩, ⟨by repeat (first | (with_reducible first | exact HB.out | apply b_a | apply b_n | apply b_d | refine b_s ?_ GE193.out | refine b_s ?_ GE207.out | refine b_s ?_ GE214.out | refine b_s ?_ GE221.out | refine b_s ?_ GE228.out) | exact HB.out)⟩⟩
    rw [if_neg c76] at H
    have c76b0 : decide (a1 < 0) = false := decide_eq_false c76
    clear c76
    (first | rw [c76b0] | (simp only [i64_w, i32_w]; rw [c76b0]) | skip)
    by_cases c77 : a1 > a2
    ·
     rw [if_pos c77] at H
     have c77b0 : decide (a2 < a1) = true := decide_eq_true c77
     clear c77
     have H' := Aside0.mk H
     clear H
     go_wp2
     go_meet
     case rel => exact ⟨_, (true), (by first | rfl | (simp; done) | (simp [*]; done)), H', ⟨by have := HJ3.out; first | omega | exact Nat.le_refl _⟩, ⟨by (with_reducible repeat (first | apply Kd.V_alloc | apply Kd.V_drewN | apply Kd.V_drew)); exact Kd.V_mono HO_194002.out (fun _ hk => ⟨hk.1.1.1.1.1.1.1.1.1.1.1, ⟨hk.1.1.1.1.1.1.2, ⟨hk.1.1.1.1.2, ⟨hk.1.1.2, ⟨hk.1.1.1.1.1.1.1.1.1.1.2, ⟨hk.1.1.1.1.1.2, ⟨hk.1.1.1.2, hk.1.2⟩⟩⟩⟩⟩⟩⟩)⟩, ⟨by (with_reducible repeat (first | apply Kd.R_alloc | apply Kd.R_drewN | apply Kd.R_drew)); exact Kd.R_mono HO212.out (fun _ hk => ⟨hk.1.1.1.1, ⟨hk.1.1.2, hk.1.2⟩⟩)⟩, ⟨by (with_reducible repeat (first | apply Kd.R_alloc | apply Kd.R_drewN | apply Kd.R_drew)); exact Kd.R_mono HO219.out (fun _ hk => ⟨hk.1.1.1.1, ⟨hk.1.1.2, hk.1.2⟩⟩)⟩, ⟨by (with_reducible repeat (first | apply Kd.R_alloc | apply Kd.R_drewN | apply Kd.R_drew)); exact Kd.R_mono HO226.out (fun _ hk => ⟨hk.1.1.1.1, ⟨hk.1.1.2, hk.1.2⟩⟩)⟩, ⟨tk_ BK193⟩, ⟨tk_ BK214⟩, ⟨tk_ BK221⟩, ⟨tk_ BK228⟩, ⟨by repeat (first | (with_reducible exact HR206_2.out) | (with_reducible refine Kd.C_alloc ?_ _) | (with_reducible refine Kd.C_drewN ?_ _) | (with_reducible refine Kd.C_drew ?_) | exact HR206_2.out)⟩, ⟨by repeat (first | (with_reducible first | exact HB.out | apply b_a | apply b_n | apply b_d | refine b_s ?_ GE193.out | refine b_s ?_ GE207.out | refine b_s ?_ GE214.out | refine b_s ?_ GE221.out | refine b_s ?_ GE228.out) | exact HB.out)⟩⟩
    rw [if_neg c77] at H
    have c77b0 : decide (a2 < a1) = false := decide_eq_false c77
    clear c77
    have H' := Aside0.mk H
    clear H
    have hnb78 := NB193_207.out
    have hnc78 := NB207_193.out
    have hnb79 := NB193_214.out
    have hnc79 := NB214_193.out
    have hnb80 := NB193_221.out
    have hnc80 := NB221_193.out
    have hnb81 := NB193_228.out
    have hnc81 := NB228_193.out
    have hcz82_0 := bc_0 BK193
    have hcz82_1 := bc_1 BK193
    have hcz82_2 := bc_2 BK193
    have hfz82_0 := blk_frozen BK193.out 0
    have hfz82_1 := blk_frozen BK193.out 1
    have hfz82_2 := blk_frozen BK193.out 2
    go_wp2
    go_meet
    case rel => exact ⟨_, (decide (a2 > a0_0)), (by first | rfl | (simp; done) | (simp [*]; done)), H', ⟨by have := HJ3.out; first | omega | exact Nat.le_refl _⟩, ⟨by (with_reducible repeat (first | apply Kd.V_alloc | apply Kd.V_drewN | apply Kd.V_drew)); exact Kd.V_mono HO_194002.out (fun _ hk => ⟨hk.1.1.1.1.1.1.1.1.1.1.1, ⟨hk.1.1.1.1.1.1.2, ⟨hk.1.1.1.1.2, ⟨hk.1.1.2, ⟨hk.1.1.1.1.1.1.1.1.1.1.2, ⟨hk.1.1.1.1.1.2, ⟨hk.1.1.1.2, hk.1.2⟩⟩⟩⟩⟩⟩⟩)⟩, ⟨by (with_reducible repeat (first | apply Kd.R_alloc | apply Kd.R_drewN | apply Kd.R_drew)); exact Kd.R_mono HO212.out (fun _ hk => ⟨hk.1.1.1.1, ⟨hk.1.1.2, hk.1.2⟩⟩)⟩, ⟨by (with_reducible repeat (first | apply Kd.R_alloc | apply Kd.R_drewN | apply Kd.R_drew)); exact Kd.R_mono HO219.out (fun _ hk => ⟨hk.1.1.1.1, ⟨hk.1.1.2, hk.1.2⟩⟩)⟩, ⟨by (with_reducible repeat (first | apply Kd.R_alloc | apply Kd.R_drewN | apply Kd.R_drew)); exact Kd.R_mono HO226.out (fun _ hk => ⟨hk.1.1.1.1, ⟨hk.1.1.2, hk.1.2⟩⟩)⟩, ⟨tk_ BK193⟩, ⟨tk_ BK214⟩, ⟨tk_ BK221⟩, ⟨tk_ BK228⟩, ⟨by repeat (first | (with_reducible exact HR206_2.out) | (with_reducible refine Kd.C_alloc ?_ _) | (with_reducible refine Kd.C_drewN ?_ _) | (with_reducible refine Kd.C_drew ?_) | exact HR206_2.out)⟩, ⟨by repeat (first | (with_reducible first | exact HB.out | apply b_a | apply b_n | apply b_d | refine b_s ?_ GE193.out | refine b_s ?_ GE207.out | refine b_s ?_ GE214.out | refine b_s ?_ GE221.out | refine b_s ?_ GE228.out) | exact HB.out)⟩⟩
   case rest => as_aux_lemma =>
    clear HC75
    try clear c1
    try clear c2
    try clear p2
    try clear q2
    try clear hx2
    try clear qi2
    try clear c3
    try clear c4
    try clear c5
    try clear c6
    try clear c7
    try clear c8
    try clear c10
    try clear c14
    try clear c15
    try clear c19
    try clear c19b0
    try clear c19b1
    try clear c20
    try clear p20
    try clear q20
    try clear hx20
    try clear qi20
    try clear c22
    try clear c23
    try clear c26
    try clear c30
    try clear c31
    try clear c32
    try clear c33
    try clear c35
    try clear c36
    try clear c42
    try clear c43
    try clear c44
    try clear c50
    try clear c51
    try clear c52
    try clear c53
    try clear c59
    try clear c61
    try clear c62
    try clear c63
    try clear c64
    try clear c67
    try clear c74
    try clear c76
    try clear c76b0
    try clear c77
    try clear c77b0
    try clear c78
    try clear c79
    try clear c80
    try clear c81
    try clear hcz10_0
    try clear hcz10_1
    try clear hcz10_2
    try clear hcz24_0
    try clear hcz24_1
    try clear hcz24_2
    try clear hcz32_0
    try clear hcz32_1
    try clear hcz32_2
    try clear hcz37_0
    try clear hcz37_1
    try clear hcz37_2
    try clear hcz39_0
    try clear hcz39_1
    try clear hcz39_2
    try clear hcz45_0
    try clear hcz45_1
    try clear hcz45_2
    try clear hcz47_0
    try clear hcz47_1
    try clear hcz47_2
    try clear hcz54_0
    try clear hcz54_1
    try clear hcz54_2
    try clear hcz56_0
    try clear hcz56_1
    try clear hcz56_2
    try clear hcz57_0
    try clear hcz57_1
    try clear hcz57_2
    try clear hcz65_0
    try clear hcz65_1
    try clear hcz65_2
    try clear hcz82_0
    try clear hcz82_1
    try clear hcz82_2
    try clear hfz10_0
    try clear hfz10_1
    try clear hfz10_2
    try clear hfz24_0
    try clear hfz24_1
    try clear hfz24_2
    try clear hfz32_0
    try clear hfz32_1
    try clear hfz32_2
    try clear hfz37_0
    try clear hfz37_1
    try clear hfz37_2
    try clear hfz39_0
    try clear hfz39_1
    try clear hfz39_2
    try clear hfz45_0
    try clear hfz45_1
    try clear hfz45_2
    try clear hfz47_0
    try clear hfz47_1
    try clear hfz47_2
    try clear hfz54_0
    try clear hfz54_1
    try clear hfz54_2
    try clear hfz56_0
    try clear hfz56_1
    try clear hfz56_2
    try clear hfz57_0
    try clear hfz57_1
    try clear hfz57_2
    try clear hfz65_0
    try clear hfz65_1
    try clear hfz65_2
    try clear hfz82_0
    try clear hfz82_1
    try clear hfz82_2
    try clear hx206_0
    try clear hx206_1
    try clear hx206_2
    try clear p2
    try clear p206
    try clear q206
    obtain ⟨kq, x82_74, rfl, HA, HJ74, HO_194002, HO_215002, HO_222002, HO_229002, BK193, BK214, BK221, BK228, HR206_2, HB⟩ := hcut
    cases kq with
    | zero => exact absurd HA.out (by simp [pelotonlaw03_GridCuts.j1])
    | succ kj74 =>
     have H := HA.out
     clear HA
     simp only [pelotonlaw03_GridCuts.j1] at H
     have HC83 := Aside0.mk H
     clear H
     go_upto_if 82 with (fail)
     go_cut [] (fun wc => ∃ (kq : Nat), Aside0 (pelotonlaw03_GridCuts.j2 kq a1 a2 t220 a0_0 a0_1 l0_2 t215 t216 t217 = some r) ∧ Aside0 (kq ≤ kj74) ∧ Aside0 (Kd.V (Kd.int .i32) 21 wc w.heap.size (fun k_ => (P0_2_ k_ ∨ w.heap.size ≤ k_) ∧ some k_ ≠ ((.slice Ao38 t210.length co38) : Value).ownBlock ∧ some k_ ≠ ((.slice Ao46 t217.length co46) : Value).ownBlock ∧ some k_ ≠ ((.slice Ao55 t224.length co55) : Value).ownBlock ∧ k_ ≠ gb193 ∧ k_ ≠ gb214 ∧ k_ ≠ gb221 ∧ k_ ≠ gb228) (.slice A0_2 l0_2.length c0_2) l0_2) ∧ Aside0 (Kd.R (Kd.int .i32) 21 wc w.heap.size (fun k_ => (w.heap.size ≤ k_) ∧ some k_ ≠ ((.slice Ao46 t217.length co46) : Value).ownBlock ∧ some k_ ≠ ((.slice Ao55 t224.length co55) : Value).ownBlock) (.slice Ao38 t210.length co38) t210) ∧ Aside0 (Kd.R (Kd.int .i32) 21 wc w.heap.size (fun k_ => (w.heap.size ≤ k_) ∧ some k_ ≠ ((.slice Ao38 t210.length co38) : Value).ownBlock ∧ some k_ ≠ ((.slice Ao55 t224.length co55) : Value).ownBlock) (.slice Ao46 t217.length co46) t217) ∧ Aside0 (Kd.R (Kd.int .i32) 21 wc w.heap.size (fun k_ => (w.heap.size ≤ k_) ∧ some k_ ≠ ((.slice Ao38 t210.length co38) : Value).ownBlock ∧ some k_ ≠ ((.slice Ao46 t217.length co46) : Value).ownBlock) (.slice Ao55 t224.length co55) t224) ∧ Aside0 (wc.heap[gb193]? = some (.cells #[.int .i64 a0_0, .int .i64 a0_1, (.slice A0_2 l0_2.length c0_2)] 24 (0, 0))) ∧ Aside0 (wc.heap[gb214]? = some (.cells #[.int .i64 t208, .int .i64 t209, (.slice Ao38 t210.length co38)] 24 (0, 0))) ∧ Aside0 (wc.heap[gb221]? = some (.cells #[.int .i64 t215, .int .i64 t216, (.slice Ao46 t217.length co46)] 24 (0, 0))) ∧ Aside0 (wc.heap[gb228]? = some (.cells #[.int .i64 t222, .int .i64 t223, (.slice Ao55 t224.length co55)] 24 (0, 0))) ∧ Aside0 (Kd.C (Kd.int .i32) wc A206_2 ((rd_T24 t203 0).f2).length ((rd_T24 t203 0).f2)) ∧ Aside0 (Below w.heap.size w wc))
     case first =>
      have H := HC83.out
      clear HC83
      by_cases c84 : x82_74 = true
      ·
       subst c84
       have H1 : (if t213 = 2 then ((pelotonref03_Same.f kj74 t208 t209 t210 0 0 ([] : List Int)).bind fun t237 => (if t237 = true then (pelotonlaw03_GridCuts.j2 kj74 a1 a2 t220 a0_0 a0_1 l0_2 t215 t216 t217) else (some false))) else (some false)) = some r := by rw [if_pos rfl] at H; exact H
       clear H
       have H := H1
       clear H1
       by_cases c85 : t213 = 2
       rotate_left
       ·
        rw [if_neg c85] at H
        have c85b0 : (t213 == 2) = false := beq_eq_false_iff_ne.mpr c85
        have c85b1 : (t213 != 2) = true := bne_iff_ne.mpr c85
        (first | rw [c85b0] | (simp only [i64_w, i32_w]; rw [c85b0]) | skip)
        obtain rfl := Option.some.inj H
        go_wp2
        go_ret
        exact ⟨by first | rfl | (simp [errW_none, errW_some] <;> rfl) | (simp [*, errW_none, errW_some] <;> rfl), by repeat (first | (with_reducible first | exact HB.out | apply b_a | apply b_n | apply b_d | refine b_s ?_ GE193.out | refine b_s ?_ GE214.out | refine b_s ?_ GE221.out | refine b_s ?_ GE228.out) | exact HB.out)⟩
       rw [if_pos c85] at H
       have c85b0 : (t213 == 2) = true := beq_iff_eq.mpr c85
       have c85b1 : (t213 != 2) = false := bne_eq_false_iff_eq.mpr c85
       clear c85
       (first | rw [c85b0] | (simp only [i64_w, i32_w]; rw [c85b0]) | skip)
       replace H := Option.bind_eq_some_iff.mp H
       obtain ⟨t237, A860, H⟩ := H
       replace H : (if t237 = true then (pelotonlaw03_GridCuts.j2 kj74 a1 a2 t220 a0_0 a0_1 l0_2 t215 t216 t217) else (some false)) = some r := H
       have A86 := Aside0.mk A860
       clear A860
       have hnb87 := NB214_193.out
       have hnc87 := NB193_214.out
       have hnb88 := NB214_221.out
       have hnc88 := NB221_214.out
       have hnb89 := NB214_228.out
       have hnc89 := NB228_214.out
       have hcz90_0 := bc_0 BK214
       have hcz90_1 := bc_1 BK214
       have hcz90_2 := bc_2 BK214
       have hfz90_0 := blk_frozen BK214.out 0
       have hfz90_1 := blk_frozen BK214.out 1
       have hfz90_2 := blk_frozen BK214.out 2
       go_upto_if 90 with (first | (go_at_call 26; (refine (pelotonref03_Same.calls kj74 t208 t209 _ _ t210 0 0 _ _ ([] : List Int) t237 _ ?side1 ?side2 ?side3 ?side4 A86.out).mono ?_); (case side1 => repeat (first | exact (Kd.R_reads' HO_215002.out).2.2 | (with_reducible refine Kd.C_alloc ?_ _) | (with_reducible refine Kd.C_drewN ?_ _) | (with_reducible refine Kd.C_drew ?_))); (case side2 => exact (Kd.R_reads' HO_215002.out).2.1); (case side3 => exact Kd.C_nil _ _); (case side4 => exact Nat.le_refl _); rintro e w91 ⟨rfl, hb⟩; (try clear A86); replace HO_194002 := Aside0.mk (Kd.V_below (tV_ HO_194002) hb); replace HO_215002 := Aside0.mk (Kd.R_below (tR_ HO_215002) hb); replace HO_222002 := Aside0.mk (Kd.R_below (tR_ HO_222002) hb); replace HO_229002 := Aside0.mk (Kd.R_below (tR_ HO_229002) hb); replace BK193 := Aside0.mk (blk_below (tk_ BK193) hb); replace BK214 := Aside0.mk (blk_below (tk_ BK214) hb); replace BK221 := Aside0.mk (blk_below (tk_ BK221) hb); replace BK228 := Aside0.mk (blk_below (tk_ BK228) hb); replace HR206_2 := Aside0.mk (Kd.C_below (by repeat (first | (with_reducible exact HR206_2.out) | (with_reducible refine Kd.C_alloc ?_ _) | (with_reducible refine Kd.C_drewN ?_ _) | (with_reducible refine Kd.C_drew ?_) | exact HR206_2.out)) hb); replace HB := Aside0.mk (below_step (bw_ HB) hb); (try clear hb); (try clear hb2); (try clear hk); (try clear hi)))
       by_cases c92 : t237 = true
       rotate_left
       ·
        replace c92 := Bool.eq_false_iff.mpr c92
        subst c92
        have H1 : (some false) = some r := by rw [if_neg (show ¬ (false = true) by decide)] at H; exact H
        clear H
        have H := H1
        clear H1
        obtain rfl := Option.some.inj H
        go_wp2
        go_ret
        exact ⟨by first | rfl | (simp [errW_none, errW_some] <;> rfl) | (simp [*, errW_none, errW_some] <;> rfl), by repeat (first | (with_reducible first | exact HB.out | apply b_a | apply b_n | apply b_d | refine b_s ?_ GE193.out | refine b_s ?_ GE214.out | refine b_s ?_ GE221.out | refine b_s ?_ GE228.out) | exact HB.out)⟩
       subst c92
       have H1 : (pelotonlaw03_GridCuts.j2 kj74 a1 a2 t220 a0_0 a0_1 l0_2 t215 t216 t217) = some r := by rw [if_pos rfl] at H; exact H
       clear H
       have H := H1
       clear H1
       have H' := Aside0.mk H
       clear H
       go_wp2
       go_meet
       case rel => exact ⟨_, H', ⟨by have := HJ3.out; have := HJ74.out; first | omega | exact Nat.le_refl _⟩, ⟨tV_ HO_194002⟩, ⟨tR_ HO_215002⟩, ⟨tR_ HO_222002⟩, ⟨tR_ HO_229002⟩, ⟨tk_ BK193⟩, ⟨tk_ BK214⟩, ⟨tk_ BK221⟩, ⟨tk_ BK228⟩, ⟨by repeat (first | (with_reducible exact HR206_2.out) | (with_reducible refine Kd.C_alloc ?_ _) | (with_reducible refine Kd.C_drewN ?_ _) | (with_reducible refine Kd.C_drew ?_) | exact HR206_2.out)⟩, ⟨by repeat (first | (with_reducible first | exact HB.out | apply b_a | apply b_n | apply b_d | refine b_s ?_ GE193.out | refine b_s ?_ GE214.out | refine b_s ?_ GE221.out | refine b_s ?_ GE228.out) | exact HB.out)⟩⟩
      replace c84 := Bool.eq_false_iff.mpr c84
      subst c84
      have H1 : ((pelotonref03_Part.f kj74 a0_0 a0_1 l0_2 a1 a2 0 a0_1).bind fun bt238 => ((pelotonlaw03_held.f kj74 t208 t209 t210 t213 bt238.1 bt238.2.1 bt238.2.2 true).bind fun t243 => (if t243 = true then (pelotonlaw03_GridCuts.j2 kj74 a1 a2 t220 a0_0 a0_1 l0_2 t215 t216 t217) else (some false)))) = some r := by rw [if_neg (show ¬ (false = true) by decide)] at H; exact H
      clear H
      have H := H1
      clear H1
      replace H := Option.bind_eq_some_iff.mp H
      obtain ⟨⟨t238, t239, t240⟩, A930, H⟩ := H
      replace H : ((pelotonlaw03_held.f kj74 t208 t209 t210 t213 t238 t239 t240 true).bind fun t243 => (if t243 = true then (pelotonlaw03_GridCuts.j2 kj74 a1 a2 t220 a0_0 a0_1 l0_2 t215 t216 t217) else (some false))) = some r := H
      have A93 := Aside0.mk A930
      clear A930
      replace H := Option.bind_eq_some_iff.mp H
      obtain ⟨t243, A940, H⟩ := H
      replace H : (if t243 = true then (pelotonlaw03_GridCuts.j2 kj74 a1 a2 t220 a0_0 a0_1 l0_2 t215 t216 t217) else (some false)) = some r := H
      have A94 := Aside0.mk A940
      clear A940
      try go_wp2
      replace HO_194002 := Aside0.mk (Kd.V_drew HO_194002.out)
      replace HO_215002 := Aside0.mk (Kd.R_drew HO_215002.out)
      replace HO_222002 := Aside0.mk (Kd.R_drew HO_222002.out)
      replace HO_229002 := Aside0.mk (Kd.R_drew HO_229002.out)
      replace BK193 := Aside0.mk (k_d BK193.out)
      replace BK214 := Aside0.mk (k_d BK214.out)
      replace BK221 := Aside0.mk (k_d BK221.out)
      replace BK228 := Aside0.mk (k_d BK228.out)
      replace HR206_2 := Aside0.mk (Kd.C_drew HR206_2.out)
      replace HB := Aside0.mk (b_d HB.out)
      refine start_ (n := 10) (S := fun w' => w'.cell? ⟨gb214, 0, none⟩ = some (.int .i64 t208) ∧ w'.cell? ⟨gb214, 1, none⟩ = some (.int .i64 t209) ∧ w'.cell? ⟨gb214, 2, none⟩ = some (.slice Ao38 t210.length co38) ∧ w'.cell? ⟨gb193, 0, none⟩ = some (.int .i64 a0_0) ∧ w'.cell? ⟨gb193, 1, none⟩ = some (.int .i64 a0_1) ∧ w'.cell? ⟨gb193, 2, none⟩ = some (.slice A0_2 l0_2.length c0_2)) (ds := []) #[false, false, false, false, false, false, false, false, false, false] (by kernel_rfl) rfl rfl ⟨(blk_cell BK214.out 0).trans rfl, (blk_cell BK214.out 1).trans rfl, (blk_cell BK214.out 2).trans rfl, (blk_cell BK193.out 0).trans rfl, (blk_cell BK193.out 1).trans rfl, (blk_cell BK193.out 2).trans rfl⟩ (fun hHeld => ?_); refine with_tabW pelotonlaw03_GridCuts.tab16 pelotonlaw03_GridCuts.bits16 (fun HT_ HW_ => ?_)
      generalize wc.drew = w95 at HO_194002 HO_215002 HO_222002 HO_229002 BK193 BK214 BK221 BK228 HR206_2 HB hHeld ⊢
      refine pu_ (i := 1) (N := some 92) (bs_ 10 2) rfl rfl HT_ ?_
      refine pu_ (i := 3) (N := some 94) (bs_ 10 10) rfl rfl HT_ ?_
      refine pu_ (i := 4) (N := some 95) (bs_ 10 26) rfl rfl HT_ ?_
      refine pu_ (i := 5) (N := some 96) (bs_ 10 58) rfl rfl HT_ ?_
      refine take_ (i := 0) (N := some 91) (v := ?_) (a' := ?_) (bs_ 10 59) rfl rfl (take_ofW HT_.out HW_.out (by kernel_rfl)) (fun _ _ _ h => h) (Or.inl ⟨by rfl, ?_⟩) hHeld ?_ ?_
      rotate_left
      ·
       rintro w' ⟨s0, s1, s2, s3, s4, s5⟩
       go_simp
       with_reducible rfl
      rotate_left
      ·
       simp only [Act.put, l_1, l_2, l_3, i64_w, i32_w]
       rfl
      refine take_ (i := 2) (N := some 93) (v := ?_) (a' := ?_) (bs_ 10 63) rfl rfl (take_ofW HT_.out HW_.out (by kernel_rfl)) (fun _ _ _ h => h) (Or.inl ⟨by rfl, ?_⟩) hHeld ?_ ?_
      rotate_left
      ·
       rintro w' ⟨s0, s1, s2, s3, s4, s5⟩
       go_simp
       with_reducible rfl
      rotate_left
      ·
       simp only [Act.put, l_1, l_2, l_3, i64_w, i32_w]
       rfl
      refine take_ (i := 6) (N := some 97) (v := ?_) (a' := ?_) (bs_ 10 127) rfl rfl (take_ofW HT_.out HW_.out (by kernel_rfl)) (fun _ _ _ h => h) (Or.inl ⟨by rfl, ?_⟩) hHeld ?_ ?_
      rotate_left
      ·
       rintro w' ⟨s0, s1, s2, s3, s4, s5⟩
       go_simp
       with_reducible rfl
      rotate_left
      ·
       simp only [Act.put, l_1, l_2, l_3, i64_w, i32_w]
       rfl
      refine one_ (i := 7) (N := some 98) (bs_ 10 255) rfl rfl (one_of HT_.out (by kernel_rfl)) (by decide) (fun K hK => ?_)
      refine goes_ Try.func34 (by kernel_rfl) rfl #[.agg #[.int .i64 a0_0, .int .i64 a0_1, .slice A0_2 l0_2.length c0_2], .int .i64 a1, .int .i64 a2, .int .i64 0, .int .i64 a0_1] (by rfl) rfl rfl (by (try simp only [l_4, l_5, l_6]); first | done | rfl | (simp only [l_7, l_8]; rfl)) ?_
      with_reducible refine (pelotonref03_Part.calls kj74 a0_0 a0_1 _ _ l0_2 a1 a2 0 a0_1 t238 t239 t240 _ ?side1 ?side2 A93.out).mono ?_
      (case side1 => repeat (first | exact (Kd.V_reads' HO_194002.out).2.2 | (with_reducible refine Kd.C_alloc ?_ _) | (with_reducible refine Kd.C_drewN ?_ _) | (with_reducible refine Kd.C_drew ?_)))
      (case side2 => exact (Kd.V_reads' HO_194002.out).2.1)
      rintro e w96 ⟨v241, rfl, ho0, hb⟩
      refine ⟨_, rfl, ?_⟩
      have HO242 := Aside0.mk (Kd.R_lower (Kd.R_new' (Kd.R_new' (Kd.R_new' (Kd.R_newM (M := fun k_ => (w.heap.size ≤ k_)) ho0 (below_size (bw_ HB)) (fun k_ h_ => h_)) (Kd.R_lt (tR_ HO_215002))) (Kd.R_lt (tR_ HO_222002))) (Kd.R_lt (tR_ HO_229002))) (below_size (bw_ HB)))
      replace HO_194002 := Aside0.mk (Kd.V_elder' (tV_ HO_194002) (Kd.R_base ho0) hb)
      replace HO_215002 := Aside0.mk (Kd.R_elder' (tR_ HO_215002) (Kd.R_base ho0) hb)
      replace HO_222002 := Aside0.mk (Kd.R_elder' (tR_ HO_222002) (Kd.R_base ho0) hb)
      replace HO_229002 := Aside0.mk (Kd.R_elder' (tR_ HO_229002) (Kd.R_base ho0) hb)
      replace BK193 := Aside0.mk (blk_below (tk_ BK193) hb)
      replace BK214 := Aside0.mk (blk_below (tk_ BK214) hb)
      replace BK221 := Aside0.mk (blk_below (tk_ BK221) hb)
      replace BK228 := Aside0.mk (blk_below (tk_ BK228) hb)
      replace HR206_2 := Aside0.mk (Kd.C_below (by repeat (first | (with_reducible exact HR206_2.out) | (with_reducible refine Kd.C_alloc ?_ _) | (with_reducible refine Kd.C_drewN ?_ _) | (with_reducible refine Kd.C_drew ?_) | exact HR206_2.out)) hb)
      replace HB := Aside0.mk (below_step (bw_ HB) hb)
      (try clear hb)
      (try clear hb2)
      (try clear hk)
      (try clear hi)
      (try clear ho0)
      obtain ⟨Ao97, co97, eo97⟩ := Kd.R_slice HO242.out
      (first | subst eo97 | (injection eo97 with f1_ f2_ f3_; have f4_ := f1_.symm; have f5_ := f3_.symm; clear f1_ f2_ f3_; subst f4_; subst f5_))
      refine hK.out _ _ ⟨(blk_cell BK214.out 0).trans rfl, (blk_cell BK214.out 1).trans rfl, (blk_cell BK214.out 2).trans rfl, (blk_cell BK193.out 0).trans rfl, (blk_cell BK193.out 1).trans rfl, (blk_cell BK193.out 2).trans rfl⟩ (fun hHeld => ?_)
      clear hK K
      refine no_ (N := some 98) ?_
      refine one_ (i := 8) (N := some 99) (bs_ 10 511) rfl rfl (one_of HT_.out (by kernel_rfl)) (by decide) (fun K hK => ?_)
      refine goes_ Try.func14 (by kernel_rfl) rfl #[.agg #[.int .i64 t208, .int .i64 t209, .slice Ao38 t210.length co38], .int .i64 t213, .agg #[.int .i64 t238, .int .i64 t239, .slice Ao97 t240.length co97], .bool true] (by rfl) rfl rfl (by (try simp only [l_4, l_5, l_6]); first | done | rfl | (simp only [l_7, l_8]; rfl)) ?_
      with_reducible refine (pelotonlaw03_held.calls kj74 t208 t209 _ _ t210 t213 t238 t239 _ _ t240 true t243 _ ?side1 ?side2 ?side3 ?side4 A94.out).mono ?_
      (case side1 => repeat (first | exact (Kd.R_reads' HO_215002.out).2.2 | (with_reducible refine Kd.C_alloc ?_ _) | (with_reducible refine Kd.C_drewN ?_ _) | (with_reducible refine Kd.C_drew ?_)))
      (case side2 => exact (Kd.R_reads' HO_215002.out).2.1)
      (case side3 => repeat (first | exact (Kd.R_reads' HO242.out).2.2 | (with_reducible refine Kd.C_alloc ?_ _) | (with_reducible refine Kd.C_drewN ?_ _) | (with_reducible refine Kd.C_drew ?_)))
      (case side4 => exact (Kd.R_reads' HO242.out).2.1)
      rintro e w98 ⟨rfl, hb⟩
      refine ⟨_, rfl, ?_⟩
      replace HO_194002 := Aside0.mk (Kd.V_below (tV_ HO_194002) hb)
      replace HO_215002 := Aside0.mk (Kd.R_below (tR_ HO_215002) hb)
      replace HO_222002 := Aside0.mk (Kd.R_below (tR_ HO_222002) hb)
      replace HO_229002 := Aside0.mk (Kd.R_below (tR_ HO_229002) hb)
      replace HO242 := Aside0.mk (Kd.R_below (tR_ HO242) hb)
      replace BK193 := Aside0.mk (blk_below (tk_ BK193) hb)
      replace BK214 := Aside0.mk (blk_below (tk_ BK214) hb)
      replace BK221 := Aside0.mk (blk_below (tk_ BK221) hb)
      replace BK228 := Aside0.mk (blk_below (tk_ BK228) hb)
      replace HR206_2 := Aside0.mk (Kd.C_below (by repeat (first | (with_reducible exact HR206_2.out) | (with_reducible refine Kd.C_alloc ?_ _) | (with_reducible refine Kd.C_drewN ?_ _) | (with_reducible refine Kd.C_drew ?_) | exact HR206_2.out)) hb)
      replace HB := Aside0.mk (below_step (bw_ HB) hb)
      (try clear hb)
      (try clear hb2)
      (try clear hk)
      (try clear hi)
      refine hK.out _ _ ⟨(blk_cell BK214.out 0).trans rfl, (blk_cell BK214.out 1).trans rfl, (blk_cell BK214.out 2).trans rfl, (blk_cell BK193.out 0).trans rfl, (blk_cell BK193.out 1).trans rfl, (blk_cell BK193.out 2).trans rfl⟩ (fun hHeld => ?_)
      clear hK K
      refine no_ (N := some 99) ?_
      refine pu_ (i := 9) (N := some 100) (bs_ 10 1023) rfl rfl HT_ ?_
      refine done_ (done_of HT_.out (by kernel_rfl)) ?_
      go_upto_if 100 with (fail)
      by_cases c99 : t243 = true
      rotate_left
      ·
       replace c99 := Bool.eq_false_iff.mpr c99
       subst c99
       have H1 : (some false) = some r := by rw [if_neg (show ¬ (false = true) by decide)] at H; exact H
       clear H
       have H := H1
       clear H1
       obtain rfl := Option.some.inj H
       go_wp2
       go_ret
       exact ⟨by first | rfl | (simp [errW_none, errW_some] <;> rfl) | (simp [*, errW_none, errW_some] <;> rfl), by repeat (first | (with_reducible first | exact HB.out | apply b_a | apply b_n | apply b_d | refine b_s ?_ GE193.out | refine b_s ?_ GE214.out | refine b_s ?_ GE221.out | refine b_s ?_ GE228.out) | exact HB.out)⟩
      subst c99
      have H1 : (pelotonlaw03_GridCuts.j2 kj74 a1 a2 t220 a0_0 a0_1 l0_2 t215 t216 t217) = some r := by rw [if_pos rfl] at H; exact H
      clear H
      have H := H1
      clear H1
      have H' := Aside0.mk H
      clear H
      go_wp2
      go_meet
      case rel => exact ⟨_, H', ⟨by have := HJ3.out; have := HJ74.out; first | omega | exact Nat.le_refl _⟩, ⟨by (with_reducible repeat (first | apply Kd.V_alloc | apply Kd.V_drewN | apply Kd.V_drew)); exact Kd.V_mono HO_194002.out (fun _ hk => ⟨hk.1.1, ⟨hk.1.2.1, ⟨hk.1.2.2.1, ⟨hk.1.2.2.2.1, ⟨hk.1.2.2.2.2.1, ⟨hk.1.2.2.2.2.2.1, ⟨hk.1.2.2.2.2.2.2.1, hk.1.2.2.2.2.2.2.2⟩⟩⟩⟩⟩⟩⟩)⟩, ⟨by (with_reducible repeat (first | apply Kd.R_alloc | apply Kd.R_drewN | apply Kd.R_drew)); exact Kd.R_mono HO_215002.out (fun _ hk => ⟨hk.1.1, ⟨hk.1.2.1, hk.1.2.2⟩⟩)⟩, ⟨by (with_reducible repeat (first | apply Kd.R_alloc | apply Kd.R_drewN | apply Kd.R_drew)); exact Kd.R_mono HO_222002.out (fun _ hk => ⟨hk.1.1, ⟨hk.1.2.1, hk.1.2.2⟩⟩)⟩, ⟨by (with_reducible repeat (first | apply Kd.R_alloc | apply Kd.R_drewN | apply Kd.R_drew)); exact Kd.R_mono HO_229002.out (fun _ hk => ⟨hk.1.1, ⟨hk.1.2.1, hk.1.2.2⟩⟩)⟩, ⟨tk_ BK193⟩, ⟨tk_ BK214⟩, ⟨tk_ BK221⟩, ⟨tk_ BK228⟩, ⟨by repeat (first | (with_reducible exact HR206_2.out) | (with_reducible refine Kd.C_alloc ?_ _) | (with_reducible refine Kd.C_drewN ?_ _) | (with_reducible refine Kd.C_drew ?_) | exact HR206_2.out)⟩, ⟨by repeat (first | (with_reducible first | exact HB.out | apply b_a | apply b_n | apply b_d | refine b_s ?_ GE193.out | refine b_s ?_ GE214.out | refine b_s ?_ GE221.out | refine b_s ?_ GE228.out) | exact HB.out)⟩⟩
     case rest => as_aux_lemma =>
      clear HC83
      try clear c1
      try clear c2
      try clear p2
      try clear q2
      try clear hx2
      try clear qi2
      try clear c3
      try clear c4
      try clear c5
      try clear c6
      try clear c7
      try clear c8
      try clear c9
      try clear c10
      try clear c14
      try clear c15
      try clear c19
      try clear c19b0
      try clear c19b1
      try clear c20
      try clear p20
      try clear q20
      try clear hx20
      try clear qi20
      try clear c22
      try clear c23
      try clear c26
      try clear c30
      try clear c31
      try clear c32
      try clear c33
      try clear c34
      try clear c35
      try clear c36
      try clear c42
      try clear c43
      try clear c44
      try clear c50
      try clear c51
      try clear c52
      try clear c53
      try clear c59
      try clear c61
      try clear c62
      try clear c63
      try clear c64
      try clear c67
      try clear c74
      try clear c76
      try clear c76b0
      try clear c77
      try clear c77b0
      try clear c78
      try clear c79
      try clear c80
      try clear c81
      try clear c84
      try clear c85
      try clear c85b0
      try clear c85b1
      try clear c87
      try clear c88
      try clear c89
      try clear c92
      try clear c99
      try clear hcz10_0
      try clear hcz10_1
      try clear hcz10_2
      try clear hcz24_0
      try clear hcz24_1
      try clear hcz24_2
      try clear hcz32_0
      try clear hcz32_1
      try clear hcz32_2
      try clear hcz37_0
      try clear hcz37_1
      try clear hcz37_2
      try clear hcz39_0
      try clear hcz39_1
      try clear hcz39_2
      try clear hcz45_0
      try clear hcz45_1
      try clear hcz45_2
      try clear hcz47_0
      try clear hcz47_1
      try clear hcz47_2
      try clear hcz54_0
      try clear hcz54_1
      try clear hcz54_2
      try clear hcz56_0
      try clear hcz56_1
      try clear hcz56_2
      try clear hcz57_0
      try clear hcz57_1
      try clear hcz57_2
      try clear hcz65_0
      try clear hcz65_1
      try clear hcz65_2
      try clear hcz82_0
      try clear hcz82_1
      try clear hcz82_2
      try clear hcz90_0
      try clear hcz90_1
      try clear hcz90_2
      try clear hfz10_0
      try clear hfz10_1
      try clear hfz10_2
      try clear hfz24_0
      try clear hfz24_1
      try clear hfz24_2
      try clear hfz32_0
      try clear hfz32_1
      try clear hfz32_2
      try clear hfz37_0
      try clear hfz37_1
      try clear hfz37_2
      try clear hfz39_0
      try clear hfz39_1
      try clear hfz39_2
      try clear hfz45_0
      try clear hfz45_1
      try clear hfz45_2
      try clear hfz47_0
      try clear hfz47_1
      try clear hfz47_2
      try clear hfz54_0
      try clear hfz54_1
      try clear hfz54_2
      try clear hfz56_0
      try clear hfz56_1
      try clear hfz56_2
      try clear hfz57_0
      try clear hfz57_1
      try clear hfz57_2
      try clear hfz65_0
      try clear hfz65_1
      try clear hfz65_2
      try clear hfz82_0
      try clear hfz82_1
      try clear hfz82_2
      try clear hfz90_0
      try clear hfz90_1
      try clear hfz90_2
      try clear hx206_0
      try clear hx206_1
      try clear hx206_2
      try clear p2
      try clear p20
      try clear p206
      try clear q2
      try clear q20
      try clear q206
      obtain ⟨kq, HA, HJ82, HO_194002, HO_215002, HO_222002, HO_229002, BK193, BK214, BK221, BK228, HR206_2, HB⟩ := hcut
      cases kq with
      | zero => exact absurd HA.out (by simp [pelotonlaw03_GridCuts.j2])
      | succ kj82 =>
       have H := HA.out
       clear HA
       simp only [pelotonlaw03_GridCuts.j2] at H
       have HC100 := Aside0.mk H
       clear H
       go_upto_region 18 with (fail)
       go_cut [113] (fun v113 wc => ∃ (kq : Nat) (x113_99 : Bool), v113 = .bool x113_99 ∧ Aside0 (pelotonlaw03_GridCuts.j3 kq a1 a2 t220 x113_99 a0_0 a0_1 l0_2 t215 t216 t217 = some r) ∧ Aside0 (kq ≤ kj82) ∧ Aside0 (Kd.V (Kd.int .i32) 21 wc w.heap.size (fun k_ => (P0_2_ k_ ∨ w.heap.size ≤ k_) ∧ some k_ ≠ ((.slice Ao38 t210.length co38) : Value).ownBlock ∧ some k_ ≠ ((.slice Ao46 t217.length co46) : Value).ownBlock ∧ some k_ ≠ ((.slice Ao55 t224.length co55) : Value).ownBlock ∧ k_ ≠ gb193 ∧ k_ ≠ gb214 ∧ k_ ≠ gb221 ∧ k_ ≠ gb228) (.slice A0_2 l0_2.length c0_2) l0_2) ∧ Aside0 (Kd.R (Kd.int .i32) 21 wc w.heap.size (fun k_ => (w.heap.size ≤ k_) ∧ some k_ ≠ ((.slice Ao46 t217.length co46) : Value).ownBlock ∧ some k_ ≠ ((.slice Ao55 t224.length co55) : Value).ownBlock) (.slice Ao38 t210.length co38) t210) ∧ Aside0 (Kd.R (Kd.int .i32) 21 wc w.heap.size (fun k_ => (w.heap.size ≤ k_) ∧ some k_ ≠ ((.slice Ao38 t210.length co38) : Value).ownBlock ∧ some k_ ≠ ((.slice Ao55 t224.length co55) : Value).ownBlock) (.slice Ao46 t217.length co46) t217) ∧ Aside0 (Kd.R (Kd.int .i32) 21 wc w.heap.size (fun k_ => (w.heap.size ≤ k_) ∧ some k_ ≠ ((.slice Ao38 t210.length co38) : Value).ownBlock ∧ some k_ ≠ ((.slice Ao46 t217.length co46) : Value).ownBlock) (.slice Ao55 t224.length co55) t224) ∧ Aside0 (wc.heap[gb193]? = some (.cells #[.int .i64 a0_0, .int .i64 a0_1, (.slice A0_2 l0_2.length c0_2)] 24 (0, 0))) ∧ Aside0 (wc.heap[gb214]? = some (.cells #[.int .i64 t208, .int .i64 t209, (.slice Ao38 t210.length co38)] 24 (0, 0))) ∧ Aside0 (wc.heap[gb221]? = some (.cells #[.int .i64 t215, .int .i64 t216, (.slice Ao46 t217.length co46)] 24 (0, 0))) ∧ Aside0 (wc.heap[gb228]? = some (.cells #[.int .i64 t222, .int .i64 t223, (.slice Ao55 t224.length co55)] 24 (0, 0))) ∧ Aside0 (Kd.C (Kd.int .i32) wc A206_2 ((rd_T24 t203 0).f2).length ((rd_T24 t203 0).f2)) ∧ Aside0 (Below w.heap.size w wc))
       case first =>
        have H := HC100.out
        clear HC100
        by_cases c101 : a1 < 0
        ·
         rw [if_pos c101] at H
         have c101b0 : decide (a1 < 0) = true := decide_eq_true c101
         clear c101
         (first | rw [c101b0] | (simp only [i64_w, i32_w]; rw [c101b0]) | skip)
         have H' := Aside0.mk H
         clear H
         go_wp2
         go_meet
         case rel => exact ⟨_, (true), (by first | rfl | (simp; done) | (simp [*]; done)), H', ⟨by have := HJ3.out; have := HJ74.out; have := HJ82.out; first | omega | exact Nat.le_refl _⟩, ⟨tV_ HO_194002⟩, ⟨tR_ HO_215002⟩, ⟨tR_ HO_222002⟩, ⟨tR_ HO_229002⟩, ⟨tk_ BK193⟩, ⟨tk_ BK214⟩, ⟨tk_ BK221⟩, ⟨tk_ BK228⟩, ⟨by repeat (first | (with_reducible exact HR206_2.out) | (with_reducible refine Kd.C_alloc ?_ _) | (with_reducible refine Kd.C_drewN ?_ _) | (with_reducible refine Kd.C_drew ?_) | exact HR206_2.out)⟩, ⟨by repeat (first | (with_reducible first | exact HB.out | apply b_a | apply b_n | apply b_d | refine b_s ?_ GE193.out | refine b_s ?_ GE214.out | refine b_s ?_ GE221.out | refine b_s ?_ GE228.out) | exact HB.out)⟩⟩
        rw [if_neg c101] at H
        have c101b0 : decide (a1 < 0) = false := decide_eq_false c101
        clear c101
        (first | rw [c101b0] | (simp only [i64_w, i32_w]; rw [c101b0]) | skip)
        by_cases c102 : a1 > a2
        ·
         rw [if_pos c102] at H
         have c102b0 : decide (a2 < a1) = true := decide_eq_true c102
         clear c102
         have H' := Aside0.mk H
         clear H
         go_wp2
         go_meet
         case rel => exact ⟨_, (true), (by first | rfl | (simp; done) | (simp [*]; done)), H', ⟨by have := HJ3.out; have := HJ74.out; have := HJ82.out; first | omega | exact Nat.le_refl _⟩, ⟨tV_ HO_194002⟩, ⟨tR_ HO_215002⟩, ⟨tR_ HO_222002⟩, ⟨tR_ HO_229002⟩, ⟨tk_ BK193⟩, ⟨tk_ BK214⟩, ⟨tk_ BK221⟩, ⟨tk_ BK228⟩, ⟨by repeat (first | (with_reducible exact HR206_2.out) | (with_reducible refine Kd.C_alloc ?_ _) | (with_reducible refine Kd.C_drewN ?_ _) | (with_reducible refine Kd.C_drew ?_) | exact HR206_2.out)⟩, ⟨by repeat (first | (with_reducible first | exact HB.out | apply b_a | apply b_n | apply b_d | refine b_s ?_ GE193.out | refine b_s ?_ GE214.out | refine b_s ?_ GE221.out | refine b_s ?_ GE228.out) | exact HB.out)⟩⟩
        rw [if_neg c102] at H
        have c102b0 : decide (a2 < a1) = false := decide_eq_false c102
        clear c102
        have H' := Aside0.mk H
        clear H
        have hnb103 := NB193_214.out
        have hnc103 := NB214_193.out
        have hnb104 := NB193_221.out
        have hnc104 := NB221_193.out
        have hnb105 := NB193_228.out
        have hnc105 := NB228_193.out
        have hcz106_0 := bc_0 BK193
        have hcz106_1 := bc_1 BK193
        have hcz106_2 := bc_2 BK193
        have hfz106_0 := blk_frozen BK193.out 0
        have hfz106_1 := blk_frozen BK193.out 1
        have hfz106_2 := blk_frozen BK193.out 2
        go_wp2
        go_meet
        case rel => exact ⟨_, (decide (a2 > a0_1)), (by first | rfl | (simp; done) | (simp [*]; done)), H', ⟨by have := HJ3.out; have := HJ74.out; have := HJ82.out; first | omega | exact Nat.le_refl _⟩, ⟨tV_ HO_194002⟩, ⟨tR_ HO_215002⟩, ⟨tR_ HO_222002⟩, ⟨tR_ HO_229002⟩, ⟨tk_ BK193⟩, ⟨tk_ BK214⟩, ⟨tk_ BK221⟩, ⟨tk_ BK228⟩, ⟨by repeat (first | (with_reducible exact HR206_2.out) | (with_reducible refine Kd.C_alloc ?_ _) | (with_reducible refine Kd.C_drewN ?_ _) | (with_reducible refine Kd.C_drew ?_) | exact HR206_2.out)⟩, ⟨by repeat (first | (with_reducible first | exact HB.out | apply b_a | apply b_n | apply b_d | refine b_s ?_ GE193.out | refine b_s ?_ GE214.out | refine b_s ?_ GE221.out | refine b_s ?_ GE228.out) | exact HB.out)⟩⟩
       case rest => as_aux_lemma =>
        clear HC100
        try clear c1
        try clear c2
        try clear p2
        try clear q2
        try clear hx2
        try clear qi2
        try clear c3
        try clear c4
        try clear c5
        try clear c6
        try clear c7
        try clear c8
        try clear c9
        try clear c10
        try clear c14
        try clear c15
        try clear c19
        try clear c19b0
        try clear c19b1
        try clear c20
        try clear p20
        try clear q20
        try clear hx20
        try clear qi20
        try clear c22
        try clear c23
        try clear c26
        try clear c30
        try clear c31
        try clear c32
        try clear c33
        try clear c34
        try clear c35
        try clear c36
        try clear c42
        try clear c43
        try clear c44
        try clear c50
        try clear c51
        try clear c52
        try clear c53
        try clear c59
        try clear c61
        try clear c62
        try clear c63
        try clear c64
        try clear c67
        try clear c74
        try clear c76
        try clear c76b0
        try clear c77
        try clear c77b0
        try clear c78
        try clear c79
        try clear c80
        try clear c81
        try clear c84
        try clear c85
        try clear c85b0
        try clear c85b1
        try clear c87
        try clear c88
        try clear c89
        try clear c92
        try clear c99
        try clear c101
        try clear c101b0
        try clear c102
        try clear c102b0
        try clear c103
        try clear c104
        try clear c105
        try clear hcz106_0
        try clear hcz106_1
        try clear hcz106_2
        try clear hcz10_0
        try clear hcz10_1
        try clear hcz10_2
        try clear hcz24_0
        try clear hcz24_1
        try clear hcz24_2
        try clear hcz32_0
        try clear hcz32_1
        try clear hcz32_2
        try clear hcz37_0
        try clear hcz37_1
        try clear hcz37_2
        try clear hcz39_0
        try clear hcz39_1
        try clear hcz39_2
        try clear hcz45_0
        try clear hcz45_1
        try clear hcz45_2
        try clear hcz47_0
        try clear hcz47_1
        try clear hcz47_2
        try clear hcz54_0
        try clear hcz54_1
        try clear hcz54_2
        try clear hcz56_0
        try clear hcz56_1
        try clear hcz56_2
        try clear hcz57_0
        try clear hcz57_1
        try clear hcz57_2
        try clear hcz65_0
        try clear hcz65_1
        try clear hcz65_2
        try clear hcz82_0
        try clear hcz82_1
        try clear hcz82_2
        try clear hcz90_0
        try clear hcz90_1
        try clear hcz90_2
        try clear hfz106_0
        try clear hfz106_1
        try clear hfz106_2
        try clear hfz10_0
        try clear hfz10_1
        try clear hfz10_2
        try clear hfz24_0
        try clear hfz24_1
        try clear hfz24_2
        try clear hfz32_0
        try clear hfz32_1
        try clear hfz32_2
        try clear hfz37_0
        try clear hfz37_1
        try clear hfz37_2
        try clear hfz39_0
        try clear hfz39_1
        try clear hfz39_2
        try clear hfz45_0
        try clear hfz45_1
        try clear hfz45_2
        try clear hfz47_0
        try clear hfz47_1
        try clear hfz47_2
        try clear hfz54_0
        try clear hfz54_1
        try clear hfz54_2
        try clear hfz56_0
        try clear hfz56_1
        try clear hfz56_2
        try clear hfz57_0
        try clear hfz57_1
        try clear hfz57_2
        try clear hfz65_0
        try clear hfz65_1
        try clear hfz65_2
        try clear hfz82_0
        try clear hfz82_1
        try clear hfz82_2
        try clear hfz90_0
        try clear hfz90_1
        try clear hfz90_2
        try clear hx206_0
        try clear hx206_1
        try clear hx206_2
        try clear p2
        try clear p20
        try clear p206
        try clear q2
        try clear q20
        try clear q206
        obtain ⟨kq, x113_99, rfl, HA, HJ99, HO_194002, HO_215002, HO_222002, HO_229002, BK193, BK214, BK221, BK228, HR206_2, HB⟩ := hcut
        cases kq with
        | zero => exact absurd HA.out (by simp [pelotonlaw03_GridCuts.j3])
        | succ kj99 =>
         have H := HA.out
         clear HA
         simp only [pelotonlaw03_GridCuts.j3] at H
         by_cases c107 : x113_99 = true
         ·
          subst c107
          have H1 : (if t220 = 2 then ((pelotonref03_Same.f kj99 t215 t216 t217 0 0 ([] : List Int)).bind fun t244 => (some t244)) else (some false)) = some r := by rw [if_pos rfl] at H; exact H
          clear H
          have H := H1
          clear H1
          by_cases c108 : t220 = 2
          rotate_left
          ·
           rw [if_neg c108] at H
           have c108b0 : (t220 == 2) = false := beq_eq_false_iff_ne.mpr c108
           have c108b1 : (t220 != 2) = true := bne_iff_ne.mpr c108
           obtain rfl := Option.some.inj H
           go_wp2
           go_ret
           exact ⟨by first | rfl | (simp [errW_none, errW_some] <;> rfl) | (simp [*, errW_none, errW_some] <;> rfl), by repeat (first | (with_reducible first | exact HB.out | apply b_a | apply b_n | apply b_d | refine b_s ?_ GE193.out | refine b_s ?_ GE214.out | refine b_s ?_ GE221.out | refine b_s ?_ GE228.out) | exact HB.out)⟩
          rw [if_pos c108] at H
          have c108b0 : (t220 == 2) = true := beq_iff_eq.mpr c108
          have c108b1 : (t220 != 2) = false := bne_eq_false_iff_eq.mpr c108
          clear c108
          replace H := Option.bind_eq_some_iff.mp H
          obtain ⟨t244, A1090, H⟩ := H
          replace H : (some t244) = some r := H
          have A109 := Aside0.mk A1090
          clear A1090
          obtain rfl := Option.some.inj H
          have hnb110 := NB221_193.out
          have hnc110 := NB193_221.out
          have hnb111 := NB221_214.out
          have hnc111 := NB214_221.out
          have hnb112 := NB221_228.out
          have hnc112 := NB228_221.out
          have hcz113_0 := bc_0 BK221
          have hcz113_1 := bc_1 BK221
          have hcz113_2 := bc_2 BK221
          have hfz113_0 := blk_frozen BK221.out 0
          have hfz113_1 := blk_frozen BK221.out 1
          have hfz113_2 := blk_frozen BK221.out 2
          go_wp2_with (first | (go_at_call 26; (refine (pelotonref03_Same.calls kj99 t215 t216 _ _ t217 0 0 _ _ ([] : List Int) t244 _ ?side1 ?side2 ?side3 ?side4 A109.out).mono ?_); (case side1 => repeat (first | exact (Kd.R_reads' HO_222002.out).2.2 | (with_reducible refine Kd.C_alloc ?_ _) | (with_reducible refine Kd.C_drewN ?_ _) | (with_reducible refine Kd.C_drew ?_))); (case side2 => exact (Kd.R_reads' HO_222002.out).2.1); (case side3 => exact Kd.C_nil _ _); (case side4 => exact Nat.le_refl _); rintro e w114 ⟨rfl, hb⟩; (try clear A109); replace HO_194002 := Aside0.mk (Kd.V_below (tV_ HO_194002) hb); replace HO_215002 := Aside0.mk (Kd.R_below (tR_ HO_215002) hb); replace HO_222002 := Aside0.mk (Kd.R_below (tR_ HO_222002) hb); replace HO_229002 := Aside0.mk (Kd.R_below (tR_ HO_229002) hb); replace BK193 := Aside0.mk (blk_below (tk_ BK193) hb); replace BK214 := Aside0.mk (blk_below (tk_ BK214) hb); replace BK221 := Aside0.mk (blk_below (tk_ BK221) hb); replace BK228 := Aside0.mk (blk_below (tk_ BK228) hb); replace HR206_2 := Aside0.mk (Kd.C_below (by repeat (first | (with_reducible exact HR206_2.out) | (with_reducible refine Kd.C_alloc ?_ _) | (with_reducible refine Kd.C_drewN ?_ _) | (with_reducible refine Kd.C_drew ?_) | exact HR206_2.out)) hb); replace HB := Aside0.mk (below_step (bw_ HB) hb); (try clear hb); (try clear hb2); (try clear hk); (try clear hi)))
          go_ret
          exact ⟨by first | rfl | (simp [errW_none, errW_some] <;> rfl) | (simp [*, errW_none, errW_some] <;> rfl), by repeat (first | (with_reducible first | exact HB.out | apply b_a | apply b_n | apply b_d | refine b_s ?_ GE193.out | refine b_s ?_ GE214.out | refine b_s ?_ GE221.out | refine b_s ?_ GE228.out) | exact HB.out)⟩
         replace c107 := Bool.eq_false_iff.mpr c107
         subst c107
         have H1 : ((pelotonref03_Part.f kj99 a0_0 a0_1 l0_2 0 a0_0 a1 a2).bind fun bt245 => ((pelotonlaw03_held.f kj99 t215 t216 t217 t220 bt245.1 bt245.2.1 bt245.2.2 true).bind fun t250 => (some t250))) = some r := by rw [if_neg (show ¬ (false = true) by decide)] at H; exact H
         clear H
         have H := H1
         clear H1
         replace H := Option.bind_eq_some_iff.mp H
         obtain ⟨⟨t245, t246, t247⟩, A1150, H⟩ := H
         replace H : ((pelotonlaw03_held.f kj99 t215 t216 t217 t220 t245 t246 t247 true).bind fun t250 => (some t250)) = some r := H
         have A115 := Aside0.mk A1150
         clear A1150
         replace H := Option.bind_eq_some_iff.mp H
         obtain ⟨t250, A1160, H⟩ := H
         replace H : (some t250) = some r := H
         have A116 := Aside0.mk A1160
         clear A1160
         obtain rfl := Option.some.inj H
         try go_wp2
         replace HO_194002 := Aside0.mk (Kd.V_drew HO_194002.out)
         replace HO_215002 := Aside0.mk (Kd.R_drew HO_215002.out)
         replace HO_222002 := Aside0.mk (Kd.R_drew HO_222002.out)
         replace HO_229002 := Aside0.mk (Kd.R_drew HO_229002.out)
         replace BK193 := Aside0.mk (k_d BK193.out)
         replace BK214 := Aside0.mk (k_d BK214.out)
         replace BK221 := Aside0.mk (k_d BK221.out)
         replace BK228 := Aside0.mk (k_d BK228.out)
         replace HR206_2 := Aside0.mk (Kd.C_drew HR206_2.out)
         replace HB := Aside0.mk (b_d HB.out)
         refine start_ (n := 10) (S := fun w' => w'.cell? ⟨gb221, 0, none⟩ = some (.int .i64 t215) ∧ w'.cell? ⟨gb221, 1, none⟩ = some (.int .i64 t216) ∧ w'.cell? ⟨gb221, 2, none⟩ = some (.slice Ao46 t217.length co46) ∧ w'.cell? ⟨gb193, 0, none⟩ = some (.int .i64 a0_0) ∧ w'.cell? ⟨gb193, 1, none⟩ = some (.int .i64 a0_1) ∧ w'.cell? ⟨gb193, 2, none⟩ = some (.slice A0_2 l0_2.length c0_2)) (ds := []) #[false, false, false, false, false, false, false, false, false, false] (by kernel_rfl) rfl rfl ⟨(blk_cell BK221.out 0).trans rfl, (blk_cell BK221.out 1).trans rfl, (blk_cell BK221.out 2).trans rfl, (blk_cell BK193.out 0).trans rfl, (blk_cell BK193.out 1).trans rfl, (blk_cell BK193.out 2).trans rfl⟩ (fun hHeld => ?_); refine with_tabW pelotonlaw03_GridCuts.tab20 pelotonlaw03_GridCuts.bits20 (fun HT_ HW_ => ?_)
         generalize wc.drew = w117 at HO_194002 HO_215002 HO_222002 HO_229002 BK193 BK214 BK221 BK228 HR206_2 HB hHeld ⊢
         refine pu_ (i := 1) (N := some 122) (bs_ 10 2) rfl rfl HT_ ?_
         refine pu_ (i := 3) (N := some 124) (bs_ 10 10) rfl rfl HT_ ?_
         refine pu_ (i := 5) (N := some 126) (bs_ 10 42) rfl rfl HT_ ?_
         refine pu_ (i := 6) (N := some 127) (bs_ 10 106) rfl rfl HT_ ?_
         refine take_ (i := 0) (N := some 121) (v := ?_) (a' := ?_) (bs_ 10 107) rfl rfl (take_ofW HT_.out HW_.out (by kernel_rfl)) (fun _ _ _ h => h) (Or.inl ⟨by rfl, ?_⟩) hHeld ?_ ?_
         rotate_left
         ·
          rintro w' ⟨s0, s1, s2, s3, s4, s5⟩
          go_simp
          with_reducible rfl
         rotate_left
         ·
          simp only [Act.put, l_1, l_2, l_3, i64_w, i32_w]
          rfl
         refine take_ (i := 2) (N := some 123) (v := ?_) (a' := ?_) (bs_ 10 111) rfl rfl (take_ofW HT_.out HW_.out (by kernel_rfl)) (fun _ _ _ h => h) (Or.inl ⟨by rfl, ?_⟩) hHeld ?_ ?_
         rotate_left
         ·
          rintro w' ⟨s0, s1, s2, s3, s4, s5⟩
          go_simp
          with_reducible rfl
         rotate_left
         ·
          simp only [Act.put, l_1, l_2, l_3, i64_w, i32_w]
          rfl
         refine take_ (i := 4) (N := some 125) (v := ?_) (a' := ?_) (bs_ 10 127) rfl rfl (take_ofW HT_.out HW_.out (by kernel_rfl)) (fun _ _ _ h => h) (Or.inl ⟨by rfl, ?_⟩) hHeld ?_ ?_
         rotate_left
         ·
          rintro w' ⟨s0, s1, s2, s3, s4, s5⟩
          go_simp
          with_reducible rfl
         rotate_left
         ·
          simp only [Act.put, l_1, l_2, l_3, i64_w, i32_w]
          rfl
         refine one_ (i := 7) (N := some 128) (bs_ 10 255) rfl rfl (one_of HT_.out (by kernel_rfl)) (by decide) (fun K hK => ?_)
         refine goes_ Try.func34 (by kernel_rfl) rfl #[.agg #[.int .i64 a0_0, .int .i64 a0_1, .slice A0_2 l0_2.length c0_2], .int .i64 0, .int .i64 a0_0, .int .i64 a1, .int .i64 a2] (by rfl) rfl rfl (by (try simp only [l_4, l_5, l_6]); first | done | rfl | (simp only [l_7, l_8]; rfl)) ?_
         with_reducible refine (pelotonref03_Part.calls kj99 a0_0 a0_1 _ _ l0_2 0 a0_0 a1 a2 t245 t246 t247 _ ?side1 ?side2 A115.out).mono ?_
         (case side1 => repeat (first | exact (Kd.V_reads' HO_194002.out).2.2 | (with_reducible refine Kd.C_alloc ?_ _) | (with_reducible refine Kd.C_drewN ?_ _) | (with_reducible refine Kd.C_drew ?_)))
         (case side2 => exact (Kd.V_reads' HO_194002.out).2.1)
         rintro e w118 ⟨v248, rfl, ho0, hb⟩
         refine ⟨_, rfl, ?_⟩
         have HO249 := Aside0.mk (Kd.R_lower (Kd.R_new' (Kd.R_new' (Kd.R_new' (Kd.R_newM (M := fun k_ => (w.heap.size ≤ k_)) ho0 (below_size (bw_ HB)) (fun k_ h_ => h_)) (Kd.R_lt (tR_ HO_215002))) (Kd.R_lt (tR_ HO_222002))) (Kd.R_lt (tR_ HO_229002))) (below_size (bw_ HB)))
         replace HO_194002 := Aside0.mk (Kd.V_elder' (tV_ HO_194002) (Kd.R_base ho0) hb)
         replace HO_215002 := Aside0.mk (Kd.R_elder' (tR_ HO_215002) (Kd.R_base ho0) hb)
         replace HO_222002 := Aside0.mk (Kd.R_elder' (tR_ HO_222002) (Kd.R_base ho0) hb)
         replace HO_229002 := Aside0.mk (Kd.R_elder' (tR_ HO_229002) (Kd.R_base ho0) hb)
         replace BK193 := Aside0.mk (blk_below (tk_ BK193) hb)
         replace BK214 := Aside0.mk (blk_below (tk_ BK214) hb)
         replace BK221 := Aside0.mk (blk_below (tk_ BK221) hb)
         replace BK228 := Aside0.mk (blk_below (tk_ BK228) hb)
         replace HR206_2 := Aside0.mk (Kd.C_below (by repeat (first | (with_reducible exact HR206_2.out) | (with_reducible refine Kd.C_alloc ?_ _) | (with_reducible refine Kd.C_drewN ?_ _) | (with_reducible refine Kd.C_drew ?_) | exact HR206_2.out)) hb)
         replace HB := Aside0.mk (below_step (bw_ HB) hb)
         (try clear hb)
         (try clear hb2)
         (try clear hk)
         (try clear hi)
         (try clear ho0)
         obtain ⟨Ao119, co119, eo119⟩ := Kd.R_slice HO249.out
         (first | subst eo119 | (injection eo119 with f1_ f2_ f3_; have f4_ := f1_.symm; have f5_ := f3_.symm; clear f1_ f2_ f3_; subst f4_; subst f5_))
         refine hK.out _ _ ⟨(blk_cell BK221.out 0).trans rfl, (blk_cell BK221.out 1).trans rfl, (blk_cell BK221.out 2).trans rfl, (blk_cell BK193.out 0).trans rfl, (blk_cell BK193.out 1).trans rfl, (blk_cell BK193.out 2).trans rfl⟩ (fun hHeld => ?_)
         clear hK K
         refine no_ (N := some 128) ?_
         refine one_ (i := 8) (N := some 129) (bs_ 10 511) rfl rfl (one_of HT_.out (by kernel_rfl)) (by decide) (fun K hK => ?_)
         refine goes_ Try.func14 (by kernel_rfl) rfl #[.agg #[.int .i64 t215, .int .i64 t216, .slice Ao46 t217.length co46], .int .i64 t220, .agg #[.int .i64 t245, .int .i64 t246, .slice Ao119 t247.length co119], .bool true] (by rfl) rfl rfl (by (try simp only [l_4, l_5, l_6]); first | done | rfl | (simp only [l_7, l_8]; rfl)) ?_
         with_reducible refine (pelotonlaw03_held.calls kj99 t215 t216 _ _ t217 t220 t245 t246 _ _ t247 true t250 _ ?side1 ?side2 ?side3 ?side4 A116.out).mono ?_
         (case side1 => repeat (first | exact (Kd.R_reads' HO_222002.out).2.2 | (with_reducible refine Kd.C_alloc ?_ _) | (with_reducible refine Kd.C_drewN ?_ _) | (with_reducible refine Kd.C_drew ?_)))
         (case side2 => exact (Kd.R_reads' HO_222002.out).2.1)
         (case side3 => repeat (first | exact (Kd.R_reads' HO249.out).2.2 | (with_reducible refine Kd.C_alloc ?_ _) | (with_reducible refine Kd.C_drewN ?_ _) | (with_reducible refine Kd.C_drew ?_)))
         (case side4 => exact (Kd.R_reads' HO249.out).2.1)
         rintro e w120 ⟨rfl, hb⟩
         refine ⟨_, rfl, ?_⟩
         replace HO_194002 := Aside0.mk (Kd.V_below (tV_ HO_194002) hb)
         replace HO_215002 := Aside0.mk (Kd.R_below (tR_ HO_215002) hb)
         replace HO_222002 := Aside0.mk (Kd.R_below (tR_ HO_222002) hb)
         replace HO_229002 := Aside0.mk (Kd.R_below (tR_ HO_229002) hb)
         replace HO249 := Aside0.mk (Kd.R_below (tR_ HO249) hb)
         replace BK193 := Aside0.mk (blk_below (tk_ BK193) hb)
         replace BK214 := Aside0.mk (blk_below (tk_ BK214) hb)
         replace BK221 := Aside0.mk (blk_below (tk_ BK221) hb)
         replace BK228 := Aside0.mk (blk_below (tk_ BK228) hb)
         replace HR206_2 := Aside0.mk (Kd.C_below (by repeat (first | (with_reducible exact HR206_2.out) | (with_reducible refine Kd.C_alloc ?_ _) | (with_reducible refine Kd.C_drewN ?_ _) | (with_reducible refine Kd.C_drew ?_) | exact HR206_2.out)) hb)
         replace HB := Aside0.mk (below_step (bw_ HB) hb)
         (try clear hb)
         (try clear hb2)
         (try clear hk)
         (try clear hi)
         refine hK.out _ _ ⟨(blk_cell BK221.out 0).trans rfl, (blk_cell BK221.out 1).trans rfl, (blk_cell BK221.out 2).trans rfl, (blk_cell BK193.out 0).trans rfl, (blk_cell BK193.out 1).trans rfl, (blk_cell BK193.out 2).trans rfl⟩ (fun hHeld => ?_)
         clear hK K
         refine no_ (N := some 129) ?_
         refine pu_ (i := 9) (N := some 6) (bs_ 10 1023) rfl rfl HT_ ?_
         refine done_ (done_of HT_.out (by kernel_rfl)) ?_
         try go_wp2
         go_ret
         exact ⟨by first | rfl | (simp [errW_none, errW_some] <;> rfl) | (simp [*, errW_none, errW_some] <;> rfl), by repeat (first | (with_reducible first | exact HB.out | apply b_a | apply b_n | apply b_d | refine b_s ?_ GE193.out | refine b_s ?_ GE214.out | refine b_s ?_ GE221.out | refine b_s ?_ GE228.out) | exact HB.out)⟩
/-- THE ONE PURE STATEMENT of pelotonlaw03_GridCuts. -/
def pelotonlaw03_GridCuts.Pure : Prop := ∀ (a0_0 : Int) (a0_1 : Int) (l0_2 : List Int) (a1 : Int) (a2 : Int), ((Lit.int .i64 a0_0).wf = true ∧ (Lit.int .i64 a0_1).wf = true ∧ l0_2.length ≤ maxLen ∧ ∀ y0 ∈ l0_2, (Lit.int .i32 y0).wf = true) → ((Lit.int .i64 a1).wf = true) → ((Lit.int .i64 a2).wf = true) → ∃ k, pelotonlaw03_GridCuts.f k a0_0 a0_1 l0_2 a1 a2 = some true

theorem pelotonlaw03_GridCuts.calls (k : Nat) (a0_0 : Int) (a0_1 : Int) (A0_2 : Option Addr) (c0_2 : Nat) (l0_2 : List Int) (a1 : Int) (a2 : Int) (r : Bool) (w : World) (hr0_2 : Kd.C (Kd.int .i32) w A0_2 l0_2.length l0_2) (hc0_2 : l0_2.length ≤ c0_2) (h : pelotonlaw03_GridCuts.f k a0_0 a0_1 l0_2 a1 a2 = some r) :
  Calls Try.prog 7 #[.agg #[.int .i64 a0_0, .int .i64 a0_1, .slice A0_2 l0_2.length c0_2], .int .i64 a1, .int .i64 a2] w fun e w' => e = .returned (.bool r) ∧ Below w.heap.size w w' := pelotonlaw03_GridCuts.callsV k a0_0 a0_1 (fun _ => True) A0_2 c0_2 l0_2 a1 a2 r w (Kd.V_mk hc0_2 (C_F hr0_2)) h
end Go.Proofs.Ytggcgacndknlaaa.QGridCuts
