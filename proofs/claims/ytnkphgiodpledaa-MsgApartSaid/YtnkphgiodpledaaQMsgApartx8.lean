-- Written by a program of this session (a turned copy of the print) out of the translation. Lean checks it.
import Derived.Test.YtnkphgiodpledaaQMsgApartx0
import Derived.Test.YtnkphgiodpledaaQMsgApartx2
import Derived.Test.YtnkphgiodpledaaQMsgApartx3
import Derived.Test.YtnkphgiodpledaaQMsgApartx4
import Derived.Test.YtnkphgiodpledaaQMsgApartx5
import Derived.Test.YtnkphgiodpledaaQMsgApartx6
import Derived.Test.YtnkphgiodpledaaQMsgApartx7
namespace Go.Proofs.Ytnkphgiodpledaa.QMsgApart
open Go.RowKit Go.Proofs.YtnkphgiodpledaaW.PrintWords Go.Proofs.YtnkphgiodpledaaW.PrintLast Go.Proofs.YtnkphgiodpledaaW.PrintMore
attribute [local go_sem] max2_int min2_int max_two min_two max_three min_three max_four min_four   -- for this text's walks alone
open Go.Proofs.YtnkphgiodpledaaW.PrintWords renaming below_alloc → b_a, pw_below_drewN → b_n, below_drew1 → b_d, below_set → b_s, blk_drewN → k_n, blk_drew → k_d, blk_alloc → k_a
open List renaming setIfInBounds_toArray → l_1, set_cons_zero → l_2, set_cons_succ → l_3, map_toArray → l_4, map_cons → l_5, map_nil → l_6, length_drop → l_7, length_take → l_8
set_option linter.unusedVariables false
set_option linter.unusedSimpArgs false

/-! ### pelotonlaw15_MsgApart: function 4 -/
mutual
def pelotonlaw15_MsgApart.j0 : Nat → Bool → Int → Int → Int → Int → Int → Int → Int → Int → List Int → Int → Int → Int → Int → Int → Int → Int → Int → List Int → Option (Bool)
 | 0, _, _, _, _, _, _, _, _, _, _, _, _, _, _, _, _, _, _, _ => none
 | k + 1, x25, x171000, x171001, x171002, x171003, x171004, x171005, x171006, x171007, x171008, x172000, x172001, x172002, x172003, x172004, x172005, x172006, x172007, x172008 => if x25 = true then ((pelotonlaw15_awake.f k).bind fun t173 => (some t173)) else ((pelotonref15_Same.f k x171000 x171001 x171002 x171003 x171004 x171005 x171006 x171007 x171008 x172000 x172001 x172002 x172003 x172004 x172005 x172006 x172007 x172008).bind fun t174 => ((msg_Same.f k x171000 x171001 x171002 x171003 x171004 x171005 x171006 x171007 x171008 x172000 x172001 x172002 x172003 x172004 x172005 x172006 x172007 x172008).bind fun t175 => (if (t175 != t174) = true then (pelotonlaw15_MsgApart.j1 k t174 true x171000 x171001 x171002 x171003 x171004 x171005 x171006 x171007 x171008 x172000 x172001 x172002 x172003 x172004 x172005 x172006 x172007 x172008) else ((msg_Same.f k x172000 x172001 x172002 x172003 x172004 x172005 x172006 x172007 x172008 x171000 x171001 x171002 x171003 x171004 x171005 x171006 x171007 x171008).bind fun t176 => (pelotonlaw15_MsgApart.j1 k t174 (t176 != t174) x171000 x171001 x171002 x171003 x171004 x171005 x171006 x171007 x171008 x172000 x172001 x172002 x172003 x172004 x172005 x172006 x172007 x172008)))))
def pelotonlaw15_MsgApart.j1 : Nat → Bool → Bool → Int → Int → Int → Int → Int → Int → Int → Int → List Int → Int → Int → Int → Int → Int → Int → Int → Int → List Int → Option (Bool)
 | 0, _, _, _, _, _, _, _, _, _, _, _, _, _, _, _, _, _, _, _, _ => none
 | k + 1, x5, x41, x171000, x171001, x171002, x171003, x171004, x171005, x171006, x171007, x171008, x172000, x172001, x172002, x172003, x172004, x172005, x172006, x172007, x172008 => if x41 = true then (some false) else ((msg_Clone.f x171000 x171001 x171002 x171003 x171004 x171005 x171006 x171007 x171008).bind fun bt177 => (pelotonlaw15_MsgApart.l0 k x5 0 x171000 x171001 x171002 x171003 x171004 x171005 x171006 x171007 x171008 x172000 x172001 x172002 x172003 x172004 x172005 x172006 x172007 x172008 bt177.1 bt177.2.1 bt177.2.2.1 bt177.2.2.2.1 bt177.2.2.2.2.1 bt177.2.2.2.2.2.1 bt177.2.2.2.2.2.2.1 bt177.2.2.2.2.2.2.2.1 bt177.2.2.2.2.2.2.2.2))
def pelotonlaw15_MsgApart.l0 : Nat → Bool → Int → Int → Int → Int → Int → Int → Int → Int → Int → List Int → Int → Int → Int → Int → Int → Int → Int → Int → List Int → Int → Int → Int → Int → Int → Int → Int → Int → List Int → Option (Bool)
 | 0, _, _, _, _, _, _, _, _, _, _, _, _, _, _, _, _, _, _, _, _, _, _, _, _, _, _, _, _, _ => none
 | k + 1, x5, x7, x171000, x171001, x171002, x171003, x171004, x171005, x171006, x171007, x171008, x172000, x172001, x172002, x172003, x172004, x172005, x172006, x172007, x172008, x189000, x189001, x189002, x189003, x189004, x189005, x189006, x189007, x189008 => if x7 < (x189008.length : Int) then (if 0 ≤ x7 then (pelotonlaw15_MsgApart.l0 k x5 (wrap64 (x7 + 1)) x171000 x171001 x171002 x171003 x171004 x171005 x171006 x171007 x171008 x172000 x172001 x172002 x172003 x172004 x172005 x172006 x172007 x172008 x189000 x189001 x189002 x189003 x189004 x189005 x189006 x189007 (x189008.set (x7 : Int).toNat (wrap32 ((rd x189008 x7) + 1)))) else (none)) else (if (x189008.length : Int) > 0 then ((msg_Same.f k x171000 x171001 x171002 x171003 x171004 x171005 x171006 x171007 x171008 x189000 x189001 x189002 x189003 x189004 x189005 x189006 x189007 x189008).bind fun t191 => (if t191 = true then (pelotonlaw15_MsgApart.j3 k x5 true x171000 x171001 x171002 x171003 x171004 x171005 x171006 x171007 x171008 x172000 x172001 x172002 x172003 x172004 x172005 x172006 x172007 x172008) else (if 0 < (x189008.length : Int) then (if 0 < (x171008.length : Int) then (pelotonlaw15_MsgApart.j3 k x5 ((rd x189008 0) == (rd x171008 0)) x171000 x171001 x171002 x171003 x171004 x171005 x171006 x171007 x171008 x172000 x172001 x172002 x172003 x172004 x172005 x172006 x172007 x172008) else (none)) else (none)))) else (pelotonlaw15_MsgApart.j3 k x5 false x171000 x171001 x171002 x171003 x171004 x171005 x171006 x171007 x171008 x172000 x172001 x172002 x172003 x172004 x172005 x172006 x172007 x172008))
def pelotonlaw15_MsgApart.j3 : Nat → Bool → Bool → Int → Int → Int → Int → Int → Int → Int → Int → List Int → Int → Int → Int → Int → Int → Int → Int → Int → List Int → Option (Bool)
 | 0, _, _, _, _, _, _, _, _, _, _, _, _, _, _, _, _, _, _, _, _ => none
 | k + 1, x5, x77, x171000, x171001, x171002, x171003, x171004, x171005, x171006, x171007, x171008, x172000, x172001, x172002, x172003, x172004, x172005, x172006, x172007, x172008 => if x77 = true then (some false) else ((pelotonref15_Right.f k x171000 x171001 x171002 x171003 x171004 x171005 x171006 x171007 x171008).bind fun t194 => (if t194 = true then ((pelotonref15_Right.f k x172000 x172001 x172002 x172003 x172004 x172005 x172006 x172007 x172008).bind fun t195 => (pelotonlaw15_MsgApart.j4 k x5 (!t195) x171000 x171001 x171002 x171003 x171004 x171005 x171006 x171007 x171008 x172000 x172001 x172002 x172003 x172004 x172005 x172006 x172007 x172008)) else (pelotonlaw15_MsgApart.j4 k x5 true x171000 x171001 x171002 x171003 x171004 x171005 x171006 x171007 x171008 x172000 x172001 x172002 x172003 x172004 x172005 x172006 x172007 x172008)))
def pelotonlaw15_MsgApart.j4 : Nat → Bool → Bool → Int → Int → Int → Int → Int → Int → Int → Int → List Int → Int → Int → Int → Int → Int → Int → Int → Int → List Int → Option (Bool)
 | 0, _, _, _, _, _, _, _, _, _, _, _, _, _, _, _, _, _, _, _, _ => none
 | k + 1, x5, x85, x171000, x171001, x171002, x171003, x171004, x171005, x171006, x171007, x171008, x172000, x172001, x172002, x172003, x172004, x172005, x172006, x172007, x172008 => if x85 = true then ((msg_Right.f k (([(⟨x171000, x171001, x171002, x171003, x171004, x171005, x171006, x171007, x171008⟩ : S24), (⟨x172000, x172001, x172002, x172003, x172004, x172005, x172006, x172007, x172008⟩ : S24)] : List (S24)))).bind fun t199 => (some (t199 == false))) else ((msg_Bytes.f x171000 x171001 x171002 x171003 x171004 x171005 x171006 x171007 x171008).bind fun bt200 => ((msg_Bytes.f x172000 x172001 x172002 x172003 x172004 x172005 x172006 x172007 x172008).bind fun bt204 => (if bt200.2 = 0 then (if bt204.2 = 0 then ((msg_Right.f k (([(⟨x171000, x171001, x171002, x171003, x171004, x171005, x171006, x171007, x171008⟩ : S24), (⟨x172000, x172001, x172002, x172003, x172004, x172005, x172006, x172007, x172008⟩ : S24)] : List (S24)))).bind fun t211 => (if t211 = true then (some (((strOfNums bt200.1).toList == (strOfNums bt204.1).toList) == x5)) else (some false))) else (some false)) else (some false))))
end
def pelotonlaw15_MsgApart.f (k : Nat) (a0_0 : Int) (a0_1 : Int) (a0_2 : Int) (a0_3 : Int) (a0_4 : Int) (a0_5 : Int) (a0_6 : Int) (a0_7 : Int) (l0_8 : List Int) (a1_0 : Int) (a1_1 : Int) (a1_2 : Int) (a1_3 : Int) (a1_4 : Int) (a1_5 : Int) (a1_6 : Int) (a1_7 : Int) (l1_8 : List Int) : Option (Bool) := (pelotonlaw15_awake.f k).bind fun t172 => (if t172 = true then (if (l0_8.length : Int) > 1000 then (pelotonlaw15_MsgApart.j0 k true a0_0 a0_1 a0_2 a0_3 a0_4 a0_5 a0_6 a0_7 l0_8 a1_0 a1_1 a1_2 a1_3 a1_4 a1_5 a1_6 a1_7 l1_8) else (pelotonlaw15_MsgApart.j0 k (decide ((l1_8.length : Int) > 1000)) a0_0 a0_1 a0_2 a0_3 a0_4 a0_5 a0_6 a0_7 l0_8 a1_0 a1_1 a1_2 a1_3 a1_4 a1_5 a1_6 a1_7 l1_8)) else (pelotonlaw15_MsgApart.j0 k true a0_0 a0_1 a0_2 a0_3 a0_4 a0_5 a0_6 a0_7 l0_8 a1_0 a1_1 a1_2 a1_3 a1_4 a1_5 a1_6 a1_7 l1_8))
theorem pelotonlaw15_MsgApart.mono_l : ∀ k, (∀ y0 y1 y2 y3 y4 y5 y6 y7 y8 y9 y10 y11 y12 y13 y14 y15 y16 y17 y18, LeO (pelotonlaw15_MsgApart.j0 k y0 y1 y2 y3 y4 y5 y6 y7 y8 y9 y10 y11 y12 y13 y14 y15 y16 y17 y18) (pelotonlaw15_MsgApart.j0 (k + 1) y0 y1 y2 y3 y4 y5 y6 y7 y8 y9 y10 y11 y12 y13 y14 y15 y16 y17 y18)) ∧ (∀ y0 y1 y2 y3 y4 y5 y6 y7 y8 y9 y10 y11 y12 y13 y14 y15 y16 y17 y18 y19, LeO (pelotonlaw15_MsgApart.j1 k y0 y1 y2 y3 y4 y5 y6 y7 y8 y9 y10 y11 y12 y13 y14 y15 y16 y17 y18 y19) (pelotonlaw15_MsgApart.j1 (k + 1) y0 y1 y2 y3 y4 y5 y6 y7 y8 y9 y10 y11 y12 y13 y14 y15 y16 y17 y18 y19)) ∧ (∀ y0 y1 y2 y3 y4 y5 y6 y7 y8 y9 y10 y11 y12 y13 y14 y15 y16 y17 y18 y19 y20 y21 y22 y23 y24 y25 y26 y27 y28, LeO (pelotonlaw15_MsgApart.l0 k y0 y1 y2 y3 y4 y5 y6 y7 y8 y9 y10 y11 y12 y13 y14 y15 y16 y17 y18 y19 y20 y21 y22 y23 y24 y25 y26 y27 y28) (pelotonlaw15_MsgApart.l0 (k + 1) y0 y1 y2 y3 y4 y5 y6 y7 y8 y9 y10 y11 y12 y13 y14 y15 y16 y17 y18 y19 y20 y21 y22 y23 y24 y25 y26 y27 y28)) ∧ (∀ y0 y1 y2 y3 y4 y5 y6 y7 y8 y9 y10 y11 y12 y13 y14 y15 y16 y17 y18 y19, LeO (pelotonlaw15_MsgApart.j3 k y0 y1 y2 y3 y4 y5 y6 y7 y8 y9 y10 y11 y12 y13 y14 y15 y16 y17 y18 y19) (pelotonlaw15_MsgApart.j3 (k + 1) y0 y1 y2 y3 y4 y5 y6 y7 y8 y9 y10 y11 y12 y13 y14 y15 y16 y17 y18 y19)) ∧ (∀ y0 y1 y2 y3 y4 y5 y6 y7 y8 y9 y10 y11 y12 y13 y14 y15 y16 y17 y18 y19, LeO (pelotonlaw15_MsgApart.j4 k y0 y1 y2 y3 y4 y5 y6 y7 y8 y9 y10 y11 y12 y13 y14 y15 y16 y17 y18 y19) (pelotonlaw15_MsgApart.j4 (k + 1) y0 y1 y2 y3 y4 y5 y6 y7 y8 y9 y10 y11 y12 y13 y14 y15 y16 y17 y18 y19))
 | 0 => ⟨fun _ _ _ _ _ _ _ _ _ _ _ _ _ _ _ _ _ _ _ r h => by simp [pelotonlaw15_MsgApart.j0] at h, fun _ _ _ _ _ _ _ _ _ _ _ _ _ _ _ _ _ _ _ _ r h => by simp [pelotonlaw15_MsgApart.j1] at h, fun _ _ _ _ _ _ _ _ _ _ _ _ _ _ _ _ _ _ _ _ _ _ _ _ _ _ _ _ _ r h => by simp [pelotonlaw15_MsgApart.l0] at h, fun _ _ _ _ _ _ _ _ _ _ _ _ _ _ _ _ _ _ _ _ r h => by simp [pelotonlaw15_MsgApart.j3] at h, fun _ _ _ _ _ _ _ _ _ _ _ _ _ _ _ _ _ _ _ _ r h => by simp [pelotonlaw15_MsgApart.j4] at h⟩
 | k + 1 => by
  obtain ⟨ih0, ih1, ih2, ih3, ih4⟩ := pelotonlaw15_MsgApart.mono_l k
  refine ⟨?_, ?_, ?_, ?_, ?_⟩
  ·
   intro y0 y1 y2 y3 y4 y5 y6 y7 y8 y9 y10 y11 y12 y13 y14 y15 y16 y17 y18
   unfold pelotonlaw15_MsgApart.j0
   repeat' first
   | (with_reducible exact ih0 _ _ _ _ _ _ _ _ _ _ _ _ _ _ _ _ _ _ _)
   | (with_reducible exact ih1 _ _ _ _ _ _ _ _ _ _ _ _ _ _ _ _ _ _ _ _)
   | (with_reducible exact ih2 _ _ _ _ _ _ _ _ _ _ _ _ _ _ _ _ _ _ _ _ _ _ _ _ _ _ _ _ _)
   | (with_reducible exact ih3 _ _ _ _ _ _ _ _ _ _ _ _ _ _ _ _ _ _ _ _)
   | (with_reducible exact ih4 _ _ _ _ _ _ _ _ _ _ _ _ _ _ _ _ _ _ _ _)
   | (with_reducible exact msg_Right.mono _ _)
   | (with_reducible exact msg_Same.mono _ _ _ _ _ _ _ _ _ _ _ _ _ _ _ _ _ _ _)
   | (with_reducible exact pelotonlaw15_awake.mono _)
   | (with_reducible exact pelotonref15_Right.mono _ _ _ _ _ _ _ _ _ _)
   | (with_reducible exact pelotonref15_Same.mono _ _ _ _ _ _ _ _ _ _ _ _ _ _ _ _ _ _ _)
   | (with_reducible exact LeO.refl _)
   | (with_reducible exact LeO.none _)
   | (with_reducible refine LeO.ite ?_ ?_)
   | (with_reducible refine LeO.bind ?_ (fun _ => ?_))
   | exact ih0 _ _ _ _ _ _ _ _ _ _ _ _ _ _ _ _ _ _ _
   | exact ih1 _ _ _ _ _ _ _ _ _ _ _ _ _ _ _ _ _ _ _ _
   | exact ih2 _ _ _ _ _ _ _ _ _ _ _ _ _ _ _ _ _ _ _ _ _ _ _ _ _ _ _ _ _
   | exact ih3 _ _ _ _ _ _ _ _ _ _ _ _ _ _ _ _ _ _ _ _
   | exact ih4 _ _ _ _ _ _ _ _ _ _ _ _ _ _ _ _ _ _ _ _
   | exact msg_Right.mono _ _
   | exact msg_Same.mono _ _ _ _ _ _ _ _ _ _ _ _ _ _ _ _ _ _ _
   | exact pelotonlaw15_awake.mono _
   | exact pelotonref15_Right.mono _ _ _ _ _ _ _ _ _ _
   | exact pelotonref15_Same.mono _ _ _ _ _ _ _ _ _ _ _ _ _ _ _ _ _ _ _
   | exact LeO.none _
   | refine LeO.ite ?_ ?_
   | refine LeO.bind ?_ (fun _ => ?_)
  ·
   intro y0 y1 y2 y3 y4 y5 y6 y7 y8 y9 y10 y11 y12 y13 y14 y15 y16 y17 y18 y19
   unfold pelotonlaw15_MsgApart.j1
   repeat' first
   | (with_reducible exact ih0 _ _ _ _ _ _ _ _ _ _ _ _ _ _ _ _ _ _ _)
   | (with_reducible exact ih1 _ _ _ _ _ _ _ _ _ _ _ _ _ _ _ _ _ _ _ _)
   | (with_reducible exact ih2 _ _ _ _ _ _ _ _ _ _ _ _ _ _ _ _ _ _ _ _ _ _ _ _ _ _ _ _ _)
   | (with_reducible exact ih3 _ _ _ _ _ _ _ _ _ _ _ _ _ _ _ _ _ _ _ _)
   | (with_reducible exact ih4 _ _ _ _ _ _ _ _ _ _ _ _ _ _ _ _ _ _ _ _)
   | (with_reducible exact msg_Right.mono _ _)
   | (with_reducible exact msg_Same.mono _ _ _ _ _ _ _ _ _ _ _ _ _ _ _ _ _ _ _)
   | (with_reducible exact pelotonlaw15_awake.mono _)
   | (with_reducible exact pelotonref15_Right.mono _ _ _ _ _ _ _ _ _ _)
   | (with_reducible exact pelotonref15_Same.mono _ _ _ _ _ _ _ _ _ _ _ _ _ _ _ _ _ _ _)
   | (with_reducible exact LeO.refl _)
   | (with_reducible exact LeO.none _)
   | (with_reducible refine LeO.ite ?_ ?_)
   | (with_reducible refine LeO.bind ?_ (fun _ => ?_))
   | exact ih0 _ _ _ _ _ _ _ _ _ _ _ _ _ _ _ _ _ _ _
   | exact ih1 _ _ _ _ _ _ _ _ _ _ _ _ _ _ _ _ _ _ _ _
   | exact ih2 _ _ _ _ _ _ _ _ _ _ _ _ _ _ _ _ _ _ _ _ _ _ _ _ _ _ _ _ _
   | exact ih3 _ _ _ _ _ _ _ _ _ _ _ _ _ _ _ _ _ _ _ _
   | exact ih4 _ _ _ _ _ _ _ _ _ _ _ _ _ _ _ _ _ _ _ _
   | exact msg_Right.mono _ _
   | exact msg_Same.mono _ _ _ _ _ _ _ _ _ _ _ _ _ _ _ _ _ _ _
   | exact pelotonlaw15_awake.mono _
   | exact pelotonref15_Right.mono _ _ _ _ _ _ _ _ _ _
   | exact pelotonref15_Same.mono _ _ _ _ _ _ _ _ _ _ _ _ _ _ _ _ _ _ _
   | exact LeO.none _
   | refine LeO.ite ?_ ?_
   | refine LeO.bind ?_ (fun _ => ?_)
  ·
   intro y0 y1 y2 y3 y4 y5 y6 y7 y8 y9 y10 y11 y12 y13 y14 y15 y16 y17 y18 y19 y20 y21 y22 y23 y24 y25 y26 y27 y28
   unfold pelotonlaw15_MsgApart.l0
   repeat' first
   | (with_reducible exact ih0 _ _ _ _ _ _ _ _ _ _ _ _ _ _ _ _ _ _ _)
   | (with_reducible exact ih1 _ _ _ _ _ _ _ _ _ _ _ _ _ _ _ _ _ _ _ _)
   | (with_reducible exact ih2 _ _ _ _ _ _ _ _ _ _ _ _ _ _ _ _ _ _ _ _ _ _ _ _ _ _ _ _ _)
   | (with_reducible exact ih3 _ _ _ _ _ _ _ _ _ _ _ _ _ _ _ _ _ _ _ _)
   | (with_reducible exact ih4 _ _ _ _ _ _ _ _ _ _ _ _ _ _ _ _ _ _ _ _)
   | (with_reducible exact msg_Right.mono _ _)
   | (with_reducible exact msg_Same.mono _ _ _ _ _ _ _ _ _ _ _ _ _ _ _ _ _ _ _)
   | (with_reducible exact pelotonlaw15_awake.mono _)
   | (with_reducible exact pelotonref15_Right.mono _ _ _ _ _ _ _ _ _ _)
   | (with_reducible exact pelotonref15_Same.mono _ _ _ _ _ _ _ _ _ _ _ _ _ _ _ _ _ _ _)
   | (with_reducible exact LeO.refl _)
   | (with_reducible exact LeO.none _)
   | (with_reducible refine LeO.ite ?_ ?_)
   | (with_reducible refine LeO.bind ?_ (fun _ => ?_))
   | exact ih0 _ _ _ _ _ _ _ _ _ _ _ _ _ _ _ _ _ _ _
   | exact ih1 _ _ _ _ _ _ _ _ _ _ _ _ _ _ _ _ _ _ _ _
   | exact ih2 _ _ _ _ _ _ _ _ _ _ _ _ _ _ _ _ _ _ _ _ _ _ _ _ _ _ _ _ _
   | exact ih3 _ _ _ _ _ _ _ _ _ _ _ _ _ _ _ _ _ _ _ _
   | exact ih4 _ _ _ _ _ _ _ _ _ _ _ _ _ _ _ _ _ _ _ _
   | exact msg_Right.mono _ _
   | exact msg_Same.mono _ _ _ _ _ _ _ _ _ _ _ _ _ _ _ _ _ _ _
   | exact pelotonlaw15_awake.mono _
   | exact pelotonref15_Right.mono _ _ _ _ _ _ _ _ _ _
   | exact pelotonref15_Same.mono _ _ _ _ _ _ _ _ _ _ _ _ _ _ _ _ _ _ _
   | exact LeO.none _
   | refine LeO.ite ?_ ?_
   | refine LeO.bind ?_ (fun _ => ?_)
  ·
   intro y0 y1 y2 y3 y4 y5 y6 y7 y8 y9 y10 y11 y12 y13 y14 y15 y16 y17 y18 y19
   unfold pelotonlaw15_MsgApart.j3
   repeat' first
   | (with_reducible exact ih0 _ _ _ _ _ _ _ _ _ _ _ _ _ _ _ _ _ _ _)
   | (with_reducible exact ih1 _ _ _ _ _ _ _ _ _ _ _ _ _ _ _ _ _ _ _ _)
   | (with_reducible exact ih2 _ _ _ _ _ _ _ _ _ _ _ _ _ _ _ _ _ _ _ _ _ _ _ _ _ _ _ _ _)
   | (with_reducible exact ih3 _ _ _ _ _ _ _ _ _ _ _ _ _ _ _ _ _ _ _ _)
   | (with_reducible exact ih4 _ _ _ _ _ _ _ _ _ _ _ _ _ _ _ _ _ _ _ _)
   | (with_reducible exact msg_Right.mono _ _)
   | (with_reducible exact msg_Same.mono _ _ _ _ _ _ _ _ _ _ _ _ _ _ _ _ _ _ _)
   | (with_reducible exact pelotonlaw15_awake.mono _)
   | (with_reducible exact pelotonref15_Right.mono _ _ _ _ _ _ _ _ _ _)
   | (with_reducible exact pelotonref15_Same.mono _ _ _ _ _ _ _ _ _ _ _ _ _ _ _ _ _ _ _)
   | (with_reducible exact LeO.refl _)
   | (with_reducible exact LeO.none _)
   | (with_reducible refine LeO.ite ?_ ?_)
   | (with_reducible refine LeO.bind ?_ (fun _ => ?_))
   | exact ih0 _ _ _ _ _ _ _ _ _ _ _ _ _ _ _ _ _ _ _
   | exact ih1 _ _ _ _ _ _ _ _ _ _ _ _ _ _ _ _ _ _ _ _
   | exact ih2 _ _ _ _ _ _ _ _ _ _ _ _ _ _ _ _ _ _ _ _ _ _ _ _ _ _ _ _ _
   | exact ih3 _ _ _ _ _ _ _ _ _ _ _ _ _ _ _ _ _ _ _ _
   | exact ih4 _ _ _ _ _ _ _ _ _ _ _ _ _ _ _ _ _ _ _ _
   | exact msg_Right.mono _ _
   | exact msg_Same.mono _ _ _ _ _ _ _ _ _ _ _ _ _ _ _ _ _ _ _
   | exact pelotonlaw15_awake.mono _
   | exact pelotonref15_Right.mono _ _ _ _ _ _ _ _ _ _
   | exact pelotonref15_Same.mono _ _ _ _ _ _ _ _ _ _ _ _ _ _ _ _ _ _ _
   | exact LeO.none _
   | refine LeO.ite ?_ ?_
   | refine LeO.bind ?_ (fun _ => ?_)
  ·
   intro y0 y1 y2 y3 y4 y5 y6 y7 y8 y9 y10 y11 y12 y13 y14 y15 y16 y17 y18 y19
   unfold pelotonlaw15_MsgApart.j4
   repeat' first
   | (with_reducible exact ih0 _ _ _ _ _ _ _ _ _ _ _ _ _ _ _ _ _ _ _)
   | (with_reducible exact ih1 _ _ _ _ _ _ _ _ _ _ _ _ _ _ _ _ _ _ _ _)
   | (with_reducible exact ih2 _ _ _ _ _ _ _ _ _ _ _ _ _ _ _ _ _ _ _ _ _ _ _ _ _ _ _ _ _)
   | (with_reducible exact ih3 _ _ _ _ _ _ _ _ _ _ _ _ _ _ _ _ _ _ _ _)
   | (with_reducible exact ih4 _ _ _ _ _ _ _ _ _ _ _ _ _ _ _ _ _ _ _ _)
   | (with_reducible exact msg_Right.mono _ _)
   | (with_reducible exact msg_Same.mono _ _ _ _ _ _ _ _ _ _ _ _ _ _ _ _ _ _ _)
   | (with_reducible exact pelotonlaw15_awake.mono _)
   | (with_reducible exact pelotonref15_Right.mono _ _ _ _ _ _ _ _ _ _)
   | (with_reducible exact pelotonref15_Same.mono _ _ _ _ _ _ _ _ _ _ _ _ _ _ _ _ _ _ _)
   | (with_reducible exact LeO.refl _)
   | (with_reducible exact LeO.none _)
   | (with_reducible refine LeO.ite ?_ ?_)
   | (with_reducible refine LeO.bind ?_ (fun _ => ?_))
   | exact ih0 _ _ _ _ _ _ _ _ _ _ _ _ _ _ _ _ _ _ _
   | exact ih1 _ _ _ _ _ _ _ _ _ _ _ _ _ _ _ _ _ _ _ _
   | exact ih2 _ _ _ _ _ _ _ _ _ _ _ _ _ _ _ _ _ _ _ _ _ _ _ _ _ _ _ _ _
   | exact ih3 _ _ _ _ _ _ _ _ _ _ _ _ _ _ _ _ _ _ _ _
   | exact ih4 _ _ _ _ _ _ _ _ _ _ _ _ _ _ _ _ _ _ _ _
   | exact msg_Right.mono _ _
   | exact msg_Same.mono _ _ _ _ _ _ _ _ _ _ _ _ _ _ _ _ _ _ _
   | exact pelotonlaw15_awake.mono _
   | exact pelotonref15_Right.mono _ _ _ _ _ _ _ _ _ _
   | exact pelotonref15_Same.mono _ _ _ _ _ _ _ _ _ _ _ _ _ _ _ _ _ _ _
   | exact LeO.none _
   | refine LeO.ite ?_ ?_
   | refine LeO.bind ?_ (fun _ => ?_)
theorem pelotonlaw15_MsgApart.mono : ∀ a0 a1 a2 a3 a4 a5 a6 a7 a8 a9 a10 a11 a12 a13 a14 a15 a16 a17 k, LeO (pelotonlaw15_MsgApart.f k a0 a1 a2 a3 a4 a5 a6 a7 a8 a9 a10 a11 a12 a13 a14 a15 a16 a17) (pelotonlaw15_MsgApart.f (k + 1) a0 a1 a2 a3 a4 a5 a6 a7 a8 a9 a10 a11 a12 a13 a14 a15 a16 a17) := by
 intro a0 a1 a2 a3 a4 a5 a6 a7 a8 a9 a10 a11 a12 a13 a14 a15 a16 a17 k
 obtain ⟨ih0, ih1, ih2, ih3, ih4⟩ := pelotonlaw15_MsgApart.mono_l k
 unfold pelotonlaw15_MsgApart.f
 repeat' first
   | (with_reducible exact ih0 _ _ _ _ _ _ _ _ _ _ _ _ _ _ _ _ _ _ _)
   | (with_reducible exact ih1 _ _ _ _ _ _ _ _ _ _ _ _ _ _ _ _ _ _ _ _)
   | (with_reducible exact ih2 _ _ _ _ _ _ _ _ _ _ _ _ _ _ _ _ _ _ _ _ _ _ _ _ _ _ _ _ _)
   | (with_reducible exact ih3 _ _ _ _ _ _ _ _ _ _ _ _ _ _ _ _ _ _ _ _)
   | (with_reducible exact ih4 _ _ _ _ _ _ _ _ _ _ _ _ _ _ _ _ _ _ _ _)
   | (with_reducible exact msg_Right.mono _ _)
   | (with_reducible exact msg_Same.mono _ _ _ _ _ _ _ _ _ _ _ _ _ _ _ _ _ _ _)
   | (with_reducible exact pelotonlaw15_awake.mono _)
   | (with_reducible exact pelotonref15_Right.mono _ _ _ _ _ _ _ _ _ _)
   | (with_reducible exact pelotonref15_Same.mono _ _ _ _ _ _ _ _ _ _ _ _ _ _ _ _ _ _ _)
   | (with_reducible exact LeO.refl _)
   | (with_reducible exact LeO.none _)
   | (with_reducible refine LeO.ite ?_ ?_)
   | (with_reducible refine LeO.bind ?_ (fun _ => ?_))
   | exact ih0 _ _ _ _ _ _ _ _ _ _ _ _ _ _ _ _ _ _ _
   | exact ih1 _ _ _ _ _ _ _ _ _ _ _ _ _ _ _ _ _ _ _ _
   | exact ih2 _ _ _ _ _ _ _ _ _ _ _ _ _ _ _ _ _ _ _ _ _ _ _ _ _ _ _ _ _
   | exact ih3 _ _ _ _ _ _ _ _ _ _ _ _ _ _ _ _ _ _ _ _
   | exact ih4 _ _ _ _ _ _ _ _ _ _ _ _ _ _ _ _ _ _ _ _
   | exact msg_Right.mono _ _
   | exact msg_Same.mono _ _ _ _ _ _ _ _ _ _ _ _ _ _ _ _ _ _ _
   | exact pelotonlaw15_awake.mono _
   | exact pelotonref15_Right.mono _ _ _ _ _ _ _ _ _ _
   | exact pelotonref15_Same.mono _ _ _ _ _ _ _ _ _ _ _ _ _ _ _ _ _ _ _
   | exact LeO.none _
   | refine LeO.ite ?_ ?_
   | refine LeO.bind ?_ (fun _ => ?_)
def pelotonlaw15_MsgApart.T11 : Bool × List (List Nat × List Nat) := (true, [([], []), ([0], [0]), ([1], [1]), ([2], [2]), ([3], [3]), ([4], [4]), ([4], [4]), ([5, 6, 4, 4], [4, 5, 6]), ([7, 7, 4], [4, 7]), ([8], [8]), ([9, 8], [8, 9]), ([10, 8], [8, 10]), ([11, 8], [8, 11]), ([8], [8]), ([13, 8], [8, 13]), ([14, 8], [8, 14]), ([15, 8], [8, 15]), ([12, 16, 8], [8, 12, 16]), ([8, 17, 4], [4, 8, 17]), ([4, 18], [4, 18])])
def pelotonlaw15_MsgApart.B11 : List Nat := [0, 1, 3, 7, 15, 31, 31, 127, 255, 511, 1023, 2047, 4095, 511, 8703, 25087, 57855, 131071, 262143, 524287]
theorem pelotonlaw15_MsgApart.tab11 : rtab .any (opsOf Try.f4 11) = pelotonlaw15_MsgApart.T11 := by kernel_rfl
theorem pelotonlaw15_MsgApart.bits11 : waitsOk pelotonlaw15_MsgApart.T11.2 pelotonlaw15_MsgApart.B11 = true := by kernel_rfl
set_option maxHeartbeats 60000000 in
set_option maxRecDepth 100000 in
theorem pelotonlaw15_MsgApart.callsV (k : Nat) (a0_0 : Int) (a0_1 : Int) (a0_2 : Int) (a0_3 : Int) (a0_4 : Int) (a0_5 : Int) (a0_6 : Int) (a0_7 : Int) (P0_8_ : Nat → Prop) (A0_8 : Option Addr) (c0_8 : Nat) (l0_8 : List Int) (a1_0 : Int) (a1_1 : Int) (a1_2 : Int) (a1_3 : Int) (a1_4 : Int) (a1_5 : Int) (a1_6 : Int) (a1_7 : Int) (P1_8_ : Nat → Prop) (A1_8 : Option Addr) (c1_8 : Nat) (l1_8 : List Int) (r : Bool) (w : World) (hs0_8 : Kd.V (Kd.int .i32) 21 w w.heap.size (fun k_ => P0_8_ k_) (.slice A0_8 l0_8.length c0_8) l0_8) (hs1_8 : Kd.V (Kd.int .i32) 21 w w.heap.size (fun k_ => P1_8_ k_) (.slice A1_8 l1_8.length c1_8) l1_8) (h : pelotonlaw15_MsgApart.f k a0_0 a0_1 a0_2 a0_3 a0_4 a0_5 a0_6 a0_7 l0_8 a1_0 a1_1 a1_2 a1_3 a1_4 a1_5 a1_6 a1_7 l1_8 = some r) :
  Calls Try.prog 4 #[.agg #[.int .i64 a0_0, .int .i64 a0_1, .int .i64 a0_2, .int .i64 a0_3, .int .i64 a0_4, .int .i64 a0_5, .int .i64 a0_6, .int .i64 a0_7, .slice A0_8 l0_8.length c0_8], .agg #[.int .i64 a1_0, .int .i64 a1_1, .int .i64 a1_2, .int .i64 a1_3, .int .i64 a1_4, .int .i64 a1_5, .int .i64 a1_6, .int .i64 a1_7, .slice A1_8 l1_8.length c1_8]] w fun e w' => e = .returned (.bool r) ∧ Below w.heap.size w w' := by
 have hu24 := Try.underlying24
 have HO0_8 := Aside0.mk (show Kd.V (Kd.int .i32) 21 w w.heap.size (fun k_ => ((P0_8_ k_ ∨ P1_8_ k_) ∨ w.heap.size ≤ k_)) (.slice A0_8 l0_8.length c0_8) l0_8 from Kd.V_mono hs0_8 (fun k_ hk => .inl (.inl hk)))
 have HO1_8 := Aside0.mk (show Kd.V (Kd.int .i32) 21 w w.heap.size (fun k_ => ((P0_8_ k_ ∨ P1_8_ k_) ∨ w.heap.size ≤ k_)) (.slice A1_8 l1_8.length c1_8) l1_8 from Kd.V_mono hs1_8 (fun k_ hk => .inl (.inr hk)))
 have HB := Aside0.mk (Below.refl w.heap.size w)
 have H : ((pelotonlaw15_awake.f k).bind fun t172 => (if t172 = true then (if (l0_8.length : Int) > 1000 then (pelotonlaw15_MsgApart.j0 k true a0_0 a0_1 a0_2 a0_3 a0_4 a0_5 a0_6 a0_7 l0_8 a1_0 a1_1 a1_2 a1_3 a1_4 a1_5 a1_6 a1_7 l1_8) else (pelotonlaw15_MsgApart.j0 k (decide ((l1_8.length : Int) > 1000)) a0_0 a0_1 a0_2 a0_3 a0_4 a0_5 a0_6 a0_7 l0_8 a1_0 a1_1 a1_2 a1_3 a1_4 a1_5 a1_6 a1_7 l1_8)) else (pelotonlaw15_MsgApart.j0 k true a0_0 a0_1 a0_2 a0_3 a0_4 a0_5 a0_6 a0_7 l0_8 a1_0 a1_1 a1_2 a1_3 a1_4 a1_5 a1_6 a1_7 l1_8))) = some r := h
 clear h
 have HC3 := Aside0.mk H
 clear H
 go_enter Try.func4, Try.ntmps4
 go_upto_region 1 with (first | ((with_reducible refine gate_dst (N := 2) rfl ?_); (try (refine gate_guard (by rfl) ?_; dsimp only)); refine box_event ?hg (N := 2) ?hd (cs := #[.int .i64 a0_0, .int .i64 a0_1, .int .i64 a0_2, .int .i64 a0_3, .int .i64 a0_4, .int .i64 a0_5, .int .i64 a0_6, .int .i64 a0_7, .slice A0_8 l0_8.length c0_8]) (t := 24) ?hr ?_; (case hd => rfl); (case hg => rfl); (case hr => first | (go_simp; done) | (go_simp; rfl)); intro gb170 hg w4 hbox hb; have BK170 := Aside0.mk (hbox); have GW170 := Aside0.mk ((by rw [hg]; exact (below_size (bw_ HB)) : w.heap.size ≤ gb170)); have GE170 := Aside0.mk ((by rw [hg]; exact (below_size (bw_ HB)) : w.heap.size ≤ gb170)); replace HO0_8 := Aside0.mk (Kd.V_below (Kd.V_elderB (tV_ HO0_8) gb170 (Nat.le_of_eq hg.symm)) hb); replace HO1_8 := Aside0.mk (Kd.V_below (Kd.V_elderB (tV_ HO1_8) gb170 (Nat.le_of_eq hg.symm)) hb); replace HB := Aside0.mk (below_step (bw_ HB) hb); clear hb hbox hg) | ((with_reducible refine gate_dst (N := 3) rfl ?_); (try (refine gate_guard (by rfl) ?_; dsimp only)); refine box_event ?hg (N := 3) ?hd (cs := #[.int .i64 a1_0, .int .i64 a1_1, .int .i64 a1_2, .int .i64 a1_3, .int .i64 a1_4, .int .i64 a1_5, .int .i64 a1_6, .int .i64 a1_7, .slice A1_8 l1_8.length c1_8]) (t := 24) ?hr ?_; (case hd => rfl); (case hg => rfl); (case hr => first | (go_simp; done) | (go_simp; rfl)); intro gb171 hg w5 hbox hb; have BK171 := Aside0.mk (hbox); have GW171 := Aside0.mk ((by rw [hg]; exact (below_size (bw_ HB)) : w.heap.size ≤ gb171)); have GE171 := Aside0.mk ((by rw [hg]; exact (below_size (bw_ HB)) : w.heap.size ≤ gb171)); have NB170_171 := Aside0.mk ((by rw [hg]; exact Nat.ne_of_lt (blk_lt (tk_ BK170)) : gb170 ≠ gb171)); have NB171_170 := Aside0.mk ((by rw [hg]; exact Nat.ne_of_gt (blk_lt (tk_ BK170)) : gb171 ≠ gb170)); replace HO0_8 := Aside0.mk (Kd.V_below (Kd.V_elderB (tV_ HO0_8) gb171 (Nat.le_of_eq hg.symm)) hb); replace HO1_8 := Aside0.mk (Kd.V_below (Kd.V_elderB (tV_ HO1_8) gb171 (Nat.le_of_eq hg.symm)) hb); replace BK170 := Aside0.mk (blk_below (tk_ BK170) hb); replace HB := Aside0.mk (below_step (bw_ HB) hb); clear hb hbox hg))
 (try simp only [Act.put, l_1, l_2, l_3])
 go_cut [25] (fun v25 wc => ∃ (kq : Nat) (x25_2 : Bool), v25 = .bool x25_2 ∧ Aside0 (pelotonlaw15_MsgApart.j0 kq x25_2 a0_0 a0_1 a0_2 a0_3 a0_4 a0_5 a0_6 a0_7 l0_8 a1_0 a1_1 a1_2 a1_3 a1_4 a1_5 a1_6 a1_7 l1_8 = some r) ∧ Aside0 (kq ≤ k) ∧ Aside0 (Kd.V (Kd.int .i32) 21 wc w.heap.size (fun k_ => ((P0_8_ k_ ∨ P1_8_ k_) ∨ w.heap.size ≤ k_) ∧ k_ ≠ gb170 ∧ k_ ≠ gb171) (.slice A0_8 l0_8.length c0_8) l0_8) ∧ Aside0 (Kd.V (Kd.int .i32) 21 wc w.heap.size (fun k_ => ((P0_8_ k_ ∨ P1_8_ k_) ∨ w.heap.size ≤ k_) ∧ k_ ≠ gb170 ∧ k_ ≠ gb171) (.slice A1_8 l1_8.length c1_8) l1_8) ∧ Aside0 (wc.heap[gb170]? = some (.cells #[.int .i64 a0_0, .int .i64 a0_1, .int .i64 a0_2, .int .i64 a0_3, .int .i64 a0_4, .int .i64 a0_5, .int .i64 a0_6, .int .i64 a0_7, (.slice A0_8 l0_8.length c0_8)] 24 (0, 0))) ∧ Aside0 (wc.heap[gb171]? = some (.cells #[.int .i64 a1_0, .int .i64 a1_1, .int .i64 a1_2, .int .i64 a1_3, .int .i64 a1_4, .int .i64 a1_5, .int .i64 a1_6, .int .i64 a1_7, (.slice A1_8 l1_8.length c1_8)] 24 (0, 0))) ∧ Aside0 (Below w.heap.size w wc))
 case first =>
  have H := HC3.out
  clear HC3
  replace H := Option.bind_eq_some_iff.mp H
  obtain ⟨t172, A60, H⟩ := H
  replace H : (if t172 = true then (if (l0_8.length : Int) > 1000 then (pelotonlaw15_MsgApart.j0 k true a0_0 a0_1 a0_2 a0_3 a0_4 a0_5 a0_6 a0_7 l0_8 a1_0 a1_1 a1_2 a1_3 a1_4 a1_5 a1_6 a1_7 l1_8) else (pelotonlaw15_MsgApart.j0 k (decide ((l1_8.length : Int) > 1000)) a0_0 a0_1 a0_2 a0_3 a0_4 a0_5 a0_6 a0_7 l0_8 a1_0 a1_1 a1_2 a1_3 a1_4 a1_5 a1_6 a1_7 l1_8)) else (pelotonlaw15_MsgApart.j0 k true a0_0 a0_1 a0_2 a0_3 a0_4 a0_5 a0_6 a0_7 l0_8 a1_0 a1_1 a1_2 a1_3 a1_4 a1_5 a1_6 a1_7 l1_8)) = some r := H
  have A6 := Aside0.mk A60
  clear A60
  by_cases c7 : t172 = true
  rotate_left
  ·
   replace c7 := Bool.eq_false_iff.mpr c7
   subst c7
   have H1 : (pelotonlaw15_MsgApart.j0 k true a0_0 a0_1 a0_2 a0_3 a0_4 a0_5 a0_6 a0_7 l0_8 a1_0 a1_1 a1_2 a1_3 a1_4 a1_5 a1_6 a1_7 l1_8) = some r := by rw [if_neg (show ¬ (false = true) by decide)] at H; exact H
   clear H
   have H := H1
   clear H1
   have H' := Aside0.mk H
   clear H
   go_wp2_with (first | ((with_reducible refine gate_callee (f := 7) rfl ?_); refine goesL_ (some 12) rfl rfl Try.func7 (by kernel_rfl) rfl #[] rfl (by (try simp only [l_4, l_5, l_6]); first | done | rfl | (simp only [l_7, l_8]; rfl)) ?_; (with_reducible refine (pelotonlaw15_awake.calls k  false _ A6.out).mono ?_); rintro e w16 ⟨rfl, hb⟩; (try clear A6); refine ⟨_, rfl, ?_⟩; replace HO0_8 := Aside0.mk (Kd.V_below (tV_ HO0_8) hb); replace HO1_8 := Aside0.mk (Kd.V_below (tV_ HO1_8) hb); replace BK170 := Aside0.mk (blk_below (tk_ BK170) hb); replace BK171 := Aside0.mk (blk_below (tk_ BK171) hb); replace HB := Aside0.mk (below_step (bw_ HB) hb); (try clear hb); (try clear hb2); (try clear hk); (try clear hi)))
   go_meet
   case rel => exact ⟨_, (true), (by first | rfl | (simp; done) | (simp [*]; done)), H', ⟨by first | exact Nat.le_refl _ | omega⟩, ⟨by (with_reducible repeat (first | apply Kd.V_alloc | apply Kd.V_drewN | apply Kd.V_drew)); exact Kd.V_mono HO0_8.out (fun _ hk => ⟨hk.1.1, ⟨hk.1.2, hk.2⟩⟩)⟩, ⟨by (with_reducible repeat (first | apply Kd.V_alloc | apply Kd.V_drewN | apply Kd.V_drew)); exact Kd.V_mono HO1_8.out (fun _ hk => ⟨hk.1.1, ⟨hk.1.2, hk.2⟩⟩)⟩, ⟨tk_ BK170⟩, ⟨tk_ BK171⟩, ⟨by repeat (first | (with_reducible first | exact HB.out | apply b_a | apply b_n | apply b_d | refine b_s ?_ GE170.out | refine b_s ?_ GE171.out) | exact HB.out)⟩⟩
  subst c7
  have H1 : (if (l0_8.length : Int) > 1000 then (pelotonlaw15_MsgApart.j0 k true a0_0 a0_1 a0_2 a0_3 a0_4 a0_5 a0_6 a0_7 l0_8 a1_0 a1_1 a1_2 a1_3 a1_4 a1_5 a1_6 a1_7 l1_8) else (pelotonlaw15_MsgApart.j0 k (decide ((l1_8.length : Int) > 1000)) a0_0 a0_1 a0_2 a0_3 a0_4 a0_5 a0_6 a0_7 l0_8 a1_0 a1_1 a1_2 a1_3 a1_4 a1_5 a1_6 a1_7 l1_8)) = some r := by rw [if_pos rfl] at H; exact H
  clear H
  have H := H1
  clear H1
  by_cases c8 : (l0_8.length : Int) > 1000
  ·
   rw [if_pos c8] at H
   have c8b0 : decide (1000 < (l0_8.length : Int)) = true := decide_eq_true c8
   have c8b1 : decide (1000 < l0_8.length) = true := decide_eq_true (by omega)
   clear c8
   (first | rw [c8b0] | (simp only [i64_w, i32_w]; rw [c8b0]) | skip)
   have H' := Aside0.mk H
   clear H
   go_wp2_with (first | ((with_reducible refine gate_callee (f := 7) rfl ?_); refine goesL_ (some 12) rfl rfl Try.func7 (by kernel_rfl) rfl #[] rfl (by (try simp only [l_4, l_5, l_6]); first | done | rfl | (simp only [l_7, l_8]; rfl)) ?_; (with_reducible refine (pelotonlaw15_awake.calls k  true _ A6.out).mono ?_); rintro e w9 ⟨rfl, hb⟩; (try clear A6); refine ⟨_, rfl, ?_⟩; replace HO0_8 := Aside0.mk (Kd.V_below (tV_ HO0_8) hb); replace HO1_8 := Aside0.mk (Kd.V_below (tV_ HO1_8) hb); replace BK170 := Aside0.mk (blk_below (tk_ BK170) hb); replace BK171 := Aside0.mk (blk_below (tk_ BK171) hb); replace HB := Aside0.mk (below_step (bw_ HB) hb); (try clear hb); (try clear hb2); (try clear hk); (try clear hi); have hnb10 := NB170_171.out; have hnc10 := NB171_170.out; have hcz11_0 := bc_0 BK170; have hcz11_1 := bc_1 BK170; have hcz11_2 := bc_2 BK170; have hcz11_3 := bc_3 BK170; have hcz11_4 := bc_4 BK170; have hcz11_5 := bc_5 BK170; have hcz11_6 := bc_6 BK170; have hcz11_7 := bc_7 BK170; have hcz11_8 : w9.cell? ⟨gb170, 8, none⟩ = some (.slice A0_8 l0_8.length c0_8) := (blk_cell BK170.out 8).trans rfl; have hfz11_0 := blk_frozen BK170.out 0; have hfz11_1 := blk_frozen BK170.out 1; have hfz11_2 := blk_frozen BK170.out 2; have hfz11_3 := blk_frozen BK170.out 3; have hfz11_4 := blk_frozen BK170.out 4; have hfz11_5 := blk_frozen BK170.out 5; have hfz11_6 := blk_frozen BK170.out 6; have hfz11_7 := blk_frozen BK170.out 7; have hfz11_8 := blk_frozen BK170.out 8; (first | ((with_reducible refine gate_store_ rfl ?_); refine st9_ rfl rfl rfl rfl rfl (by with_reducible assumption) (by kernel_rfl) (by simp [Value.oneCell']) ?_; clear hcz11_0 hfz11_0 hcz11_1 hfz11_1 hcz11_2 hfz11_2 hcz11_3 hfz11_3 hcz11_4 hfz11_4 hcz11_5 hfz11_5 hcz11_6 hfz11_6 hcz11_7 hfz11_7 hcz11_8 hfz11_8; intro hb9_; have BN11 := Aside0.mk hb9_; clear hb9_) | skip)))
   go_meet
   case rel => exact ⟨_, (true), (by first | rfl | (simp; done) | (simp [*]; done)), H', ⟨by first | exact Nat.le_refl _ | omega⟩, ⟨by (with_reducible repeat (first | apply Kd.V_alloc | apply Kd.V_drewN | apply Kd.V_drew)); exact Kd.V_mono HO0_8.out (fun _ hk => ⟨hk.1.1, ⟨hk.1.2, hk.2⟩⟩)⟩, ⟨by (with_reducible repeat (first | apply Kd.V_alloc | apply Kd.V_drewN | apply Kd.V_drew)); exact Kd.V_mono HO1_8.out (fun _ hk => ⟨hk.1.1, ⟨hk.1.2, hk.2⟩⟩)⟩, ⟨tk_ BK170⟩, ⟨tk_ BK171⟩, ⟨by repeat (first | (with_reducible first | exact HB.out | apply b_a | apply b_n | apply b_d | refine b_s ?_ GE170.out | refine b_s ?_ GE171.out) | exact HB.out)⟩⟩
  rw [if_neg c8] at H
  have c8b0 : decide (1000 < (l0_8.length : Int)) = false := decide_eq_false c8
  have c8b1 : decide (1000 < l0_8.length) = false := decide_eq_false (by omega)
  clear c8
  (first | rw [c8b0] | (simp only [i64_w, i32_w]; rw [c8b0]) | skip)
  have H' := Aside0.mk H
  clear H
  go_wp2_with (first | ((with_reducible refine gate_callee (f := 7) rfl ?_); refine goesL_ (some 12) rfl rfl Try.func7 (by kernel_rfl) rfl #[] rfl (by (try simp only [l_4, l_5, l_6]); first | done | rfl | (simp only [l_7, l_8]; rfl)) ?_; (with_reducible refine (pelotonlaw15_awake.calls k  true _ A6.out).mono ?_); rintro e w12 ⟨rfl, hb⟩; (try clear A6); refine ⟨_, rfl, ?_⟩; replace HO0_8 := Aside0.mk (Kd.V_below (tV_ HO0_8) hb); replace HO1_8 := Aside0.mk (Kd.V_below (tV_ HO1_8) hb); replace BK170 := Aside0.mk (blk_below (tk_ BK170) hb); replace BK171 := Aside0.mk (blk_below (tk_ BK171) hb); replace HB := Aside0.mk (below_step (bw_ HB) hb); (try clear hb); (try clear hb2); (try clear hk); (try clear hi); have hnb13 := NB170_171.out; have hnc13 := NB171_170.out; have hcz14_0 := bc_0 BK170; have hcz14_1 := bc_1 BK170; have hcz14_2 := bc_2 BK170; have hcz14_3 := bc_3 BK170; have hcz14_4 := bc_4 BK170; have hcz14_5 := bc_5 BK170; have hcz14_6 := bc_6 BK170; have hcz14_7 := bc_7 BK170; have hcz14_8 : w12.cell? ⟨gb170, 8, none⟩ = some (.slice A0_8 l0_8.length c0_8) := (blk_cell BK170.out 8).trans rfl; have hfz14_0 := blk_frozen BK170.out 0; have hfz14_1 := blk_frozen BK170.out 1; have hfz14_2 := blk_frozen BK170.out 2; have hfz14_3 := blk_frozen BK170.out 3; have hfz14_4 := blk_frozen BK170.out 4; have hfz14_5 := blk_frozen BK170.out 5; have hfz14_6 := blk_frozen BK170.out 6; have hfz14_7 := blk_frozen BK170.out 7; have hfz14_8 := blk_frozen BK170.out 8; have hcz15_0 := bc_0 BK171; have hcz15_1 := bc_1 BK171; have hcz15_2 := bc_2 BK171; have hcz15_3 := bc_3 BK171; have hcz15_4 := bc_4 BK171; have hcz15_5 := bc_5 BK171; have hcz15_6 := bc_6 BK171; have hcz15_7 := bc_7 BK171; have hcz15_8 : w12.cell? ⟨gb171, 8, none⟩ = some (.slice A1_8 l1_8.length c1_8) := (blk_cell BK171.out 8).trans rfl; have hfz15_0 := blk_frozen BK171.out 0; have hfz15_1 := blk_frozen BK171.out 1; have hfz15_2 := blk_frozen BK171.out 2; have hfz15_3 := blk_frozen BK171.out 3; have hfz15_4 := blk_frozen BK171.out 4; have hfz15_5 := blk_frozen BK171.out 5; have hfz15_6 := blk_frozen BK171.out 6; have hfz15_7 := blk_frozen BK171.out 7; have hfz15_8 := blk_frozen BK171.out 8; (first | ((with_reducible refine gate_store_ rfl ?_); refine st9_ rfl rfl rfl rfl rfl (by with_reducible assumption) (by kernel_rfl) (by simp [Value.oneCell']) ?_; clear hcz15_0 hfz15_0 hcz15_1 hfz15_1 hcz15_2 hfz15_2 hcz15_3 hfz15_3 hcz15_4 hfz15_4 hcz15_5 hfz15_5 hcz15_6 hfz15_6 hcz15_7 hfz15_7 hcz15_8 hfz15_8; intro hb9_; have BN15 := Aside0.mk hb9_; clear hb9_) | skip)))
  go_meet
  case rel => exact ⟨_, (decide ((l1_8.length : Int) > 1000)), (by first | rfl | (simp; done) | (simp [*]; done)), H', ⟨by first | exact Nat.le_refl _ | omega⟩, ⟨by (with_reducible repeat (first | apply Kd.V_alloc | apply Kd.V_drewN | apply Kd.V_drew)); exact Kd.V_mono HO0_8.out (fun _ hk => ⟨hk.1.1, ⟨hk.1.2, hk.2⟩⟩)⟩, ⟨by (with_reducible repeat (first | apply Kd.V_alloc | apply Kd.V_drewN | apply Kd.V_drew)); exact Kd.V_mono HO1_8.out (fun _ hk => ⟨hk.1.1, ⟨hk.1.2, hk.2⟩⟩)⟩, ⟨tk_ BK170⟩, ⟨tk_ BK171⟩, ⟨by repeat (first | (with_reducible first | exact HB.out | apply b_a | apply b_n | apply b_d | refine b_s ?_ GE170.out | refine b_s ?_ GE171.out) | exact HB.out)⟩⟩
 case rest => as_aux_lemma =>
  clear HC3
  try clear c1
  try clear p2
  try clear c4
  try clear c7
  try clear c8
  try clear c8b0
  try clear c8b1
  try clear c10
  try clear c13
  try clear hcz11_0
  try clear hcz11_1
  try clear hcz11_2
  try clear hcz11_3
  try clear hcz11_4
  try clear hcz11_5
  try clear hcz11_6
  try clear hcz11_7
  try clear hcz11_8
  try clear hcz14_0
  try clear hcz14_1
  try clear hcz14_2
  try clear hcz14_3
  try clear hcz14_4
  try clear hcz14_5
  try clear hcz14_6
  try clear hcz14_7
  try clear hcz14_8
  try clear hcz15_0
  try clear hcz15_1
  try clear hcz15_2
  try clear hcz15_3
  try clear hcz15_4
  try clear hcz15_5
  try clear hcz15_6
  try clear hcz15_7
  try clear hcz15_8
  try clear hfz11_0
  try clear hfz11_1
  try clear hfz11_2
  try clear hfz11_3
  try clear hfz11_4
  try clear hfz11_5
  try clear hfz11_6
  try clear hfz11_7
  try clear hfz11_8
  try clear hfz14_0
  try clear hfz14_1
  try clear hfz14_2
  try clear hfz14_3
  try clear hfz14_4
  try clear hfz14_5
  try clear hfz14_6
  try clear hfz14_7
  try clear hfz14_8
  try clear hfz15_0
  try clear hfz15_1
  try clear hfz15_2
  try clear hfz15_3
  try clear hfz15_4
  try clear hfz15_5
  try clear hfz15_6
  try clear hfz15_7
  try clear hfz15_8
  obtain ⟨kq, x25_2, rfl, HA, HJ2, HO_171008, HO_172008, BK170, BK171, HB⟩ := hcut
  cases kq with
  | zero => exact absurd HA.out (by simp [pelotonlaw15_MsgApart.j0])
  | succ kj2 =>
   have H := HA.out
   clear HA
   simp only [pelotonlaw15_MsgApart.j0] at H
   by_cases c17 : x25_2 = true
   ·
    subst c17
    have H1 : ((pelotonlaw15_awake.f kj2).bind fun t173 => (some t173)) = some r := by rw [if_pos rfl] at H; exact H
    clear H
    have H := H1
    clear H1
    replace H := Option.bind_eq_some_iff.mp H
    obtain ⟨t173, A180, H⟩ := H
    replace H : (some t173) = some r := H
    have A18 := Aside0.mk A180
    clear A180
    obtain rfl := Option.some.inj H
    go_wp2_with (first | ((with_reducible refine gate_callee (f := 7) rfl ?_); refine goesL_ (some 26) rfl rfl Try.func7 (by kernel_rfl) rfl #[] rfl (by (try simp only [l_4, l_5, l_6]); first | done | rfl | (simp only [l_7, l_8]; rfl)) ?_; (with_reducible refine (pelotonlaw15_awake.calls kj2  t173 _ A18.out).mono ?_); rintro e w19 ⟨rfl, hb⟩; (try clear A18); refine ⟨_, rfl, ?_⟩; replace HO_171008 := Aside0.mk (Kd.V_below (tV_ HO_171008) hb); replace HO_172008 := Aside0.mk (Kd.V_below (tV_ HO_172008) hb); replace BK170 := Aside0.mk (blk_below (tk_ BK170) hb); replace BK171 := Aside0.mk (blk_below (tk_ BK171) hb); replace HB := Aside0.mk (below_step (bw_ HB) hb); (try clear hb); (try clear hb2); (try clear hk); (try clear hi)))
    go_ret
    exact ⟨by first | rfl | (simp [errW_none, errW_some] <;> rfl) | (simp [*, errW_none, errW_some] <;> rfl), by repeat (first | (with_reducible first | exact HB.out | apply b_a | apply b_n | apply b_d | refine b_s ?_ GE170.out | refine b_s ?_ GE171.out) | exact HB.out)⟩
   replace c17 := Bool.eq_false_iff.mpr c17
   subst c17
   have H1 : ((pelotonref15_Same.f kj2 a0_0 a0_1 a0_2 a0_3 a0_4 a0_5 a0_6 a0_7 l0_8 a1_0 a1_1 a1_2 a1_3 a1_4 a1_5 a1_6 a1_7 l1_8).bind fun t174 => ((msg_Same.f kj2 a0_0 a0_1 a0_2 a0_3 a0_4 a0_5 a0_6 a0_7 l0_8 a1_0 a1_1 a1_2 a1_3 a1_4 a1_5 a1_6 a1_7 l1_8).bind fun t175 => (if (t175 != t174) = true then (pelotonlaw15_MsgApart.j1 kj2 t174 true a0_0 a0_1 a0_2 a0_3 a0_4 a0_5 a0_6 a0_7 l0_8 a1_0 a1_1 a1_2 a1_3 a1_4 a1_5 a1_6 a1_7 l1_8) else ((msg_Same.f kj2 a1_0 a1_1 a1_2 a1_3 a1_4 a1_5 a1_6 a1_7 l1_8 a0_0 a0_1 a0_2 a0_3 a0_4 a0_5 a0_6 a0_7 l0_8).bind fun t176 => (pelotonlaw15_MsgApart.j1 kj2 t174 (t176 != t174) a0_0 a0_1 a0_2 a0_3 a0_4 a0_5 a0_6 a0_7 l0_8 a1_0 a1_1 a1_2 a1_3 a1_4 a1_5 a1_6 a1_7 l1_8))))) = some r := by rw [if_neg (show ¬ (false = true) by decide)] at H; exact H
   clear H
   have H := H1
   clear H1
   replace H := Option.bind_eq_some_iff.mp H
   obtain ⟨t174, A200, H⟩ := H
   replace H : ((msg_Same.f kj2 a0_0 a0_1 a0_2 a0_3 a0_4 a0_5 a0_6 a0_7 l0_8 a1_0 a1_1 a1_2 a1_3 a1_4 a1_5 a1_6 a1_7 l1_8).bind fun t175 => (if (t175 != t174) = true then (pelotonlaw15_MsgApart.j1 kj2 t174 true a0_0 a0_1 a0_2 a0_3 a0_4 a0_5 a0_6 a0_7 l0_8 a1_0 a1_1 a1_2 a1_3 a1_4 a1_5 a1_6 a1_7 l1_8) else ((msg_Same.f kj2 a1_0 a1_1 a1_2 a1_3 a1_4 a1_5 a1_6 a1_7 l1_8 a0_0 a0_1 a0_2 a0_3 a0_4 a0_5 a0_6 a0_7 l0_8).bind fun t176 => (pelotonlaw15_MsgApart.j1 kj2 t174 (t176 != t174) a0_0 a0_1 a0_2 a0_3 a0_4 a0_5 a0_6 a0_7 l0_8 a1_0 a1_1 a1_2 a1_3 a1_4 a1_5 a1_6 a1_7 l1_8)))) = some r := H
   have A20 := Aside0.mk A200
   clear A200
   have HC21 := Aside0.mk H
   clear H
   have hnb22 := NB170_171.out
   have hnc22 := NB171_170.out
   have hcz23_0 := bc_0 BK170
   have hcz23_1 := bc_1 BK170
   have hcz23_2 := bc_2 BK170
   have hcz23_3 := bc_3 BK170
   have hcz23_4 := bc_4 BK170
   have hcz23_5 := bc_5 BK170
   have hcz23_6 := bc_6 BK170
   have hcz23_7 := bc_7 BK170
   have hcz23_8 : wc.cell? ⟨gb170, 8, none⟩ = some (.slice A0_8 l0_8.length c0_8) := (blk_cell BK170.out 8).trans rfl
   have hfz23_0 := blk_frozen BK170.out 0
   have hfz23_1 := blk_frozen BK170.out 1
   have hfz23_2 := blk_frozen BK170.out 2
   have hfz23_3 := blk_frozen BK170.out 3
   have hfz23_4 := blk_frozen BK170.out 4
   have hfz23_5 := blk_frozen BK170.out 5
   have hfz23_6 := blk_frozen BK170.out 6
   have hfz23_7 := blk_frozen BK170.out 7
   have hfz23_8 := blk_frozen BK170.out 8
   have hcz24_0 := bc_0 BK171
   have hcz24_1 := bc_1 BK171
   have hcz24_2 := bc_2 BK171
   have hcz24_3 := bc_3 BK171
   have hcz24_4 := bc_4 BK171
   have hcz24_5 := bc_5 BK171
   have hcz24_6 := bc_6 BK171
   have hcz24_7 := bc_7 BK171
   have hcz24_8 : wc.cell? ⟨gb171, 8, none⟩ = some (.slice A1_8 l1_8.length c1_8) := (blk_cell BK171.out 8).trans rfl
   have hfz24_0 := blk_frozen BK171.out 0
   have hfz24_1 := blk_frozen BK171.out 1
   have hfz24_2 := blk_frozen BK171.out 2
   have hfz24_3 := blk_frozen BK171.out 3
   have hfz24_4 := blk_frozen BK171.out 4
   have hfz24_5 := blk_frozen BK171.out 5
   have hfz24_6 := blk_frozen BK171.out 6
   have hfz24_7 := blk_frozen BK171.out 7
   have hfz24_8 := blk_frozen BK171.out 8
   go_upto_region 4 with (first | ((with_reducible refine gate_callee (f := 13) rfl ?_); refine goesL_ (some 29) rfl rfl Try.func13 (by kernel_rfl) rfl #[.agg #[.int .i64 a0_0, .int .i64 a0_1, .int .i64 a0_2, .int .i64 a0_3, .int .i64 a0_4, .int .i64 a0_5, .int .i64 a0_6, .int .i64 a0_7, .slice A0_8 l0_8.length c0_8], .agg #[.int .i64 a1_0, .int .i64 a1_1, .int .i64 a1_2, .int .i64 a1_3, .int .i64 a1_4, .int .i64 a1_5, .int .i64 a1_6, .int .i64 a1_7, .slice A1_8 l1_8.length c1_8]] rfl (by (try simp only [l_4, l_5, l_6]); first | done | rfl | (simp only [l_7, l_8]; rfl)) ?_; (with_reducible refine (pelotonref15_Same.calls kj2 a0_0 a0_1 a0_2 a0_3 a0_4 a0_5 a0_6 a0_7 _ _ l0_8 a1_0 a1_1 a1_2 a1_3 a1_4 a1_5 a1_6 a1_7 _ _ l1_8 t174 _ ?side1 ?side2 ?side3 ?side4 A20.out).mono ?_); (case side1 => repeat (first | exact (Kd.V_reads' HO_171008.out).2.2 | (with_reducible refine Kd.C_alloc ?_ _) | (with_reducible refine Kd.C_drewN ?_ _) | (with_reducible refine Kd.C_drew ?_))); (case side2 => exact (Kd.V_reads' HO_171008.out).2.1); (case side3 => repeat (first | exact (Kd.V_reads' HO_172008.out).2.2 | (with_reducible refine Kd.C_alloc ?_ _) | (with_reducible refine Kd.C_drewN ?_ _) | (with_reducible refine Kd.C_drew ?_))); (case side4 => exact (Kd.V_reads' HO_172008.out).2.1); rintro e w25 ⟨rfl, hb⟩; (try clear A20); refine ⟨_, rfl, ?_⟩; replace HO_171008 := Aside0.mk (Kd.V_below (tV_ HO_171008) hb); replace HO_172008 := Aside0.mk (Kd.V_below (tV_ HO_172008) hb); replace BK170 := Aside0.mk (blk_below (tk_ BK170) hb); replace BK171 := Aside0.mk (blk_below (tk_ BK171) hb); replace HB := Aside0.mk (below_step (bw_ HB) hb); (try clear hb); (try clear hb2); (try clear hk); (try clear hi)))
   (try simp only [Act.put, l_1, l_2, l_3])
   go_cut [41] (fun v41 wc => ∃ (kq : Nat) (x41_20 : Bool), v41 = .bool x41_20 ∧ Aside0 (pelotonlaw15_MsgApart.j1 kq t174 x41_20 a0_0 a0_1 a0_2 a0_3 a0_4 a0_5 a0_6 a0_7 l0_8 a1_0 a1_1 a1_2 a1_3 a1_4 a1_5 a1_6 a1_7 l1_8 = some r) ∧ Aside0 (kq ≤ kj2) ∧ Aside0 (Kd.V (Kd.int .i32) 21 wc w.heap.size (fun k_ => ((P0_8_ k_ ∨ P1_8_ k_) ∨ w.heap.size ≤ k_) ∧ k_ ≠ gb170 ∧ k_ ≠ gb171) (.slice A0_8 l0_8.length c0_8) l0_8) ∧ Aside0 (Kd.V (Kd.int .i32) 21 wc w.heap.size (fun k_ => ((P0_8_ k_ ∨ P1_8_ k_) ∨ w.heap.size ≤ k_) ∧ k_ ≠ gb170 ∧ k_ ≠ gb171) (.slice A1_8 l1_8.length c1_8) l1_8) ∧ Aside0 (wc.heap[gb170]? = some (.cells #[.int .i64 a0_0, .int .i64 a0_1, .int .i64 a0_2, .int .i64 a0_3, .int .i64 a0_4, .int .i64 a0_5, .int .i64 a0_6, .int .i64 a0_7, (.slice A0_8 l0_8.length c0_8)] 24 (0, 0))) ∧ Aside0 (wc.heap[gb171]? = some (.cells #[.int .i64 a1_0, .int .i64 a1_1, .int .i64 a1_2, .int .i64 a1_3, .int .i64 a1_4, .int .i64 a1_5, .int .i64 a1_6, .int .i64 a1_7, (.slice A1_8 l1_8.length c1_8)] 24 (0, 0))) ∧ Aside0 (Below w.heap.size w wc))
   case first =>
    have H := HC21.out
    clear HC21
    replace H := Option.bind_eq_some_iff.mp H
    obtain ⟨t175, A260, H⟩ := H
    replace H : (if (t175 != t174) = true then (pelotonlaw15_MsgApart.j1 kj2 t174 true a0_0 a0_1 a0_2 a0_3 a0_4 a0_5 a0_6 a0_7 l0_8 a1_0 a1_1 a1_2 a1_3 a1_4 a1_5 a1_6 a1_7 l1_8) else ((msg_Same.f kj2 a1_0 a1_1 a1_2 a1_3 a1_4 a1_5 a1_6 a1_7 l1_8 a0_0 a0_1 a0_2 a0_3 a0_4 a0_5 a0_6 a0_7 l0_8).bind fun t176 => (pelotonlaw15_MsgApart.j1 kj2 t174 (t176 != t174) a0_0 a0_1 a0_2 a0_3 a0_4 a0_5 a0_6 a0_7 l0_8 a1_0 a1_1 a1_2 a1_3 a1_4 a1_5 a1_6 a1_7 l1_8))) = some r := H
    have A26 := Aside0.mk A260
    clear A260
    by_cases c27 : (t175 != t174) = true
    ·
     rw [if_pos c27] at H
     have c27b0 : (t175 != t174) = true := c27
     (try (have c27b1 : decide (t175 = t174) = false := by simpa using c27))
     (try (have c27b2 : (t175 == t174) = false := by simpa using c27))
     (try (have c27b3 : ¬ (t175 = t174) := by simpa using c27))
     clear c27
     (first | rw [c27b0] | (simp only [i64_w, i32_w]; rw [c27b0]) | skip)
     have H' := Aside0.mk H
     clear H
     have hnb28 := NB170_171.out
     have hnc28 := NB171_170.out
     have hcz29_0 := bc_0 BK170
     have hcz29_1 := bc_1 BK170
     have hcz29_2 := bc_2 BK170
     have hcz29_3 := bc_3 BK170
     have hcz29_4 := bc_4 BK170
     have hcz29_5 := bc_5 BK170
     have hcz29_6 := bc_6 BK170
     have hcz29_7 := bc_7 BK170
     have hcz29_8 : w25.cell? ⟨gb170, 8, none⟩ = some (.slice A0_8 l0_8.length c0_8) := (blk_cell BK170.out 8).trans rfl
     have hfz29_0 := blk_frozen BK170.out 0
     have hfz29_1 := blk_frozen BK170.out 1
     have hfz29_2 := blk_frozen BK170.out 2
     have hfz29_3 := blk_frozen BK170.out 3
     have hfz29_4 := blk_frozen BK170.out 4
     have hfz29_5 := blk_frozen BK170.out 5
     have hfz29_6 := blk_frozen BK170.out 6
     have hfz29_7 := blk_frozen BK170.out 7
     have hfz29_8 := blk_frozen BK170.out 8
     have hcz30_0 := bc_0 BK171
     have hcz30_1 := bc_1 BK171
     have hcz30_2 := bc_2 BK171
     have hcz30_3 := bc_3 BK171
     have hcz30_4 := bc_4 BK171
     have hcz30_5 := bc_5 BK171
     have hcz30_6 := bc_6 BK171
     have hcz30_7 := bc_7 BK171
     have hcz30_8 : w25.cell? ⟨gb171, 8, none⟩ = some (.slice A1_8 l1_8.length c1_8) := (blk_cell BK171.out 8).trans rfl
     have hfz30_0 := blk_frozen BK171.out 0
     have hfz30_1 := blk_frozen BK171.out 1
     have hfz30_2 := blk_frozen BK171.out 2
     have hfz30_3 := blk_frozen BK171.out 3
     have hfz30_4 := blk_frozen BK171.out 4
     have hfz30_5 := blk_frozen BK171.out 5
     have hfz30_6 := blk_frozen BK171.out 6
     have hfz30_7 := blk_frozen BK171.out 7
     have hfz30_8 := blk_frozen BK171.out 8
     go_wp2_with (first | ((with_reducible refine gate_callee (f := 14) rfl ?_); refine goesL_ (some 32) rfl rfl Try.func14 (by kernel_rfl) rfl #[.agg #[.int .i64 a0_0, .int .i64 a0_1, .int .i64 a0_2, .int .i64 a0_3, .int .i64 a0_4, .int .i64 a0_5, .int .i64 a0_6, .int .i64 a0_7, .slice A0_8 l0_8.length c0_8], .agg #[.int .i64 a1_0, .int .i64 a1_1, .int .i64 a1_2, .int .i64 a1_3, .int .i64 a1_4, .int .i64 a1_5, .int .i64 a1_6, .int .i64 a1_7, .slice A1_8 l1_8.length c1_8]] rfl (by (try simp only [l_4, l_5, l_6]); first | done | rfl | (simp only [l_7, l_8]; rfl)) ?_; (with_reducible refine (msg_Same.calls kj2 a0_0 a0_1 a0_2 a0_3 a0_4 a0_5 a0_6 a0_7 _ _ l0_8 a1_0 a1_1 a1_2 a1_3 a1_4 a1_5 a1_6 a1_7 _ _ l1_8 t175 _ ?side1 ?side2 ?side3 ?side4 A26.out).mono ?_); (case side1 => repeat (first | exact (Kd.V_reads' HO_171008.out).2.2 | (with_reducible refine Kd.C_alloc ?_ _) | (with_reducible refine Kd.C_drewN ?_ _) | (with_reducible refine Kd.C_drew ?_))); (case side2 => exact (Kd.V_reads' HO_171008.out).2.1); (case side3 => repeat (first | exact (Kd.V_reads' HO_172008.out).2.2 | (with_reducible refine Kd.C_alloc ?_ _) | (with_reducible refine Kd.C_drewN ?_ _) | (with_reducible refine Kd.C_drew ?_))); (case side4 => exact (Kd.V_reads' HO_172008.out).2.1); rintro e w31 ⟨rfl, hb⟩; (try clear A26); refine ⟨_, rfl, ?_⟩; replace HO_171008 := Aside0.mk (Kd.V_below (tV_ HO_171008) hb); replace HO_172008 := Aside0.mk (Kd.V_below (tV_ HO_172008) hb); replace BK170 := Aside0.mk (blk_below (tk_ BK170) hb); replace BK171 := Aside0.mk (blk_below (tk_ BK171) hb); replace HB := Aside0.mk (below_step (bw_ HB) hb); (try clear hb); (try clear hb2); (try clear hk); (try clear hi)))
     go_meet
     case rel => exact ⟨_, (true), (by first | rfl | (simp; done) | (simp [*]; done)), H', ⟨by have := HJ2.out; first | exact Nat.le_refl _ | omega⟩, ⟨tV_ HO_171008⟩, ⟨tV_ HO_172008⟩, ⟨tk_ BK170⟩, ⟨tk_ BK171⟩, ⟨by repeat (first | (with_reducible first | exact HB.out | apply b_a | apply b_n | apply b_d | refine b_s ?_ GE170.out | refine b_s ?_ GE171.out) | exact HB.out)⟩⟩
    rw [if_neg c27] at H
    have c27b0 : (t175 != t174) = false := by simpa using c27
    (try (have c27b1 : decide (t175 = t174) = true := by simpa using c27))
    (try (have c27b2 : (t175 == t174) = true := by simpa using c27))
    clear c27
    (first | rw [c27b0] | (simp only [i64_w, i32_w]; rw [c27b0]) | skip)
    replace H := Option.bind_eq_some_iff.mp H
    obtain ⟨t176, A320, H⟩ := H
    replace H : (pelotonlaw15_MsgApart.j1 kj2 t174 (t176 != t174) a0_0 a0_1 a0_2 a0_3 a0_4 a0_5 a0_6 a0_7 l0_8 a1_0 a1_1 a1_2 a1_3 a1_4 a1_5 a1_6 a1_7 l1_8) = some r := H
    have A32 := Aside0.mk A320
    clear A320
    have H' := Aside0.mk H
    clear H
    have hnb33 := NB170_171.out
    have hnc33 := NB171_170.out
    have hcz34_0 := bc_0 BK170
    have hcz34_1 := bc_1 BK170
    have hcz34_2 := bc_2 BK170
    have hcz34_3 := bc_3 BK170
    have hcz34_4 := bc_4 BK170
    have hcz34_5 := bc_5 BK170
    have hcz34_6 := bc_6 BK170
    have hcz34_7 := bc_7 BK170
    have hcz34_8 : w25.cell? ⟨gb170, 8, none⟩ = some (.slice A0_8 l0_8.length c0_8) := (blk_cell BK170.out 8).trans rfl
    have hfz34_0 := blk_frozen BK170.out 0
    have hfz34_1 := blk_frozen BK170.out 1
    have hfz34_2 := blk_frozen BK170.out 2
    have hfz34_3 := blk_frozen BK170.out 3
    have hfz34_4 := blk_frozen BK170.out 4
    have hfz34_5 := blk_frozen BK170.out 5
    have hfz34_6 := blk_frozen BK170.out 6
    have hfz34_7 := blk_frozen BK170.out 7
    have hfz34_8 := blk_frozen BK170.out 8
    have hcz35_0 := bc_0 BK171
    have hcz35_1 := bc_1 BK171
    have hcz35_2 := bc_2 BK171
    have hcz35_3 := bc_3 BK171
    have hcz35_4 := bc_4 BK171
    have hcz35_5 := bc_5 BK171
    have hcz35_6 := bc_6 BK171
    have hcz35_7 := bc_7 BK171
    have hcz35_8 : w25.cell? ⟨gb171, 8, none⟩ = some (.slice A1_8 l1_8.length c1_8) := (blk_cell BK171.out 8).trans rfl
    have hfz35_0 := blk_frozen BK171.out 0
    have hfz35_1 := blk_frozen BK171.out 1
    have hfz35_2 := blk_frozen BK171.out 2
    have hfz35_3 := blk_frozen BK171.out 3
    have hfz35_4 := blk_frozen BK171.out 4
    have hfz35_5 := blk_frozen BK171.out 5
    have hfz35_6 := blk_frozen BK171.out 6
    have hfz35_7 := blk_frozen BK171.out 7
    have hfz35_8 := blk_frozen BK171.out 8
    go_wp2_with (first | ((with_reducible refine gate_callee (f := 14) rfl ?_); refine goesL_ (some 32) rfl rfl Try.func14 (by kernel_rfl) rfl #[.agg #[.int .i64 a0_0, .int .i64 a0_1, .int .i64 a0_2, .int .i64 a0_3, .int .i64 a0_4, .int .i64 a0_5, .int .i64 a0_6, .int .i64 a0_7, .slice A0_8 l0_8.length c0_8], .agg #[.int .i64 a1_0, .int .i64 a1_1, .int .i64 a1_2, .int .i64 a1_3, .int .i64 a1_4, .int .i64 a1_5, .int .i64 a1_6, .int .i64 a1_7, .slice A1_8 l1_8.length c1_8]] rfl (by (try simp only [l_4, l_5, l_6]); first | done | rfl | (simp only [l_7, l_8]; rfl)) ?_; (with_reducible refine (msg_Same.calls kj2 a0_0 a0_1 a0_2 a0_3 a0_4 a0_5 a0_6 a0_7 _ _ l0_8 a1_0 a1_1 a1_2 a1_3 a1_4 a1_5 a1_6 a1_7 _ _ l1_8 t175 _ ?side1 ?side2 ?side3 ?side4 A26.out).mono ?_); (case side1 => repeat (first | exact (Kd.V_reads' HO_171008.out).2.2 | (with_reducible refine Kd.C_alloc ?_ _) | (with_reducible refine Kd.C_drewN ?_ _) | (with_reducible refine Kd.C_drew ?_))); (case side2 => exact (Kd.V_reads' HO_171008.out).2.1); (case side3 => repeat (first | exact (Kd.V_reads' HO_172008.out).2.2 | (with_reducible refine Kd.C_alloc ?_ _) | (with_reducible refine Kd.C_drewN ?_ _) | (with_reducible refine Kd.C_drew ?_))); (case side4 => exact (Kd.V_reads' HO_172008.out).2.1); rintro e w36 ⟨rfl, hb⟩; (try clear A26); refine ⟨_, rfl, ?_⟩; replace HO_171008 := Aside0.mk (Kd.V_below (tV_ HO_171008) hb); replace HO_172008 := Aside0.mk (Kd.V_below (tV_ HO_172008) hb); replace BK170 := Aside0.mk (blk_below (tk_ BK170) hb); replace BK171 := Aside0.mk (blk_below (tk_ BK171) hb); replace HB := Aside0.mk (below_step (bw_ HB) hb); (try clear hb); (try clear hb2); (try clear hk); (try clear hi); have hcz37_0 := bc_0 BK171; have hcz37_1 := bc_1 BK171; have hcz37_2 := bc_2 BK171; have hcz37_3 := bc_3 BK171; have hcz37_4 := bc_4 BK171; have hcz37_5 := bc_5 BK171; have hcz37_6 := bc_6 BK171; have hcz37_7 := bc_7 BK171; have hcz37_8 : w36.cell? ⟨gb171, 8, none⟩ = some (.slice A1_8 l1_8.length c1_8) := (blk_cell BK171.out 8).trans rfl; have hfz37_0 := blk_frozen BK171.out 0; have hfz37_1 := blk_frozen BK171.out 1; have hfz37_2 := blk_frozen BK171.out 2; have hfz37_3 := blk_frozen BK171.out 3; have hfz37_4 := blk_frozen BK171.out 4; have hfz37_5 := blk_frozen BK171.out 5; have hfz37_6 := blk_frozen BK171.out 6; have hfz37_7 := blk_frozen BK171.out 7; have hfz37_8 := blk_frozen BK171.out 8; have hcz38_0 := bc_0 BK170; have hcz38_1 := bc_1 BK170; have hcz38_2 := bc_2 BK170; have hcz38_3 := bc_3 BK170; have hcz38_4 := bc_4 BK170; have hcz38_5 := bc_5 BK170; have hcz38_6 := bc_6 BK170; have hcz38_7 := bc_7 BK170; have hcz38_8 : w36.cell? ⟨gb170, 8, none⟩ = some (.slice A0_8 l0_8.length c0_8) := (blk_cell BK170.out 8).trans rfl; have hfz38_0 := blk_frozen BK170.out 0; have hfz38_1 := blk_frozen BK170.out 1; have hfz38_2 := blk_frozen BK170.out 2; have hfz38_3 := blk_frozen BK170.out 3; have hfz38_4 := blk_frozen BK170.out 4; have hfz38_5 := blk_frozen BK170.out 5; have hfz38_6 := blk_frozen BK170.out 6; have hfz38_7 := blk_frozen BK170.out 7; have hfz38_8 := blk_frozen BK170.out 8) | (go_at_call 14; (with_reducible refine (msg_Same.calls kj2 a1_0 a1_1 a1_2 a1_3 a1_4 a1_5 a1_6 a1_7 _ _ l1_8 a0_0 a0_1 a0_2 a0_3 a0_4 a0_5 a0_6 a0_7 _ _ l0_8 t176 _ ?side1 ?side2 ?side3 ?side4 A32.out).mono ?_); (case side1 => repeat (first | exact (Kd.V_reads' HO_172008.out).2.2 | (with_reducible refine Kd.C_alloc ?_ _) | (with_reducible refine Kd.C_drewN ?_ _) | (with_reducible refine Kd.C_drew ?_))); (case side2 => exact (Kd.V_reads' HO_172008.out).2.1); (case side3 => repeat (first | exact (Kd.V_reads' HO_171008.out).2.2 | (with_reducible refine Kd.C_alloc ?_ _) | (with_reducible refine Kd.C_drewN ?_ _) | (with_reducible refine Kd.C_drew ?_))); (case side4 => exact (Kd.V_reads' HO_171008.out).2.1); rintro e w39 ⟨rfl, hb⟩; (try clear A32); replace HO_171008 := Aside0.mk (Kd.V_below (tV_ HO_171008) hb); replace HO_172008 := Aside0.mk (Kd.V_below (tV_ HO_172008) hb); replace BK170 := Aside0.mk (blk_below (tk_ BK170) hb); replace BK171 := Aside0.mk (blk_below (tk_ BK171) hb); replace HB := Aside0.mk (below_step (bw_ HB) hb); (try clear hb); (try clear hb2); (try clear hk); (try clear hi); (first | ((with_reducible refine gate_store_ rfl ?_); refine st9_ rfl rfl rfl rfl rfl (by with_reducible assumption) (by kernel_rfl) (by simp [Value.oneCell']) ?_; clear hcz38_0 hfz38_0 hcz38_1 hfz38_1 hcz38_2 hfz38_2 hcz38_3 hfz38_3 hcz38_4 hfz38_4 hcz38_5 hfz38_5 hcz38_6 hfz38_6 hcz38_7 hfz38_7 hcz38_8 hfz38_8; intro hb9_; have BN38 := Aside0.mk hb9_; clear hb9_) | skip)))
    go_meet
    case rel => exact ⟨_, ((t176 != t174)), (by first | rfl | (simp; done) | (simp [*]; done)), H', ⟨by have := HJ2.out; first | exact Nat.le_refl _ | omega⟩, ⟨tV_ HO_171008⟩, ⟨tV_ HO_172008⟩, ⟨tk_ BK170⟩, ⟨tk_ BK171⟩, ⟨by repeat (first | (with_reducible first | exact HB.out | apply b_a | apply b_n | apply b_d | refine b_s ?_ GE170.out | refine b_s ?_ GE171.out) | exact HB.out)⟩⟩
   case rest => as_aux_lemma =>
    clear HC21
    try clear c1
    try clear c2
    try clear p2
    try clear c3
    try clear c4
    try clear c7
    try clear c8
    try clear c8b0
    try clear c8b1
    try clear c10
    try clear c13
    try clear c14
    try clear c17
    try clear c22
    try clear c27
    try clear c27b0
    try clear c27b1
    try clear c27b2
    try clear c28
    try clear c33
    try clear hcz11_0
    try clear hcz11_1
    try clear hcz11_2
    try clear hcz11_3
    try clear hcz11_4
    try clear hcz11_5
    try clear hcz11_6
    try clear hcz11_7
    try clear hcz11_8
    try clear hcz14_0
    try clear hcz14_1
    try clear hcz14_2
    try clear hcz14_3
    try clear hcz14_4
    try clear hcz14_5
    try clear hcz14_6
    try clear hcz14_7
    try clear hcz14_8
    try clear hcz15_0
    try clear hcz15_1
    try clear hcz15_2
    try clear hcz15_3
    try clear hcz15_4
    try clear hcz15_5
    try clear hcz15_6
    try clear hcz15_7
    try clear hcz15_8
    try clear hcz23_0
    try clear hcz23_1
    try clear hcz23_2
    try clear hcz23_3
    try clear hcz23_4
    try clear hcz23_5
    try clear hcz23_6
    try clear hcz23_7
    try clear hcz23_8
    try clear hcz24_0
    try clear hcz24_1
    try clear hcz24_2
    try clear hcz24_3
    try clear hcz24_4
    try clear hcz24_5
    try clear hcz24_6
    try clear hcz24_7
    try clear hcz24_8
    try clear hcz29_0
    try clear hcz29_1
    try clear hcz29_2
    try clear hcz29_3
    try clear hcz29_4
    try clear hcz29_5
    try clear hcz29_6
    try clear hcz29_7
    try clear hcz29_8
    try clear hcz30_0
    try clear hcz30_1
    try clear hcz30_2
    try clear hcz30_3
    try clear hcz30_4
    try clear hcz30_5
    try clear hcz30_6
    try clear hcz30_7
    try clear hcz30_8
    try clear hcz34_0
    try clear hcz34_1
    try clear hcz34_2
    try clear hcz34_3
    try clear hcz34_4
    try clear hcz34_5
    try clear hcz34_6
    try clear hcz34_7
    try clear hcz34_8
    try clear hcz35_0
    try clear hcz35_1
    try clear hcz35_2
    try clear hcz35_3
    try clear hcz35_4
    try clear hcz35_5
    try clear hcz35_6
    try clear hcz35_7
    try clear hcz35_8
    try clear hcz37_0
    try clear hcz37_1
    try clear hcz37_2
    try clear hcz37_3
    try clear hcz37_4
    try clear hcz37_5
    try clear hcz37_6
    try clear hcz37_7
    try clear hcz37_8
    try clear hcz38_0
    try clear hcz38_1
    try clear hcz38_2
    try clear hcz38_3
    try clear hcz38_4
    try clear hcz38_5
    try clear hcz38_6
    try clear hcz38_7
    try clear hcz38_8
    try clear hfz11_0
    try clear hfz11_1
    try clear hfz11_2
    try clear hfz11_3
    try clear hfz11_4
    try clear hfz11_5
    try clear hfz11_6
    try clear hfz11_7
    try clear hfz11_8
    try clear hfz14_0
    try clear hfz14_1
    try clear hfz14_2
    try clear hfz14_3
    try clear hfz14_4
    try clear hfz14_5
    try clear hfz14_6
    try clear hfz14_7
    try clear hfz14_8
    try clear hfz15_0
    try clear hfz15_1
    try clear hfz15_2
    try clear hfz15_3
    try clear hfz15_4
    try clear hfz15_5
    try clear hfz15_6
    try clear hfz15_7
    try clear hfz15_8
    try clear hfz23_0
    try clear hfz23_1
    try clear hfz23_2
    try clear hfz23_3
    try clear hfz23_4
    try clear hfz23_5
    try clear hfz23_6
    try clear hfz23_7
    try clear hfz23_8
    try clear hfz24_0
    try clear hfz24_1
    try clear hfz24_2
    try clear hfz24_3
    try clear hfz24_4
    try clear hfz24_5
    try clear hfz24_6
    try clear hfz24_7
    try clear hfz24_8
    try clear hfz29_0
    try clear hfz29_1
    try clear hfz29_2
    try clear hfz29_3
    try clear hfz29_4
    try clear hfz29_5
    try clear hfz29_6
    try clear hfz29_7
    try clear hfz29_8
    try clear hfz30_0
    try clear hfz30_1
    try clear hfz30_2
    try clear hfz30_3
    try clear hfz30_4
    try clear hfz30_5
    try clear hfz30_6
    try clear hfz30_7
    try clear hfz30_8
    try clear hfz34_0
    try clear hfz34_1
    try clear hfz34_2
    try clear hfz34_3
    try clear hfz34_4
    try clear hfz34_5
    try clear hfz34_6
    try clear hfz34_7
    try clear hfz34_8
    try clear hfz35_0
    try clear hfz35_1
    try clear hfz35_2
    try clear hfz35_3
    try clear hfz35_4
    try clear hfz35_5
    try clear hfz35_6
    try clear hfz35_7
    try clear hfz35_8
    try clear hfz37_0
    try clear hfz37_1
    try clear hfz37_2
    try clear hfz37_3
    try clear hfz37_4
    try clear hfz37_5
    try clear hfz37_6
    try clear hfz37_7
    try clear hfz37_8
    try clear hfz38_0
    try clear hfz38_1
    try clear hfz38_2
    try clear hfz38_3
    try clear hfz38_4
    try clear hfz38_5
    try clear hfz38_6
    try clear hfz38_7
    try clear hfz38_8
    try clear p2
    obtain ⟨kq, x41_20, rfl, HA, HJ20, HO_171008, HO_172008, BK170, BK171, HB⟩ := hcut
    cases kq with
    | zero => exact absurd HA.out (by simp [pelotonlaw15_MsgApart.j1])
    | succ kj20 =>
     have H := HA.out
     clear HA
     simp only [pelotonlaw15_MsgApart.j1] at H
     by_cases c40 : x41_20 = true
     ·
      subst c40
      have H1 : (some false) = some r := by rw [if_pos rfl] at H; exact H
      clear H
      have H := H1
      clear H1
      obtain rfl := Option.some.inj H
      go_wp2_with (first | ((with_reducible refine gate_store_ rfl ?_); refine st1_ rfl rfl rfl rfl rfl (by with_reducible assumption) (by simp) (by kernel_rfl) ?_))
      go_ret
      exact ⟨by first | rfl | (simp [errW_none, errW_some] <;> rfl) | (simp [*, errW_none, errW_some] <;> rfl), by repeat (first | (with_reducible first | exact HB.out | apply b_a | apply b_n | apply b_d | refine b_s ?_ GE170.out | refine b_s ?_ GE171.out) | exact HB.out)⟩
     replace c40 := Bool.eq_false_iff.mpr c40
     subst c40
     have H1 : ((msg_Clone.f a0_0 a0_1 a0_2 a0_3 a0_4 a0_5 a0_6 a0_7 l0_8).bind fun bt177 => (pelotonlaw15_MsgApart.l0 kj20 t174 0 a0_0 a0_1 a0_2 a0_3 a0_4 a0_5 a0_6 a0_7 l0_8 a1_0 a1_1 a1_2 a1_3 a1_4 a1_5 a1_6 a1_7 l1_8 bt177.1 bt177.2.1 bt177.2.2.1 bt177.2.2.2.1 bt177.2.2.2.2.1 bt177.2.2.2.2.2.1 bt177.2.2.2.2.2.2.1 bt177.2.2.2.2.2.2.2.1 bt177.2.2.2.2.2.2.2.2)) = some r := by rw [if_neg (show ¬ (false = true) by decide)] at H; exact H
     clear H
     have H := H1
     clear H1
     replace H := Option.bind_eq_some_iff.mp H
     obtain ⟨⟨t177, t178, t179, t180, t181, t182, t183, t184, t185⟩, A410, H⟩ := H
     replace H : (pelotonlaw15_MsgApart.l0 kj20 t174 0 a0_0 a0_1 a0_2 a0_3 a0_4 a0_5 a0_6 a0_7 l0_8 a1_0 a1_1 a1_2 a1_3 a1_4 a1_5 a1_6 a1_7 l1_8 t177 t178 t179 t180 t181 t182 t183 t184 t185) = some r := H
     have A41 := Aside0.mk A410
     clear A410
     have H' := Aside0.mk H
     clear H
     have hnb42 := NB170_171.out
     have hnc42 := NB171_170.out
     have hcz43_0 := bc_0 BK170
     have hcz43_1 := bc_1 BK170
     have hcz43_2 := bc_2 BK170
     have hcz43_3 := bc_3 BK170
     have hcz43_4 := bc_4 BK170
     have hcz43_5 := bc_5 BK170
     have hcz43_6 := bc_6 BK170
     have hcz43_7 := bc_7 BK170
     have hcz43_8 : wc.cell? ⟨gb170, 8, none⟩ = some (.slice A0_8 l0_8.length c0_8) := (blk_cell BK170.out 8).trans rfl
     have hfz43_0 := blk_frozen BK170.out 0
     have hfz43_1 := blk_frozen BK170.out 1
     have hfz43_2 := blk_frozen BK170.out 2
     have hfz43_3 := blk_frozen BK170.out 3
     have hfz43_4 := blk_frozen BK170.out 4
     have hfz43_5 := blk_frozen BK170.out 5
     have hfz43_6 := blk_frozen BK170.out 6
     have hfz43_7 := blk_frozen BK170.out 7
     have hfz43_8 := blk_frozen BK170.out 8
     go_wp2_with (first | ((with_reducible refine gate_callee (f := 9) rfl ?_); refine goesL_ (some 43) rfl rfl Try.func9 (by kernel_rfl) rfl #[.agg #[.int .i64 a0_0, .int .i64 a0_1, .int .i64 a0_2, .int .i64 a0_3, .int .i64 a0_4, .int .i64 a0_5, .int .i64 a0_6, .int .i64 a0_7, .slice A0_8 l0_8.length c0_8]] rfl (by (try simp only [l_4, l_5, l_6]); first | done | rfl | (simp only [l_7, l_8]; rfl)) ?_; (with_reducible refine (msg_Clone.calls a0_0 a0_1 a0_2 a0_3 a0_4 a0_5 a0_6 a0_7 _ _ l0_8 t177 t178 t179 t180 t181 t182 t183 t184 t185 _ ?side1 ?side2 A41.out).mono ?_); (case side1 => repeat (first | exact (Kd.V_reads' HO_171008.out).2.2 | (with_reducible refine Kd.C_alloc ?_ _) | (with_reducible refine Kd.C_drewN ?_ _) | (with_reducible refine Kd.C_drew ?_))); (case side2 => exact (Kd.V_reads' HO_171008.out).2.1); rintro e w44 ⟨v186, rfl, ho0, hb⟩; (try clear A41); refine ⟨_, rfl, ?_⟩; have HO187 := Aside0.mk (Kd.R_lower (Kd.R_newM (M := fun k_ => (w.heap.size ≤ k_)) ho0 (below_size (bw_ HB)) (fun k_ h_ => h_)) (below_size (bw_ HB))); replace HO_171008 := Aside0.mk (Kd.V_elder' (tV_ HO_171008) (Kd.R_base ho0) hb); replace HO_172008 := Aside0.mk (Kd.V_elder' (tV_ HO_172008) (Kd.R_base ho0) hb); replace BK170 := Aside0.mk (blk_below (tk_ BK170) hb); replace BK171 := Aside0.mk (blk_below (tk_ BK171) hb); replace HB := Aside0.mk (below_step (bw_ HB) hb); (try clear hb); (try clear hb2); (try clear hk); (try clear hi); (try clear ho0)) | ((with_reducible refine gate_dst (N := 6) rfl ?_); (try (refine gate_guard (by rfl) ?_; dsimp only)); refine box_event ?hg (N := 6) ?hd (cs := #[.int .i64 0, .int .i64 0, .int .i64 0, .int .i64 0, .int .i64 0, .int .i64 0, .int .i64 0, .int .i64 0, .slice none 0 0]) (t := 24) ?hr ?_; (case hd => rfl); (case hg => rfl); (case hr => first | (go_simp; done) | (go_simp; rfl)); intro gb188 hg w45 hbox hb; have BK188 := Aside0.mk (hbox); have GW188 := Aside0.mk ((by rw [hg]; exact (below_size (bw_ HB)) : w.heap.size ≤ gb188)); have GE188 := Aside0.mk ((by rw [hg]; exact (below_size (bw_ HB)) : w.heap.size ≤ gb188)); have NB170_188 := Aside0.mk ((by rw [hg]; exact Nat.ne_of_lt (blk_lt (tk_ BK170)) : gb170 ≠ gb188)); have NB188_170 := Aside0.mk ((by rw [hg]; exact Nat.ne_of_gt (blk_lt (tk_ BK170)) : gb188 ≠ gb170)); have NB171_188 := Aside0.mk ((by rw [hg]; exact Nat.ne_of_lt (blk_lt (tk_ BK171)) : gb171 ≠ gb188)); have NB188_171 := Aside0.mk ((by rw [hg]; exact Nat.ne_of_gt (blk_lt (tk_ BK171)) : gb188 ≠ gb171)); replace HO_171008 := Aside0.mk (Kd.V_below (Kd.V_elderB (tV_ HO_171008) gb188 (Nat.le_of_eq hg.symm)) hb); replace HO_172008 := Aside0.mk (Kd.V_below (Kd.V_elderB (tV_ HO_172008) gb188 (Nat.le_of_eq hg.symm)) hb); replace HO187 := Aside0.mk (Kd.R_below (tR_ HO187) hb); replace BK170 := Aside0.mk (blk_below (tk_ BK170) hb); replace BK171 := Aside0.mk (blk_below (tk_ BK171) hb); replace HB := Aside0.mk (below_step (bw_ HB) hb); clear hb hbox hg; have hnb46 := NB188_170.out; have hnc46 := NB170_188.out; have hnb47 := NB188_171.out; have hnc47 := NB171_188.out; have hcz48_0 := bc_0 BK188; have hcz48_1 := bc_1 BK188; have hcz48_2 := bc_2 BK188; have hcz48_3 := bc_3 BK188; have hcz48_4 := bc_4 BK188; have hcz48_5 := bc_5 BK188; have hcz48_6 := bc_6 BK188; have hcz48_7 := bc_7 BK188; have hcz48_8 : w45.cell? ⟨gb188, 8, none⟩ = some (.slice none 0 0) := (blk_cell BK188.out 8).trans rfl; have hfz48_0 := blk_frozen BK188.out 0; have hfz48_1 := blk_frozen BK188.out 1; have hfz48_2 := blk_frozen BK188.out 2; have hfz48_3 := blk_frozen BK188.out 3; have hfz48_4 := blk_frozen BK188.out 4; have hfz48_5 := blk_frozen BK188.out 5; have hfz48_6 := blk_frozen BK188.out 6; have hfz48_7 := blk_frozen BK188.out 7; have hfz48_8 := blk_frozen BK188.out 8; obtain ⟨Ao49, co49, eo49⟩ := Kd.R_slice HO187.out; subst eo49; (first | ((with_reducible refine gate_store_ rfl ?_); refine st9_ rfl rfl rfl rfl rfl (by with_reducible assumption) (by kernel_rfl) (by simp [Value.oneCell']) ?_; clear hcz48_0 hfz48_0 hcz48_1 hfz48_1 hcz48_2 hfz48_2 hcz48_3 hfz48_3 hcz48_4 hfz48_4 hcz48_5 hfz48_5 hcz48_6 hfz48_6 hcz48_7 hfz48_7 hcz48_8 hfz48_8; intro hb9_; have BN48 := Aside0.mk hb9_; clear hb9_) | skip)))
     go_loopg [7] kj20 (fun kq v7 w' => ∃ (x7_3 : Int) (x171008_3 : List Int) (x172008_3 : List Int) (x189008_3 : List Int) (u171008 : Value) (u172008 : Value) (u189008 : Value), v7 = .int .i64 x7_3 ∧ Aside0 (pelotonlaw15_MsgApart.l0 kq t174 x7_3 a0_0 a0_1 a0_2 a0_3 a0_4 a0_5 a0_6 a0_7 x171008_3 a1_0 a1_1 a1_2 a1_3 a1_4 a1_5 a1_6 a1_7 x172008_3 t177 t178 t179 t180 t181 t182 t183 t184 x189008_3 = some r) ∧ Aside0 (kq ≤ kj20) ∧ Aside0 (Kd.V (Kd.int .i32) 21 w' w.heap.size (fun k_ => ((P0_8_ k_ ∨ P1_8_ k_) ∨ w.heap.size ≤ k_) ∧ some k_ ≠ (u189008 : Value).ownBlock ∧ k_ ≠ gb170 ∧ k_ ≠ gb171 ∧ k_ ≠ gb188) u171008 x171008_3) ∧ Aside0 (Kd.V (Kd.int .i32) 21 w' w.heap.size (fun k_ => ((P0_8_ k_ ∨ P1_8_ k_) ∨ w.heap.size ≤ k_) ∧ some k_ ≠ (u189008 : Value).ownBlock ∧ k_ ≠ gb170 ∧ k_ ≠ gb171 ∧ k_ ≠ gb188) u172008 x172008_3) ∧ Aside0 (Kd.R (Kd.int .i32) 21 w' w.heap.size (fun k_ => (w.heap.size ≤ k_)) u189008 x189008_3) ∧ Aside0 (w'.heap[gb170]? = some (.cells #[.int .i64 a0_0, .int .i64 a0_1, .int .i64 a0_2, .int .i64 a0_3, .int .i64 a0_4, .int .i64 a0_5, .int .i64 a0_6, .int .i64 a0_7, u171008] 24 (0, 0))) ∧ Aside0 (w'.heap[gb171]? = some (.cells #[.int .i64 a1_0, .int .i64 a1_1, .int .i64 a1_2, .int .i64 a1_3, .int .i64 a1_4, .int .i64 a1_5, .int .i64 a1_6, .int .i64 a1_7, u172008] 24 (0, 0))) ∧ Aside0 (w'.heap[gb188]? = some (.cells #[.int .i64 t177, .int .i64 t178, .int .i64 t179, .int .i64 t180, .int .i64 t181, .int .i64 t182, .int .i64 t183, .int .i64 t184, u189008] 24 (0, 0))) ∧ Aside0 (Below w.heap.size w w'))
     case atStart => exact ⟨(0), (l0_8), (l1_8), (t185), (.slice A0_8 l0_8.length c0_8), (.slice A1_8 l1_8.length c1_8), (.slice Ao49 t185.length co49), (by first | rfl | (simp; done) | (simp [*]; done)), H', ⟨Nat.le_refl _⟩, ⟨by (with_reducible repeat (first | apply Kd.V_alloc | apply Kd.V_drewN | apply Kd.V_drew)); exact Kd.V_mono (Kd.V_far (p := ⟨gb188, 8, none⟩) (Kd.V_far (p := ⟨gb188, 7, none⟩) (Kd.V_far (p := ⟨gb188, 6, none⟩) (Kd.V_far (p := ⟨gb188, 5, none⟩) (Kd.V_far (p := ⟨gb188, 4, none⟩) (Kd.V_far (p := ⟨gb188, 3, none⟩) (Kd.V_far (p := ⟨gb188, 2, none⟩) (Kd.V_far (p := ⟨gb188, 1, none⟩) (Kd.V_far (p := ⟨gb188, 0, none⟩) (Kd.V_mono HO_171008.out (fun k_ hk => (⟨hk, hk.2⟩ : _ ∧ k_ ≠ gb188))) (fun _ hk => hk.2) (.int .i64 t177)) (fun _ hk => hk.2) (.int .i64 t178)) (fun _ hk => hk.2) (.int .i64 t179)) (fun _ hk => hk.2) (.int .i64 t180)) (fun _ hk => hk.2) (.int .i64 t181)) (fun _ hk => hk.2) (.int .i64 t182)) (fun _ hk => hk.2) (.int .i64 t183)) (fun _ hk => hk.2) (.int .i64 t184)) (fun _ hk => hk.2) (.slice Ao49 t185.length co49)) (fun _ hk => ⟨hk.1.1.1.1, ⟨hk.1.1.2, ⟨hk.1.1.1.2.1, ⟨hk.1.1.1.2.2, hk.1.2⟩⟩⟩⟩)⟩, ⟨by (with_reducible repeat (first | apply Kd.V_alloc | apply Kd.V_drewN | apply Kd.V_drew)); exact Kd.V_mono (Kd.V_far (p := ⟨gb188, 8, none⟩) (Kd.V_far (p := ⟨gb188, 7, none⟩) (Kd.V_far (p := ⟨gb188, 6, none⟩) (Kd.V_far (p := ⟨gb188, 5, none⟩) (Kd.V_far (p := ⟨gb188, 4, none⟩) (Kd.V_far (p := ⟨gb188, 3, none⟩) (Kd.V_far (p := ⟨gb188, 2, none⟩) (Kd.V_far (p := ⟨gb188, 1, none⟩) (Kd.V_far (p := ⟨gb188, 0, none⟩) (Kd.V_mono HO_172008.out (fun k_ hk => (⟨hk, hk.2⟩ : _ ∧ k_ ≠ gb188))) (fun _ hk => hk.2) (.int .i64 t177)) (fun _ hk => hk.2) (.int .i64 t178)) (fun _ hk => hk.2) (.int .i64 t179)) (fun _ hk => hk.2) (.int .i64 t180)) (fun _ hk => hk.2) (.int .i64 t181)) (fun _ hk => hk.2) (.int .i64 t182)) (fun _ hk => hk.2) (.int .i64 t183)) (fun _ hk => hk.2) (.int .i64 t184)) (fun _ hk => hk.2) (.slice Ao49 t185.length co49)) (fun _ hk => ⟨hk.1.1.1.1, ⟨hk.1.1.2, ⟨hk.1.1.1.2.1, ⟨hk.1.1.1.2.2, hk.1.2⟩⟩⟩⟩)⟩, ⟨by (with_reducible repeat (first | apply Kd.R_alloc | apply Kd.R_drewN | apply Kd.R_drew)); exact Kd.R_mono (Kd.R_far (p := ⟨gb188, 8, none⟩) (Kd.R_far (p := ⟨gb188, 7, none⟩) (Kd.R_far (p := ⟨gb188, 6, none⟩) (Kd.R_far (p := ⟨gb188, 5, none⟩) (Kd.R_far (p := ⟨gb188, 4, none⟩) (Kd.R_far (p := ⟨gb188, 3, none⟩) (Kd.R_far (p := ⟨gb188, 2, none⟩) (Kd.R_far (p := ⟨gb188, 1, none⟩) (Kd.R_far (p := ⟨gb188, 0, none⟩) (Kd.R_types HO187.out BK188.out (by decide)) (fun _ hk => hk.2) (.int .i64 t177)) (fun _ hk => hk.2) (.int .i64 t178)) (fun _ hk => hk.2) (.int .i64 t179)) (fun _ hk => hk.2) (.int .i64 t180)) (fun _ hk => hk.2) (.int .i64 t181)) (fun _ hk => hk.2) (.int .i64 t182)) (fun _ hk => hk.2) (.int .i64 t183)) (fun _ hk => hk.2) (.int .i64 t184)) (fun _ hk => hk.2) (.slice Ao49 t185.length co49)) (fun _ hk => hk.1.1)⟩, ⟨by (with_reducible repeat (first | refine k_n ?_ _ | refine k_d ?_ | refine k_a ?_ _)); refine blk_far ?_ NB170_188.out _; (with_reducible repeat (first | refine k_n ?_ _ | refine k_d ?_ | refine k_a ?_ _)); refine blk_far ?_ NB170_188.out _; (with_reducible repeat (first | refine k_n ?_ _ | refine k_d ?_ | refine k_a ?_ _)); refine blk_far ?_ NB170_188.out _; (with_reducible repeat (first | refine k_n ?_ _ | refine k_d ?_ | refine k_a ?_ _)); refine blk_far ?_ NB170_188.out _; (with_reducible repeat (first | refine k_n ?_ _ | refine k_d ?_ | refine k_a ?_ _)); refine blk_far ?_ NB170_188.out _; (with_reducible repeat (first | refine k_n ?_ _ | refine k_d ?_ | refine k_a ?_ _)); refine blk_far ?_ NB170_188.out _; (with_reducible repeat (first | refine k_n ?_ _ | refine k_d ?_ | refine k_a ?_ _)); refine blk_far ?_ NB170_188.out _; (with_reducible repeat (first | refine k_n ?_ _ | refine k_d ?_ | refine k_a ?_ _)); refine blk_far ?_ NB170_188.out _; (with_reducible repeat (first | refine k_n ?_ _ | refine k_d ?_ | refine k_a ?_ _)); refine blk_far ?_ NB170_188.out _; (with_reducible repeat (first | refine k_n ?_ _ | refine k_d ?_ | refine k_a ?_ _)); exact BK170.out⟩, ⟨by (with_reducible repeat (first | refine k_n ?_ _ | refine k_d ?_ | refine k_a ?_ _)); refine blk_far ?_ NB171_188.out _; (with_reducible repeat (first | refine k_n ?_ _ | refine k_d ?_ | refine k_a ?_ _)); refine blk_far ?_ NB171_188.out _; (with_reducible repeat (first | refine k_n ?_ _ | refine k_d ?_ | refine k_a ?_ _)); refine blk_far ?_ NB171_188.out _; (with_reducible repeat (first | refine k_n ?_ _ | refine k_d ?_ | refine k_a ?_ _)); refine blk_far ?_ NB171_188.out _; (with_reducible repeat (first | refine k_n ?_ _ | refine k_d ?_ | refine k_a ?_ _)); refine blk_far ?_ NB171_188.out _; (with_reducible repeat (first | refine k_n ?_ _ | refine k_d ?_ | refine k_a ?_ _)); refine blk_far ?_ NB171_188.out _; (with_reducible repeat (first | refine k_n ?_ _ | refine k_d ?_ | refine k_a ?_ _)); refine blk_far ?_ NB171_188.out _; (with_reducible repeat (first | refine k_n ?_ _ | refine k_d ?_ | refine k_a ?_ _)); refine blk_far ?_ NB171_188.out _; (with_reducible repeat (first | refine k_n ?_ _ | refine k_d ?_ | refine k_a ?_ _)); refine blk_far ?_ NB171_188.out _; (with_reducible repeat (first | refine k_n ?_ _ | refine k_d ?_ | refine k_a ?_ _)); exact BK171.out⟩, ⟨by (with_reducible repeat (first | refine k_n ?_ _ | refine k_d ?_ | refine k_a ?_ _)); refine blk_put (cs := #[.int .i64 t177, .int .i64 t178, .int .i64 t179, .int .i64 t180, .int .i64 t181, .int .i64 t182, .int .i64 t183, .int .i64 t184, .slice none 0 0]) ?_ 8 _ rfl; (with_reducible repeat (first | refine k_n ?_ _ | refine k_d ?_ | refine k_a ?_ _)); refine blk_put (cs := #[.int .i64 t177, .int .i64 t178, .int .i64 t179, .int .i64 t180, .int .i64 t181, .int .i64 t182, .int .i64 t183, .int .i64 0, .slice none 0 0]) ?_ 7 _ rfl; (with_reducible repeat (first | refine k_n ?_ _ | refine k_d ?_ | refine k_a ?_ _)); refine blk_put (cs := #[.int .i64 t177, .int .i64 t178, .int .i64 t179, .int .i64 t180, .int .i64 t181, .int .i64 t182, .int .i64 0, .int .i64 0, .slice none 0 0]) ?_ 6 _ rfl; (with_reducible repeat (first | refine k_n ?_ _ | refine k_d ?_ | refine k_a ?_ _)); refine blk_put (cs := #[.int .i64 t177, .int .i64 t178, .int .i64 t179, .int .i64 t180, .int .i64 t181, .int .i64 0, .int .i64 0, .int .i64 0, .slice none 0 0]) ?_ 5 _ rfl; (with_reducible repeat (first | refine k_n ?_ _ | refine k_d ?_ | refine k_a ?_ _)); refine blk_put (cs := #[.int .i64 t177, .int .i64 t178, .int .i64 t179, .int .i64 t180, .int .i64 0, .int .i64 0, .int .i64 0, .int .i64 0, .slice none 0 0]) ?_ 4 _ rfl; (with_reducible repeat (first | refine k_n ?_ _ | refine k_d ?_ | refine k_a ?_ _)); refine blk_put (cs := #[.int .i64 t177, .int .i64 t178, .int .i64 t179, .int .i64 0, .int .i64 0, .int .i64 0, .int .i64 0, .int .i64 0, .slice none 0 0]) ?_ 3 _ rfl; (with_reducible repeat (first | refine k_n ?_ _ | refine k_d ?_ | refine k_a ?_ _)); refine blk_put (cs := #[.int .i64 t177, .int .i64 t178, .int .i64 0, .int .i64 0, .int .i64 0, .int .i64 0, .int .i64 0, .int .i64 0, .slice none 0 0]) ?_ 2 _ rfl; (with_reducible repeat (first | refine k_n ?_ _ | refine k_d ?_ | refine k_a ?_ _)); refine blk_put (cs := #[.int .i64 t177, .int .i64 0, .int .i64 0, .int .i64 0, .int .i64 0, .int .i64 0, .int .i64 0, .int .i64 0, .slice none 0 0]) ?_ 1 _ rfl; (with_reducible repeat (first | refine k_n ?_ _ | refine k_d ?_ | refine k_a ?_ _)); refine blk_put (cs := #[.int .i64 0, .int .i64 0, .int .i64 0, .int .i64 0, .int .i64 0, .int .i64 0, .int .i64 0, .int .i64 0, .slice none 0 0]) ?_ 0 _ rfl; (with_reducible repeat (first | refine k_n ?_ _ | refine k_d ?_ | refine k_a ?_ _)); exact BK188.out⟩, ⟨by repeat (first | (with_reducible first | exact HB.out | apply b_a | apply b_n | apply b_d | refine b_s ?_ GE170.out | refine b_s ?_ GE171.out | refine b_s ?_ GE188.out) | exact HB.out)⟩⟩
     case round =>
      clear H'
      try clear c1
      try clear c2
      try clear p2
      try clear c3
      try clear c4
      try clear c7
      try clear c8
      try clear c8b0
      try clear c8b1
      try clear c9
      try clear c10
      try clear c13
      try clear c14
      try clear c17
      try clear c22
      try clear c27
      try clear c27b0
      try clear c27b1
      try clear c27b2
      try clear c28
      try clear c33
      try clear c40
      try clear c42
      try clear c46
      try clear c47
      try clear hcz11_0
      try clear hcz11_1
      try clear hcz11_2
      try clear hcz11_3
      try clear hcz11_4
      try clear hcz11_5
      try clear hcz11_6
      try clear hcz11_7
      try clear hcz11_8
      try clear hcz14_0
      try clear hcz14_1
      try clear hcz14_2
      try clear hcz14_3
      try clear hcz14_4
      try clear hcz14_5
      try clear hcz14_6
      try clear hcz14_7
      try clear hcz14_8
      try clear hcz15_0
      try clear hcz15_1
      try clear hcz15_2
      try clear hcz15_3
      try clear hcz15_4
      try clear hcz15_5
      try clear hcz15_6
      try clear hcz15_7
      try clear hcz15_8
      try clear hcz23_0
      try clear hcz23_1
      try clear hcz23_2
      try clear hcz23_3
      try clear hcz23_4
      try clear hcz23_5
      try clear hcz23_6
      try clear hcz23_7
      try clear hcz23_8
      try clear hcz24_0
      try clear hcz24_1
      try clear hcz24_2
      try clear hcz24_3
      try clear hcz24_4
      try clear hcz24_5
      try clear hcz24_6
      try clear hcz24_7
      try clear hcz24_8
      try clear hcz29_0
      try clear hcz29_1
      try clear hcz29_2
      try clear hcz29_3
      try clear hcz29_4
      try clear hcz29_5
      try clear hcz29_6
      try clear hcz29_7
      try clear hcz29_8
      try clear hcz30_0
      try clear hcz30_1
      try clear hcz30_2
      try clear hcz30_3
      try clear hcz30_4
      try clear hcz30_5
      try clear hcz30_6
      try clear hcz30_7
      try clear hcz30_8
      try clear hcz34_0
      try clear hcz34_1
      try clear hcz34_2
      try clear hcz34_3
      try clear hcz34_4
      try clear hcz34_5
      try clear hcz34_6
      try clear hcz34_7
      try clear hcz34_8
      try clear hcz35_0
      try clear hcz35_1
      try clear hcz35_2
      try clear hcz35_3
      try clear hcz35_4
      try clear hcz35_5
      try clear hcz35_6
      try clear hcz35_7
      try clear hcz35_8
      try clear hcz37_0
      try clear hcz37_1
      try clear hcz37_2
      try clear hcz37_3
      try clear hcz37_4
      try clear hcz37_5
      try clear hcz37_6
      try clear hcz37_7
      try clear hcz37_8
      try clear hcz38_0
      try clear hcz38_1
      try clear hcz38_2
      try clear hcz38_3
      try clear hcz38_4
      try clear hcz38_5
      try clear hcz38_6
      try clear hcz38_7
      try clear hcz38_8
      try clear hcz43_0
      try clear hcz43_1
      try clear hcz43_2
      try clear hcz43_3
      try clear hcz43_4
      try clear hcz43_5
      try clear hcz43_6
      try clear hcz43_7
      try clear hcz43_8
      try clear hcz48_0
      try clear hcz48_1
      try clear hcz48_2
      try clear hcz48_3
      try clear hcz48_4
      try clear hcz48_5
      try clear hcz48_6
      try clear hcz48_7
      try clear hcz48_8
      try clear hfz11_0
      try clear hfz11_1
      try clear hfz11_2
      try clear hfz11_3
      try clear hfz11_4
      try clear hfz11_5
      try clear hfz11_6
      try clear hfz11_7
      try clear hfz11_8
      try clear hfz14_0
      try clear hfz14_1
      try clear hfz14_2
      try clear hfz14_3
      try clear hfz14_4
      try clear hfz14_5
      try clear hfz14_6
      try clear hfz14_7
      try clear hfz14_8
      try clear hfz15_0
      try clear hfz15_1
      try clear hfz15_2
      try clear hfz15_3
      try clear hfz15_4
      try clear hfz15_5
      try clear hfz15_6
      try clear hfz15_7
      try clear hfz15_8
      try clear hfz23_0
      try clear hfz23_1
      try clear hfz23_2
      try clear hfz23_3
      try clear hfz23_4
      try clear hfz23_5
      try clear hfz23_6
      try clear hfz23_7
      try clear hfz23_8
      try clear hfz24_0
      try clear hfz24_1
      try clear hfz24_2
      try clear hfz24_3
      try clear hfz24_4
      try clear hfz24_5
      try clear hfz24_6
      try clear hfz24_7
      try clear hfz24_8
      try clear hfz29_0
      try clear hfz29_1
      try clear hfz29_2
      try clear hfz29_3
      try clear hfz29_4
      try clear hfz29_5
      try clear hfz29_6
      try clear hfz29_7
      try clear hfz29_8
      try clear hfz30_0
      try clear hfz30_1
      try clear hfz30_2
      try clear hfz30_3
      try clear hfz30_4
      try clear hfz30_5
      try clear hfz30_6
      try clear hfz30_7
      try clear hfz30_8
      try clear hfz34_0
      try clear hfz34_1
      try clear hfz34_2
      try clear hfz34_3
      try clear hfz34_4
      try clear hfz34_5
      try clear hfz34_6
      try clear hfz34_7
      try clear hfz34_8
      try clear hfz35_0
      try clear hfz35_1
      try clear hfz35_2
      try clear hfz35_3
      try clear hfz35_4
      try clear hfz35_5
      try clear hfz35_6
      try clear hfz35_7
      try clear hfz35_8
      try clear hfz37_0
      try clear hfz37_1
      try clear hfz37_2
      try clear hfz37_3
      try clear hfz37_4
      try clear hfz37_5
      try clear hfz37_6
      try clear hfz37_7
      try clear hfz37_8
      try clear hfz38_0
      try clear hfz38_1
      try clear hfz38_2
      try clear hfz38_3
      try clear hfz38_4
      try clear hfz38_5
      try clear hfz38_6
      try clear hfz38_7
      try clear hfz38_8
      try clear hfz43_0
      try clear hfz43_1
      try clear hfz43_2
      try clear hfz43_3
      try clear hfz43_4
      try clear hfz43_5
      try clear hfz43_6
      try clear hfz43_7
      try clear hfz43_8
      try clear hfz48_0
      try clear hfz48_1
      try clear hfz48_2
      try clear hfz48_3
      try clear hfz48_4
      try clear hfz48_5
      try clear hfz48_6
      try clear hfz48_7
      try clear hfz48_8
      try clear p2
      obtain ⟨x7_3, x171008_3, x172008_3, x189008_3, u171008, u172008, u189008, rfl, HA, HK3, HO_171008, HO_172008, HO_189008, BK170, BK171, BK188, HB⟩ := hrel
      cases gk with
      | zero => exact absurd HA.out (by simp [pelotonlaw15_MsgApart.l0])
      | succ k3 =>
       have H := HA.out
       clear HA
       simp only [pelotonlaw15_MsgApart.l0] at H
       by_cases c50 : x7_3 < (x189008_3.length : Int)
       ·
        rw [if_pos c50] at H
        have c50b0 : decide (x7_3 < (x189008_3.length : Int)) = true := decide_eq_true c50
        clear c50
        by_cases c51 : 0 ≤ x7_3
        rotate_left
        ·
         rw [if_neg c51] at H
         exact absurd H (by simp)
        rw [if_pos c51] at H
        have c51b0 : decide (0 ≤ x7_3) = true := decide_eq_true c51
        clear c51
        obtain ⟨y190, hy190⟩ : ∃ y_ : List Int, y_ = (x189008_3.set (x7_3 : Int).toNat (wrap32 ((rd x189008_3 x7_3) + 1))) := ⟨_, rfl⟩
        replace H : (pelotonlaw15_MsgApart.l0 k3 t174 (wrap64 (x7_3 + 1)) a0_0 a0_1 a0_2 a0_3 a0_4 a0_5 a0_6 a0_7 x171008_3 a1_0 a1_1 a1_2 a1_3 a1_4 a1_5 a1_6 a1_7 x172008_3 t177 t178 t179 t180 t181 t182 t183 t184 y190) = some r := by first | (rw [hy190]; with_reducible exact H) | (have H2_ := (Option.bind_some _ _).symm.trans H; rw [hy190]; with_reducible exact H2_) | (have H2_ := (Option.bind_some _ _).symm.trans H; with_reducible exact H2_) | with_reducible exact H | (rw [hy190]; exact H) | exact H
        have Ny190 := Aside0.mk hy190
        clear hy190
        have H' := Aside0.mk H
        clear H
        have hnb53 := NB188_170.out
        have hnc53 := NB170_188.out
        have hnb54 := NB188_171.out
        have hnc54 := NB171_188.out
        have hcz55_0 := bc_0 BK188
        have hcz55_1 := bc_1 BK188
        have hcz55_2 := bc_2 BK188
        have hcz55_3 := bc_3 BK188
        have hcz55_4 := bc_4 BK188
        have hcz55_5 := bc_5 BK188
        have hcz55_6 := bc_6 BK188
        have hcz55_7 := bc_7 BK188
        have hcz55_8 : wr.cell? ⟨gb188, 8, none⟩ = some (u189008) := (blk_cell BK188.out 8).trans rfl
        have hfz55_0 := blk_frozen BK188.out 0
        have hfz55_1 := blk_frozen BK188.out 1
        have hfz55_2 := blk_frozen BK188.out 2
        have hfz55_3 := blk_frozen BK188.out 3
        have hfz55_4 := blk_frozen BK188.out 4
        have hfz55_5 := blk_frozen BK188.out 5
        have hfz55_6 := blk_frozen BK188.out 6
        have hfz55_7 := blk_frozen BK188.out 7
        have hfz55_8 := blk_frozen BK188.out 8
        obtain ⟨Ao56, co56, eo56⟩ := Kd.R_slice HO_189008.out
        subst eo56
        have p189 : 0 ≤ (x7_3 : Int) := of_decide_eq_true (by first | (with_reducible assumption) | assumption)
        have q189 : x7_3 < (x189008_3.length : Int) := of_decide_eq_true (by first | (with_reducible assumption) | assumption)
        obtain ⟨ad189, e189, hx189_0⟩ := Kd.at_int (Kd.R_reads' HO_189008.out).2.2 x7_3 p189 q189
        cases e189
        replace p189 := eq_true p189
        replace q189 := eq_true q189
        have p52 : 0 ≤ (x7_3 : Int) := of_decide_eq_true (by first | (with_reducible assumption) | assumption)
        have q52 : (x7_3 : Int) < ((x189008_3.length : Int) : Int) := of_decide_eq_true (by first | (with_reducible assumption) | assumption)
        obtain ⟨go52, co52, eo52, gb52, gl52, cl52, HG52⟩ := Kd.R_form HO_189008.out (by omega)
        (first | cases eo52 | (injection eo52 with ea_ en_ ec_; (first | subst ea_ | (injection ea_ with ea_; subst ea_)); subst ec_; clear en_))
        have GB52 := Aside0.mk gb52
        have GG52 := Aside0.mk HG52
        clear gb52 gl52 HG52
        (first | simp only [add_plain] at hx189_0 | skip)
        obtain ⟨hx52_0, hf52_0⟩ := Kd.R_celln 0 HO_189008.out (x7_3 : Int) p52 q52
        replace p52 := eq_true p52
        replace q52 := eq_true q52
        have HP57 := Kd.R_putg HO_189008.out (x7_3 : Int) (wrap32 ((rd x189008_3 x7_3) + 1))
        go_wp2_with (first | ((with_reducible refine gate_store (t := 21) (p := 57) rfl ?_); refine store_event (t := 21) (p := 57) (v := ?vo_w58) (w1 := (wr.setCell ⟨go52, (x7_3 : Int).toNat, none⟩ (.int .i32 (wrap32 ((rd x189008_3 x7_3) + 1))))) ?hg ?ho ?hn ?hr ?_; (case ho => rfl); (case hg => rfl); (case hn => rfl); (case hr => first | (go_simp; done) | (go_simp; rfl)); intro w58 hw; have hg : wr.grownBy w58 (some go52) := (by rw [hw]; exact HP57.2); have hp_ : Kd.R (Kd.int .i32) 21 w58 w.heap.size (fun k_ => (w.heap.size ≤ k_)) (.slice (some ⟨go52, 0, none⟩) x189008_3.length co56) y190 := (by rw [hw, Ny190.out]; exact HP57.1); clear HP57; replace HO_171008 := Aside0.mk (Kd.V_afterv (v := (.slice (some ⟨go52, 0, none⟩) x189008_3.length co56)) (v1 := (.slice (some ⟨go52, 0, none⟩) x189008_3.length co56)) (ok := (fun k_ => ((P0_8_ k_ ∨ P1_8_ k_) ∨ w.heap.size ≤ k_) ∧ k_ ≠ gb170 ∧ k_ ≠ gb171 ∧ k_ ≠ gb188)) (by (with_reducible repeat (first | apply Kd.V_alloc | apply Kd.V_drewN | apply Kd.V_drew)); exact Kd.V_mono HO_171008.out (fun _ hk => ⟨⟨hk.1, ⟨hk.2.2.1, ⟨hk.2.2.2.1, hk.2.2.2.2⟩⟩⟩, hk.2.1⟩)) hg (.inl rfl)); replace HO_172008 := Aside0.mk (Kd.V_afterv (v := (.slice (some ⟨go52, 0, none⟩) x189008_3.length co56)) (v1 := (.slice (some ⟨go52, 0, none⟩) x189008_3.length co56)) (ok := (fun k_ => ((P0_8_ k_ ∨ P1_8_ k_) ∨ w.heap.size ≤ k_) ∧ k_ ≠ gb170 ∧ k_ ≠ gb171 ∧ k_ ≠ gb188)) (by (with_reducible repeat (first | apply Kd.V_alloc | apply Kd.V_drewN | apply Kd.V_drew)); exact Kd.V_mono HO_172008.out (fun _ hk => ⟨⟨hk.1, ⟨hk.2.2.1, ⟨hk.2.2.2.1, hk.2.2.2.2⟩⟩⟩, hk.2.1⟩)) hg (.inl rfl)); replace BK170 := Aside0.mk (blk_grown (tk_ BK170) hg (Kd.R_ne HO_189008.out BK170.out (by decide))); replace BK171 := Aside0.mk (blk_grown (tk_ BK171) hg (Kd.R_ne HO_189008.out BK171.out (by decide))); replace BK188 := Aside0.mk (blk_grown (tk_ BK188) hg (Kd.R_ne HO_189008.out BK188.out (by decide))); replace HO_189008 := Aside0.mk (hp_); replace HB := Aside0.mk ((by rw [hw]; exact b_s (HB.out) GB52.out : Below w.heap.size w w58)); clear hg hw hp_))
        go_roundg k3
        case measure => have := HJ2.out; have := HJ20.out; have := HK3.out; omega
        case rel => exact ⟨(wrap64 (x7_3 + 1)), (x171008_3), (x172008_3), (y190), (u171008), (u172008), (.slice (some ⟨go52, 0, none⟩) x189008_3.length co56), (by first | rfl | (simp; done) | (simp [*]; done)), H', ⟨by have := HJ2.out; have := HJ20.out; have := HK3.out; omega⟩, ⟨by (with_reducible repeat (first | apply Kd.V_alloc | apply Kd.V_drewN | apply Kd.V_drew)); exact Kd.V_mono HO_171008.out (fun _ hk => ⟨hk.1.1, ⟨hk.2, ⟨hk.1.2.1, ⟨hk.1.2.2.1, hk.1.2.2.2⟩⟩⟩⟩)⟩, ⟨by (with_reducible repeat (first | apply Kd.V_alloc | apply Kd.V_drewN | apply Kd.V_drew)); exact Kd.V_mono HO_172008.out (fun _ hk => ⟨hk.1.1, ⟨hk.2, ⟨hk.1.2.1, ⟨hk.1.2.2.1, hk.1.2.2.2⟩⟩⟩⟩)⟩, ⟨tR_ HO_189008⟩, ⟨tk_ BK170⟩, ⟨tk_ BK171⟩, ⟨tk_ BK188⟩, ⟨by repeat (first | (with_reducible first | exact HB.out | apply b_a | apply b_n | apply b_d | refine b_s ?_ GE170.out | refine b_s ?_ GE171.out | refine b_s ?_ GE188.out) | exact HB.out)⟩⟩
       rw [if_neg c50] at H
       have c50b0 : decide (x7_3 < (x189008_3.length : Int)) = false := decide_eq_false c50
       clear c50
       have HC59 := Aside0.mk H
       clear H
       have hnb60 := NB188_170.out
       have hnc60 := NB170_188.out
       have hnb61 := NB188_171.out
       have hnc61 := NB171_188.out
       have hcz62_0 := bc_0 BK188
       have hcz62_1 := bc_1 BK188
       have hcz62_2 := bc_2 BK188
       have hcz62_3 := bc_3 BK188
       have hcz62_4 := bc_4 BK188
       have hcz62_5 := bc_5 BK188
       have hcz62_6 := bc_6 BK188
       have hcz62_7 := bc_7 BK188
       have hcz62_8 : wr.cell? ⟨gb188, 8, none⟩ = some (u189008) := (blk_cell BK188.out 8).trans rfl
       have hfz62_0 := blk_frozen BK188.out 0
       have hfz62_1 := blk_frozen BK188.out 1
       have hfz62_2 := blk_frozen BK188.out 2
       have hfz62_3 := blk_frozen BK188.out 3
       have hfz62_4 := blk_frozen BK188.out 4
       have hfz62_5 := blk_frozen BK188.out 5
       have hfz62_6 := blk_frozen BK188.out 6
       have hfz62_7 := blk_frozen BK188.out 7
       have hfz62_8 := blk_frozen BK188.out 8
       obtain ⟨Ao63, co63, eo63⟩ := Kd.R_slice HO_189008.out
       subst eo63
       go_upto_region 11 with (fail)
       go_cut [77] (fun v77 wc => ∃ (kq : Nat) (x77_58 : Bool), v77 = .bool x77_58 ∧ Aside0 (pelotonlaw15_MsgApart.j3 kq t174 x77_58 a0_0 a0_1 a0_2 a0_3 a0_4 a0_5 a0_6 a0_7 x171008_3 a1_0 a1_1 a1_2 a1_3 a1_4 a1_5 a1_6 a1_7 x172008_3 = some r) ∧ Aside0 (kq ≤ k3) ∧ Aside0 (Kd.V (Kd.int .i32) 21 wc w.heap.size (fun k_ => ((P0_8_ k_ ∨ P1_8_ k_) ∨ w.heap.size ≤ k_) ∧ some k_ ≠ ((.slice Ao63 x189008_3.length co63) : Value).ownBlock ∧ k_ ≠ gb170 ∧ k_ ≠ gb171 ∧ k_ ≠ gb188) u171008 x171008_3) ∧ Aside0 (Kd.V (Kd.int .i32) 21 wc w.heap.size (fun k_ => ((P0_8_ k_ ∨ P1_8_ k_) ∨ w.heap.size ≤ k_) ∧ some k_ ≠ ((.slice Ao63 x189008_3.length co63) : Value).ownBlock ∧ k_ ≠ gb170 ∧ k_ ≠ gb171 ∧ k_ ≠ gb188) u172008 x172008_3) ∧ Aside0 (Kd.R (Kd.int .i32) 21 wc w.heap.size (fun k_ => (w.heap.size ≤ k_)) (.slice Ao63 x189008_3.length co63) x189008_3) ∧ Aside0 (wc.heap[gb170]? = some (.cells #[.int .i64 a0_0, .int .i64 a0_1, .int .i64 a0_2, .int .i64 a0_3, .int .i64 a0_4, .int .i64 a0_5, .int .i64 a0_6, .int .i64 a0_7, u171008] 24 (0, 0))) ∧ Aside0 (wc.heap[gb171]? = some (.cells #[.int .i64 a1_0, .int .i64 a1_1, .int .i64 a1_2, .int .i64 a1_3, .int .i64 a1_4, .int .i64 a1_5, .int .i64 a1_6, .int .i64 a1_7, u172008] 24 (0, 0))) ∧ Aside0 (wc.heap[gb188]? = some (.cells #[.int .i64 t177, .int .i64 t178, .int .i64 t179, .int .i64 t180, .int .i64 t181, .int .i64 t182, .int .i64 t183, .int .i64 t184, (.slice Ao63 x189008_3.length co63)] 24 (0, 0))) ∧ Aside0 (Below w.heap.size w wc))
       case first =>
        have H := HC59.out
        clear HC59
        by_cases c64 : (x189008_3.length : Int) > 0
        rotate_left
        ·
         rw [if_neg c64] at H
         have c64b0 : decide (0 < (x189008_3.length : Int)) = false := decide_eq_false c64
         have c64b1 : decide (0 < x189008_3.length) = false := decide_eq_false (by omega)
         clear c64
         (first | rw [c64b0] | (simp only [i64_w, i32_w]; rw [c64b0]) | skip)
         have H' := Aside0.mk H
         clear H
         try go_wp2
         replace HO_171008 := Aside0.mk (Kd.V_drew HO_171008.out)
         replace HO_172008 := Aside0.mk (Kd.V_drew HO_172008.out)
         replace HO_189008 := Aside0.mk (Kd.R_drew HO_189008.out)
         replace BK170 := Aside0.mk (k_d BK170.out)
         replace BK171 := Aside0.mk (k_d BK171.out)
         replace BK188 := Aside0.mk (k_d BK188.out)
         replace HB := Aside0.mk (b_d HB.out)
         refine start_ (n := 20) (S := fun w' => w'.cell? ⟨gb188, 0, none⟩ = some (.int .i64 t177) ∧ w'.cell? ⟨gb188, 1, none⟩ = some (.int .i64 t178) ∧ w'.cell? ⟨gb188, 2, none⟩ = some (.int .i64 t179) ∧ w'.cell? ⟨gb188, 3, none⟩ = some (.int .i64 t180) ∧ w'.cell? ⟨gb188, 4, none⟩ = some (.int .i64 t181) ∧ w'.cell? ⟨gb188, 5, none⟩ = some (.int .i64 t182) ∧ w'.cell? ⟨gb188, 6, none⟩ = some (.int .i64 t183) ∧ w'.cell? ⟨gb188, 7, none⟩ = some (.int .i64 t184) ∧ w'.cell? ⟨gb188, 8, none⟩ = some (.slice Ao63 x189008_3.length co63)) (ds := []) #[false, false, false, false, false, false, false, false, false, false, false, false, false, false, false, false, false, false, false, false] (by kernel_rfl) rfl rfl ⟨(blk_cell BK188.out 0).trans rfl, (blk_cell BK188.out 1).trans rfl, (blk_cell BK188.out 2).trans rfl, (blk_cell BK188.out 3).trans rfl, (blk_cell BK188.out 4).trans rfl, (blk_cell BK188.out 5).trans rfl, (blk_cell BK188.out 6).trans rfl, (blk_cell BK188.out 7).trans rfl, (blk_cell BK188.out 8).trans rfl⟩ (fun hHeld => ?_); refine with_tabW pelotonlaw15_MsgApart.tab11 pelotonlaw15_MsgApart.bits11 (fun HT_ HW_ => ?_)
         generalize wr.drew = w75 at HO_171008 HO_172008 HO_189008 BK170 BK171 BK188 HB hHeld ⊢
         refine pu_ (i := 0) (N := some 58) (bs_ 20 1) rfl rfl HT_ ?_
         refine take_ (i := 1) (N := some 59) (v := ?_) (a' := ?_) (bs_ 20 3) rfl rfl (take_ofW HT_.out HW_.out (by kernel_rfl)) (fun _ _ _ h => h) (Or.inl ⟨by rfl, ?_⟩) hHeld ?_ ?_
         rotate_left
         ·
          rintro w' ⟨s0, s1, s2, s3, s4, s5, s6, s7, s8⟩
          go_simp
          with_reducible rfl
         rotate_left
         ·
          simp only [Act.put, l_1, l_2, l_3, i64_w, i32_w]
          rfl
         refine pu_ (i := 2) (N := some 60) (bs_ 20 7) rfl rfl HT_ ?_
         refine pu_ (i := 3) (N := some 61) (bs_ 20 15) rfl rfl HT_ ?_
         refine pu_ (i := 4) (N := some 62) (bs_ 20 31) rfl rfl HT_ ?_
         refine pn_ (i := 5) (N := some 63) (bs_ 20 63) rfl rfl HT_ ?_
         refine pn_ (i := 6) (N := some 64) (bs_ 20 127) rfl rfl HT_ ?_
         refine pn_ (i := 7) (N := some 65) (bs_ 20 255) rfl rfl HT_ ?_
         refine pn_ (i := 8) (N := some 66) (bs_ 20 511) rfl rfl HT_ ?_
         refine pn_ (i := 9) (N := some 67) (bs_ 20 1023) rfl rfl HT_ ?_
         refine pn_ (i := 10) (N := some 68) (bs_ 20 2047) rfl rfl HT_ ?_
         refine pn_ (i := 11) (N := some 69) (bs_ 20 4095) rfl rfl HT_ ?_
         refine pn_ (i := 12) (N := some 70) (bs_ 20 8191) rfl rfl HT_ ?_
         refine pn_ (i := 13) (N := some 71) (bs_ 20 16383) rfl rfl HT_ ?_
         refine pn_ (i := 14) (N := some 72) (bs_ 20 32767) rfl rfl HT_ ?_
         refine pn_ (i := 15) (N := some 73) (bs_ 20 65535) rfl rfl HT_ ?_
         refine pn_ (i := 16) (N := some 74) (bs_ 20 131071) rfl rfl HT_ ?_
         refine pn_ (i := 17) (N := some 75) (bs_ 20 262143) rfl rfl HT_ ?_
         refine pn_ (i := 18) (N := some 76) (bs_ 20 524287) rfl rfl HT_ ?_
         refine pu_ (i := 19) (N := some 77) (bs_ 20 1048575) rfl rfl HT_ ?_
         refine done_ (done_of HT_.out (by kernel_rfl)) ?_
         try go_wp2
         go_meet
         case rel => exact ⟨_, (false), (by first | rfl | (simp; done) | (simp [*]; done)), H', ⟨by have := HJ2.out; have := HJ20.out; have := HK3.out; first | exact Nat.le_refl _ | omega⟩, ⟨tV_ HO_171008⟩, ⟨tV_ HO_172008⟩, ⟨tR_ HO_189008⟩, ⟨tk_ BK170⟩, ⟨tk_ BK171⟩, ⟨tk_ BK188⟩, ⟨by repeat (first | (with_reducible first | exact HB.out | apply b_a | apply b_n | apply b_d | refine b_s ?_ GE170.out | refine b_s ?_ GE171.out | refine b_s ?_ GE188.out) | exact HB.out)⟩⟩
        rw [if_pos c64] at H
        have c64b0 : decide (0 < (x189008_3.length : Int)) = true := decide_eq_true c64
        have c64b1 : decide (0 < x189008_3.length) = true := decide_eq_true (by omega)
        clear c64
        (first | rw [c64b0] | (simp only [i64_w, i32_w]; rw [c64b0]) | skip)
        replace H := Option.bind_eq_some_iff.mp H
        obtain ⟨t191, A650, H⟩ := H
        replace H : (if t191 = true then (pelotonlaw15_MsgApart.j3 k3 t174 true a0_0 a0_1 a0_2 a0_3 a0_4 a0_5 a0_6 a0_7 x171008_3 a1_0 a1_1 a1_2 a1_3 a1_4 a1_5 a1_6 a1_7 x172008_3) else (if 0 < (x189008_3.length : Int) then (if 0 < (x171008_3.length : Int) then (pelotonlaw15_MsgApart.j3 k3 t174 ((rd x189008_3 0) == (rd x171008_3 0)) a0_0 a0_1 a0_2 a0_3 a0_4 a0_5 a0_6 a0_7 x171008_3 a1_0 a1_1 a1_2 a1_3 a1_4 a1_5 a1_6 a1_7 x172008_3) else (none)) else (none))) = some r := H
        have A65 := Aside0.mk A650
        clear A650
        by_cases c66 : t191 = true
        ·
         subst c66
         have H1 : (pelotonlaw15_MsgApart.j3 k3 t174 true a0_0 a0_1 a0_2 a0_3 a0_4 a0_5 a0_6 a0_7 x171008_3 a1_0 a1_1 a1_2 a1_3 a1_4 a1_5 a1_6 a1_7 x172008_3) = some r := by rw [if_pos rfl] at H; exact H
         clear H
         have H := H1
         clear H1
         have H' := Aside0.mk H
         clear H
         try go_wp2
         replace HO_171008 := Aside0.mk (Kd.V_drew HO_171008.out)
         replace HO_172008 := Aside0.mk (Kd.V_drew HO_172008.out)
         replace HO_189008 := Aside0.mk (Kd.R_drew HO_189008.out)
         replace BK170 := Aside0.mk (k_d BK170.out)
         replace BK171 := Aside0.mk (k_d BK171.out)
         replace BK188 := Aside0.mk (k_d BK188.out)
         replace HB := Aside0.mk (b_d HB.out)
         obtain ⟨Ao68, co68, eo68⟩ := Kd.V_slice HO_171008.out
         (first | subst eo68 | (injection eo68 with f1_ f2_ f3_; have f4_ := f1_.symm; have f5_ := f3_.symm; clear f1_ f2_ f3_; subst f4_; subst f5_))
         refine start_ (n := 20) (S := fun w' => w'.cell? ⟨gb188, 0, none⟩ = some (.int .i64 t177) ∧ w'.cell? ⟨gb188, 1, none⟩ = some (.int .i64 t178) ∧ w'.cell? ⟨gb188, 2, none⟩ = some (.int .i64 t179) ∧ w'.cell? ⟨gb188, 3, none⟩ = some (.int .i64 t180) ∧ w'.cell? ⟨gb188, 4, none⟩ = some (.int .i64 t181) ∧ w'.cell? ⟨gb188, 5, none⟩ = some (.int .i64 t182) ∧ w'.cell? ⟨gb188, 6, none⟩ = some (.int .i64 t183) ∧ w'.cell? ⟨gb188, 7, none⟩ = some (.int .i64 t184) ∧ w'.cell? ⟨gb188, 8, none⟩ = some (.slice Ao63 x189008_3.length co63) ∧ w'.cell? ⟨gb170, 0, none⟩ = some (.int .i64 a0_0) ∧ w'.cell? ⟨gb170, 1, none⟩ = some (.int .i64 a0_1) ∧ w'.cell? ⟨gb170, 2, none⟩ = some (.int .i64 a0_2) ∧ w'.cell? ⟨gb170, 3, none⟩ = some (.int .i64 a0_3) ∧ w'.cell? ⟨gb170, 4, none⟩ = some (.int .i64 a0_4) ∧ w'.cell? ⟨gb170, 5, none⟩ = some (.int .i64 a0_5) ∧ w'.cell? ⟨gb170, 6, none⟩ = some (.int .i64 a0_6) ∧ w'.cell? ⟨gb170, 7, none⟩ = some (.int .i64 a0_7) ∧ w'.cell? ⟨gb170, 8, none⟩ = some (.slice Ao68 x171008_3.length co68)) (ds := []) #[false, false, false, false, false, false, false, false, false, false, false, false, false, false, false, false, false, false, false, false] (by kernel_rfl) rfl rfl ⟨(blk_cell BK188.out 0).trans rfl, (blk_cell BK188.out 1).trans rfl, (blk_cell BK188.out 2).trans rfl, (blk_cell BK188.out 3).trans rfl, (blk_cell BK188.out 4).trans rfl, (blk_cell BK188.out 5).trans rfl, (blk_cell BK188.out 6).trans rfl, (blk_cell BK188.out 7).trans rfl, (blk_cell BK188.out 8).trans rfl, (blk_cell BK170.out 0).trans rfl, (blk_cell BK170.out 1).trans rfl, (blk_cell BK170.out 2).trans rfl, (blk_cell BK170.out 3).trans rfl, (blk_cell BK170.out 4).trans rfl, (blk_cell BK170.out 5).trans rfl, (blk_cell BK170.out 6).trans rfl, (blk_cell BK170.out 7).trans rfl, (blk_cell BK170.out 8).trans rfl⟩ (fun hHeld => ?_); refine with_tabW pelotonlaw15_MsgApart.tab11 pelotonlaw15_MsgApart.bits11 (fun HT_ HW_ => ?_)
         generalize wr.drew = w67 at HO_171008 HO_172008 HO_189008 BK170 BK171 BK188 HB hHeld ⊢
         refine pu_ (i := 0) (N := some 58) (bs_ 20 1) rfl rfl HT_ ?_
         refine take_ (i := 1) (N := some 59) (v := ?_) (a' := ?_) (bs_ 20 3) rfl rfl (take_ofW HT_.out HW_.out (by kernel_rfl)) (fun _ _ _ h => h) (Or.inl ⟨by rfl, ?_⟩) hHeld ?_ ?_
         rotate_left
         ·
          rintro w' ⟨s0, s1, s2, s3, s4, s5, s6, s7, s8, s9, s10, s11, s12, s13, s14, s15, s16, s17⟩
          go_simp
          with_reducible rfl
         rotate_left
         ·
          simp only [Act.put, l_1, l_2, l_3, i64_w, i32_w]
          rfl
         refine pu_ (i := 2) (N := some 60) (bs_ 20 7) rfl rfl HT_ ?_
         refine pu_ (i := 3) (N := some 61) (bs_ 20 15) rfl rfl HT_ ?_
         refine pu_ (i := 4) (N := some 62) (bs_ 20 31) rfl rfl HT_ ?_
         refine take_ (i := 5) (N := some 63) (v := ?_) (a' := ?_) (bs_ 20 63) rfl rfl (take_ofW HT_.out HW_.out (by kernel_rfl)) (fun _ _ _ h => h) (Or.inl ⟨by rfl, ?_⟩) hHeld ?_ ?_
         rotate_left
         ·
          rintro w' ⟨s0, s1, s2, s3, s4, s5, s6, s7, s8, s9, s10, s11, s12, s13, s14, s15, s16, s17⟩
          go_simp
          with_reducible rfl
         rotate_left
         ·
          simp only [Act.put, l_1, l_2, l_3, i64_w, i32_w]
          rfl
         refine take_ (i := 6) (N := some 64) (v := ?_) (a' := ?_) (bs_ 20 127) rfl rfl (take_ofW HT_.out HW_.out (by kernel_rfl)) (fun _ _ _ h => h) (Or.inl ⟨by rfl, ?_⟩) hHeld ?_ ?_
         rotate_left
         ·
          rintro w' ⟨s0, s1, s2, s3, s4, s5, s6, s7, s8, s9, s10, s11, s12, s13, s14, s15, s16, s17⟩
          go_simp
          with_reducible rfl
         rotate_left
         ·
          simp only [Act.put, l_1, l_2, l_3, i64_w, i32_w]
          rfl
         refine one_ (i := 7) (N := some 65) (bs_ 20 255) rfl rfl (one_of HT_.out (by kernel_rfl)) (by decide) (fun K hK => ?_)
         refine goes_ Try.func14 (by kernel_rfl) rfl #[.agg #[.int .i64 a0_0, .int .i64 a0_1, .int .i64 a0_2, .int .i64 a0_3, .int .i64 a0_4, .int .i64 a0_5, .int .i64 a0_6, .int .i64 a0_7, .slice Ao68 x171008_3.length co68], .agg #[.int .i64 t177, .int .i64 t178, .int .i64 t179, .int .i64 t180, .int .i64 t181, .int .i64 t182, .int .i64 t183, .int .i64 t184, .slice Ao63 x189008_3.length co63]] (by rfl) rfl rfl (by (try simp only [l_4, l_5, l_6]); first | done | rfl | (simp only [l_7, l_8]; rfl)) ?_
         with_reducible refine (msg_Same.calls k3 a0_0 a0_1 a0_2 a0_3 a0_4 a0_5 a0_6 a0_7 _ _ x171008_3 t177 t178 t179 t180 t181 t182 t183 t184 _ _ x189008_3 true _ ?side1 ?side2 ?side3 ?side4 A65.out).mono ?_
         (case side1 => repeat (first | exact (Kd.V_reads' HO_171008.out).2.2 | (with_reducible refine Kd.C_alloc ?_ _) | (with_reducible refine Kd.C_drewN ?_ _) | (with_reducible refine Kd.C_drew ?_)))
         (case side2 => exact (Kd.V_reads' HO_171008.out).2.1)
         (case side3 => repeat (first | exact (Kd.R_reads' HO_189008.out).2.2 | (with_reducible refine Kd.C_alloc ?_ _) | (with_reducible refine Kd.C_drewN ?_ _) | (with_reducible refine Kd.C_drew ?_)))
         (case side4 => exact (Kd.R_reads' HO_189008.out).2.1)
         rintro e w69 ⟨rfl, hb⟩
         refine ⟨_, rfl, ?_⟩
         replace HO_171008 := Aside0.mk (Kd.V_below (tV_ HO_171008) hb)
         replace HO_172008 := Aside0.mk (Kd.V_below (tV_ HO_172008) hb)
         replace HO_189008 := Aside0.mk (Kd.R_below (tR_ HO_189008) hb)
         replace BK170 := Aside0.mk (blk_below (tk_ BK170) hb)
         replace BK171 := Aside0.mk (blk_below (tk_ BK171) hb)
         replace BK188 := Aside0.mk (blk_below (tk_ BK188) hb)
         replace HB := Aside0.mk (below_step (bw_ HB) hb)
         (try clear hb)
         (try clear hb2)
         (try clear hk)
         (try clear hi)
         refine hK.out _ _ ⟨(blk_cell BK188.out 0).trans rfl, (blk_cell BK188.out 1).trans rfl, (blk_cell BK188.out 2).trans rfl, (blk_cell BK188.out 3).trans rfl, (blk_cell BK188.out 4).trans rfl, (blk_cell BK188.out 5).trans rfl, (blk_cell BK188.out 6).trans rfl, (blk_cell BK188.out 7).trans rfl, (blk_cell BK188.out 8).trans rfl, (blk_cell BK170.out 0).trans rfl, (blk_cell BK170.out 1).trans rfl, (blk_cell BK170.out 2).trans rfl, (blk_cell BK170.out 3).trans rfl, (blk_cell BK170.out 4).trans rfl, (blk_cell BK170.out 5).trans rfl, (blk_cell BK170.out 6).trans rfl, (blk_cell BK170.out 7).trans rfl, (blk_cell BK170.out 8).trans rfl⟩ (fun hHeld => ?_)
         clear hK K
         refine no_ (N := some 65) ?_
         refine pu_ (i := 8) (N := some 66) (bs_ 20 511) rfl rfl HT_ ?_
         refine pn_ (i := 9) (N := some 67) (bs_ 20 1023) rfl rfl HT_ ?_
         refine pn_ (i := 10) (N := some 68) (bs_ 20 2047) rfl rfl HT_ ?_
         refine pn_ (i := 11) (N := some 69) (bs_ 20 4095) rfl rfl HT_ ?_
         refine pn_ (i := 12) (N := some 70) (bs_ 20 8191) rfl rfl HT_ ?_
         refine pn_ (i := 13) (N := some 71) (bs_ 20 16383) rfl rfl HT_ ?_
         refine pn_ (i := 14) (N := some 72) (bs_ 20 32767) rfl rfl HT_ ?_
         refine pn_ (i := 15) (N := some 73) (bs_ 20 65535) rfl rfl HT_ ?_
         refine pn_ (i := 16) (N := some 74) (bs_ 20 131071) rfl rfl HT_ ?_
         refine pn_ (i := 17) (N := some 75) (bs_ 20 262143) rfl rfl HT_ ?_
         refine pu_ (i := 18) (N := some 76) (bs_ 20 524287) rfl rfl HT_ ?_
         refine pu_ (i := 19) (N := some 77) (bs_ 20 1048575) rfl rfl HT_ ?_
         refine done_ (done_of HT_.out (by kernel_rfl)) ?_
         try go_wp2
         go_meet
         case rel => exact ⟨_, (true), (by first | rfl | (simp; done) | (simp [*]; done)), H', ⟨by have := HJ2.out; have := HJ20.out; have := HK3.out; first | exact Nat.le_refl _ | omega⟩, ⟨tV_ HO_171008⟩, ⟨tV_ HO_172008⟩, ⟨tR_ HO_189008⟩, ⟨tk_ BK170⟩, ⟨tk_ BK171⟩, ⟨tk_ BK188⟩, ⟨by repeat (first | (with_reducible first | exact HB.out | apply b_a | apply b_n | apply b_d | refine b_s ?_ GE170.out | refine b_s ?_ GE171.out | refine b_s ?_ GE188.out) | exact HB.out)⟩⟩
        replace c66 := Bool.eq_false_iff.mpr c66
        subst c66
        have H1 : (if 0 < (x189008_3.length : Int) then (if 0 < (x171008_3.length : Int) then (pelotonlaw15_MsgApart.j3 k3 t174 ((rd x189008_3 0) == (rd x171008_3 0)) a0_0 a0_1 a0_2 a0_3 a0_4 a0_5 a0_6 a0_7 x171008_3 a1_0 a1_1 a1_2 a1_3 a1_4 a1_5 a1_6 a1_7 x172008_3) else (none)) else (none)) = some r := by rw [if_neg (show ¬ (false = true) by decide)] at H; exact H
        clear H
        have H := H1
        clear H1
        by_cases c70 : 0 < (x189008_3.length : Int)
        rotate_left
        ·
         rw [if_neg c70] at H
         exact absurd H (by simp)
        rw [if_pos c70] at H
        have c70b0 : decide (0 < (x189008_3.length : Int)) = true := decide_eq_true c70
        have c70b1 : decide (0 < x189008_3.length) = true := decide_eq_true (by omega)
        clear c70
        by_cases c71 : 0 < (x171008_3.length : Int)
        rotate_left
        ·
         rw [if_neg c71] at H
         exact absurd H (by simp)
        rw [if_pos c71] at H
        have c71b0 : decide (0 < (x171008_3.length : Int)) = true := decide_eq_true c71
        have c71b1 : decide (0 < x171008_3.length) = true := decide_eq_true (by omega)
        clear c71
        have H' := Aside0.mk H
        clear H
        try go_wp2
        replace HO_171008 := Aside0.mk (Kd.V_drew HO_171008.out)
        replace HO_172008 := Aside0.mk (Kd.V_drew HO_172008.out)
        replace HO_189008 := Aside0.mk (Kd.R_drew HO_189008.out)
        replace BK170 := Aside0.mk (k_d BK170.out)
        replace BK171 := Aside0.mk (k_d BK171.out)
        replace BK188 := Aside0.mk (k_d BK188.out)
        replace HB := Aside0.mk (b_d HB.out)
        obtain ⟨Ao73, co73, eo73⟩ := Kd.V_slice HO_171008.out
        (first | subst eo73 | (injection eo73 with f1_ f2_ f3_; have f4_ := f1_.symm; have f5_ := f3_.symm; clear f1_ f2_ f3_; subst f4_; subst f5_))
        have p192 : 0 ≤ (0 : Int) := (by omega)
        have q192 : 0 < (x189008_3.length : Int) := of_decide_eq_true (by first | (with_reducible assumption) | assumption)
        obtain ⟨ad192, e192, hx192_0⟩ := Kd.at_int (Kd.R_reads' HO_189008.out).2.2 0 p192 q192
        cases e192
        have qi192 : (0 < x189008_3.length) = True := eq_true (by omega)
        (try rw [show ((0 : Int)).toNat = 0 from rfl] at hx192_0)
        (try rw [Addr.add_zero'] at hx192_0)
        replace p192 := eq_true p192
        replace q192 := eq_true q192
        have p193 : 0 ≤ (0 : Int) := (by omega)
        have q193 : 0 < (x171008_3.length : Int) := of_decide_eq_true (by first | (with_reducible assumption) | assumption)
        obtain ⟨ad193, e193, hx193_0⟩ := Kd.at_int (Kd.V_reads' HO_171008.out).2.2 0 p193 q193
        cases e193
        have qi193 : (0 < x171008_3.length) = True := eq_true (by omega)
        (try rw [show ((0 : Int)).toNat = 0 from rfl] at hx193_0)
        (try rw [Addr.add_zero'] at hx193_0)
        replace p193 := eq_true p193
        replace q193 := eq_true q193
        refine start_ (n := 20) (S := fun w' => w'.cell? ⟨gb188, 0, none⟩ = some (.int .i64 t177) ∧ w'.cell? ⟨gb188, 1, none⟩ = some (.int .i64 t178) ∧ w'.cell? ⟨gb188, 2, none⟩ = some (.int .i64 t179) ∧ w'.cell? ⟨gb188, 3, none⟩ = some (.int .i64 t180) ∧ w'.cell? ⟨gb188, 4, none⟩ = some (.int .i64 t181) ∧ w'.cell? ⟨gb188, 5, none⟩ = some (.int .i64 t182) ∧ w'.cell? ⟨gb188, 6, none⟩ = some (.int .i64 t183) ∧ w'.cell? ⟨gb188, 7, none⟩ = some (.int .i64 t184) ∧ w'.cell? ⟨gb188, 8, none⟩ = some (.slice (some ad192) x189008_3.length co63) ∧ w'.cell? ⟨gb170, 0, none⟩ = some (.int .i64 a0_0) ∧ w'.cell? ⟨gb170, 1, none⟩ = some (.int .i64 a0_1) ∧ w'.cell? ⟨gb170, 2, none⟩ = some (.int .i64 a0_2) ∧ w'.cell? ⟨gb170, 3, none⟩ = some (.int .i64 a0_3) ∧ w'.cell? ⟨gb170, 4, none⟩ = some (.int .i64 a0_4) ∧ w'.cell? ⟨gb170, 5, none⟩ = some (.int .i64 a0_5) ∧ w'.cell? ⟨gb170, 6, none⟩ = some (.int .i64 a0_6) ∧ w'.cell? ⟨gb170, 7, none⟩ = some (.int .i64 a0_7) ∧ w'.cell? ⟨gb170, 8, none⟩ = some (.slice (some ad193) x171008_3.length co73) ∧ w'.cell? ad192 = some (.int .i32 (rd x189008_3 0)) ∧ w'.cell? ad193 = some (.int .i32 (rd x171008_3 0))) (ds := []) #[false, false, false, false, false, false, false, false, false, false, false, false, false, false, false, false, false, false, false, false] (by kernel_rfl) rfl rfl ⟨(blk_cell BK188.out 0).trans rfl, (blk_cell BK188.out 1).trans rfl, (blk_cell BK188.out 2).trans rfl, (blk_cell BK188.out 3).trans rfl, (blk_cell BK188.out 4).trans rfl, (blk_cell BK188.out 5).trans rfl, (blk_cell BK188.out 6).trans rfl, (blk_cell BK188.out 7).trans rfl, (blk_cell BK188.out 8).trans rfl, (blk_cell BK170.out 0).trans rfl, (blk_cell BK170.out 1).trans rfl, (blk_cell BK170.out 2).trans rfl, (blk_cell BK170.out 3).trans rfl, (blk_cell BK170.out 4).trans rfl, (blk_cell BK170.out 5).trans rfl, (blk_cell BK170.out 6).trans rfl, (blk_cell BK170.out 7).trans rfl, (blk_cell BK170.out 8).trans rfl, hx192_0, hx193_0⟩ (fun hHeld => ?_); refine with_tabW pelotonlaw15_MsgApart.tab11 pelotonlaw15_MsgApart.bits11 (fun HT_ HW_ => ?_)
        generalize wr.drew = w72 at HO_171008 HO_172008 HO_189008 BK170 BK171 BK188 HB hx192_0 hx193_0 hHeld ⊢
        refine pu_ (i := 0) (N := some 58) (bs_ 20 1) rfl rfl HT_ ?_
        refine take_ (i := 1) (N := some 59) (v := ?_) (a' := ?_) (bs_ 20 3) rfl rfl (take_ofW HT_.out HW_.out (by kernel_rfl)) (fun _ _ _ h => h) (Or.inl ⟨by rfl, ?_⟩) hHeld ?_ ?_
        rotate_left
        ·
         rintro w' ⟨s0, s1, s2, s3, s4, s5, s6, s7, s8, s9, s10, s11, s12, s13, s14, s15, s16, s17, s18, s19⟩
         go_simp
         with_reducible rfl
        rotate_left
        ·
         simp only [Act.put, l_1, l_2, l_3, i64_w, i32_w]
         rfl
        refine pu_ (i := 2) (N := some 60) (bs_ 20 7) rfl rfl HT_ ?_
        refine pu_ (i := 3) (N := some 61) (bs_ 20 15) rfl rfl HT_ ?_
        refine pu_ (i := 4) (N := some 62) (bs_ 20 31) rfl rfl HT_ ?_
        refine take_ (i := 5) (N := some 63) (v := ?_) (a' := ?_) (bs_ 20 63) rfl rfl (take_ofW HT_.out HW_.out (by kernel_rfl)) (fun _ _ _ h => h) (Or.inl ⟨by rfl, ?_⟩) hHeld ?_ ?_
        rotate_left
        ·
         rintro w' ⟨s0, s1, s2, s3, s4, s5, s6, s7, s8, s9, s10, s11, s12, s13, s14, s15, s16, s17, s18, s19⟩
         go_simp
         with_reducible rfl
        rotate_left
        ·
         simp only [Act.put, l_1, l_2, l_3, i64_w, i32_w]
         rfl
        refine take_ (i := 6) (N := some 64) (v := ?_) (a' := ?_) (bs_ 20 127) rfl rfl (take_ofW HT_.out HW_.out (by kernel_rfl)) (fun _ _ _ h => h) (Or.inl ⟨by rfl, ?_⟩) hHeld ?_ ?_
        rotate_left
        ·
         rintro w' ⟨s0, s1, s2, s3, s4, s5, s6, s7, s8, s9, s10, s11, s12, s13, s14, s15, s16, s17, s18, s19⟩
         go_simp
         with_reducible rfl
        rotate_left
        ·
         simp only [Act.put, l_1, l_2, l_3, i64_w, i32_w]
         rfl
        refine one_ (i := 7) (N := some 65) (bs_ 20 255) rfl rfl (one_of HT_.out (by kernel_rfl)) (by decide) (fun K hK => ?_)
        refine goes_ Try.func14 (by kernel_rfl) rfl #[.agg #[.int .i64 a0_0, .int .i64 a0_1, .int .i64 a0_2, .int .i64 a0_3, .int .i64 a0_4, .int .i64 a0_5, .int .i64 a0_6, .int .i64 a0_7, .slice (some ad193) x171008_3.length co73], .agg #[.int .i64 t177, .int .i64 t178, .int .i64 t179, .int .i64 t180, .int .i64 t181, .int .i64 t182, .int .i64 t183, .int .i64 t184, .slice (some ad192) x189008_3.length co63]] (by rfl) rfl rfl (by (try simp only [l_4, l_5, l_6]); first | done | rfl | (simp only [l_7, l_8]; rfl)) ?_
        with_reducible refine (msg_Same.calls k3 a0_0 a0_1 a0_2 a0_3 a0_4 a0_5 a0_6 a0_7 _ _ x171008_3 t177 t178 t179 t180 t181 t182 t183 t184 _ _ x189008_3 false _ ?side1 ?side2 ?side3 ?side4 A65.out).mono ?_
        (case side1 => repeat (first | exact (Kd.V_reads' HO_171008.out).2.2 | (with_reducible refine Kd.C_alloc ?_ _) | (with_reducible refine Kd.C_drewN ?_ _) | (with_reducible refine Kd.C_drew ?_)))
        (case side2 => exact (Kd.V_reads' HO_171008.out).2.1)
        (case side3 => repeat (first | exact (Kd.R_reads' HO_189008.out).2.2 | (with_reducible refine Kd.C_alloc ?_ _) | (with_reducible refine Kd.C_drewN ?_ _) | (with_reducible refine Kd.C_drew ?_)))
        (case side4 => exact (Kd.R_reads' HO_189008.out).2.1)
        rintro e w74 ⟨rfl, hb⟩
        have HS18_ := (hb.cell (World.block_lt_of_cell? _ _ (hHeld.2.2.2.2.2.2.2.2.2.2.2.2.2.2.2.2.2.2.1))).trans (hHeld.2.2.2.2.2.2.2.2.2.2.2.2.2.2.2.2.2.2.1)
        have HS19_ := (hb.cell (World.block_lt_of_cell? _ _ (hHeld.2.2.2.2.2.2.2.2.2.2.2.2.2.2.2.2.2.2.2))).trans (hHeld.2.2.2.2.2.2.2.2.2.2.2.2.2.2.2.2.2.2.2)
        refine ⟨_, rfl, ?_⟩
        replace HO_171008 := Aside0.mk (Kd.V_below (tV_ HO_171008) hb)
        replace HO_172008 := Aside0.mk (Kd.V_below (tV_ HO_172008) hb)
        replace HO_189008 := Aside0.mk (Kd.R_below (tR_ HO_189008) hb)
        replace BK170 := Aside0.mk (blk_below (tk_ BK170) hb)
        replace BK171 := Aside0.mk (blk_below (tk_ BK171) hb)
        replace BK188 := Aside0.mk (blk_below (tk_ BK188) hb)
        replace HB := Aside0.mk (below_step (bw_ HB) hb)
        (try clear hb)
        (try clear hb2)
        (try clear hk)
        (try clear hi)
        refine hK.out _ _ ⟨(blk_cell BK188.out 0).trans rfl, (blk_cell BK188.out 1).trans rfl, (blk_cell BK188.out 2).trans rfl, (blk_cell BK188.out 3).trans rfl, (blk_cell BK188.out 4).trans rfl, (blk_cell BK188.out 5).trans rfl, (blk_cell BK188.out 6).trans rfl, (blk_cell BK188.out 7).trans rfl, (blk_cell BK188.out 8).trans rfl, (blk_cell BK170.out 0).trans rfl, (blk_cell BK170.out 1).trans rfl, (blk_cell BK170.out 2).trans rfl, (blk_cell BK170.out 3).trans rfl, (blk_cell BK170.out 4).trans rfl, (blk_cell BK170.out 5).trans rfl, (blk_cell BK170.out 6).trans rfl, (blk_cell BK170.out 7).trans rfl, (blk_cell BK170.out 8).trans rfl, HS18_, HS19_⟩ (fun hHeld => ?_)
        clear hK K
        refine no_ (N := some 65) ?_
        refine pu_ (i := 8) (N := some 66) (bs_ 20 511) rfl rfl HT_ ?_
        refine pu_ (i := 9) (N := some 67) (bs_ 20 1023) rfl rfl HT_ ?_
        refine pu_ (i := 13) (N := some 71) (bs_ 20 9215) rfl rfl HT_ ?_
        refine take_ (i := 10) (N := some 68) (v := ?_) (a' := ?_) (bs_ 20 10239) rfl rfl (take_ofW HT_.out HW_.out (by kernel_rfl)) (fun _ _ _ h => h) (Or.inl ⟨by rfl, ?_⟩) hHeld ?_ ?_
        rotate_left
        ·
         rintro w' ⟨s0, s1, s2, s3, s4, s5, s6, s7, s8, s9, s10, s11, s12, s13, s14, s15, s16, s17, s18, s19⟩
         go_simp
         with_reducible rfl
        rotate_left
        ·
         simp only [Act.put, l_1, l_2, l_3, i64_w, i32_w]
         rfl
        refine pu_ (i := 11) (N := some 69) (bs_ 20 12287) rfl rfl HT_ ?_
        refine take_ (i := 12) (N := some 70) (v := ?_) (a' := ?_) (bs_ 20 16383) rfl rfl (take_ofW HT_.out HW_.out (by kernel_rfl)) (fun _ _ _ h => h) (Or.inl ⟨by rfl, ?_⟩) hHeld ?_ ?_
        rotate_left
        ·
         rintro w' ⟨s0, s1, s2, s3, s4, s5, s6, s7, s8, s9, s10, s11, s12, s13, s14, s15, s16, s17, s18, s19⟩
         go_simp
         with_reducible rfl
        rotate_left
        ·
         simp only [Act.put, l_1, l_2, l_3, i64_w, i32_w]
         rfl
        refine take_ (i := 14) (N := some 72) (v := ?_) (a' := ?_) (bs_ 20 32767) rfl rfl (take_ofW HT_.out HW_.out (by kernel_rfl)) (fun _ _ _ h => h) (Or.inl ⟨by rfl, ?_⟩) hHeld ?_ ?_
        rotate_left
        ·
         rintro w' ⟨s0, s1, s2, s3, s4, s5, s6, s7, s8, s9, s10, s11, s12, s13, s14, s15, s16, s17, s18, s19⟩
         go_simp
         with_reducible rfl
        rotate_left
        ·
         simp only [Act.put, l_1, l_2, l_3, i64_w, i32_w]
         rfl
        refine pu_ (i := 15) (N := some 73) (bs_ 20 65535) rfl rfl HT_ ?_
        refine take_ (i := 16) (N := some 74) (v := ?_) (a' := ?_) (bs_ 20 131071) rfl rfl (take_ofW HT_.out HW_.out (by kernel_rfl)) (fun _ _ _ h => h) (Or.inl ⟨by rfl, ?_⟩) hHeld ?_ ?_
        rotate_left
        ·
         rintro w' ⟨s0, s1, s2, s3, s4, s5, s6, s7, s8, s9, s10, s11, s12, s13, s14, s15, s16, s17, s18, s19⟩
         go_simp
         with_reducible rfl
        rotate_left
        ·
         simp only [Act.put, l_1, l_2, l_3, i64_w, i32_w]
         rfl
        refine pu_ (i := 17) (N := some 75) (bs_ 20 262143) rfl rfl HT_ ?_
        refine pu_ (i := 18) (N := some 76) (bs_ 20 524287) rfl rfl HT_ ?_
        refine pu_ (i := 19) (N := some 77) (bs_ 20 1048575) rfl rfl HT_ ?_
        refine done_ (done_of HT_.out (by kernel_rfl)) ?_
        try go_wp2
        go_meet
        case rel => exact ⟨_, (((rd x189008_3 0) == (rd x171008_3 0))), (by first | rfl | (simp; done) | (simp [*]; done)), H', ⟨by have := HJ2.out; have := HJ20.out; have := HK3.out; first | exact Nat.le_refl _ | omega⟩, ⟨tV_ HO_171008⟩, ⟨tV_ HO_172008⟩, ⟨tR_ HO_189008⟩, ⟨tk_ BK170⟩, ⟨tk_ BK171⟩, ⟨tk_ BK188⟩, ⟨by repeat (first | (with_reducible first | exact HB.out | apply b_a | apply b_n | apply b_d | refine b_s ?_ GE170.out | refine b_s ?_ GE171.out | refine b_s ?_ GE188.out) | exact HB.out)⟩⟩
       case rest => as_aux_lemma =>
        clear HC59
        try clear c1
        try clear p1
        try clear q1
        try clear hx1
        try clear qi1
        try clear p2
        try clear c6
        try clear c7
        try clear c14
        try clear p19
        try clear q19
        try clear hx19
        try clear qi19
        try clear c64
        try clear c64b0
        try clear c64b1
        try clear c66
        try clear c70
        try clear c70b0
        try clear c70b1
        try clear c71
        try clear c71b0
        try clear c71b1
        try clear hx192_0
        try clear hx193_0
        try clear p192
        try clear p193
        try clear q192
        try clear q193
        obtain ⟨kq, x77_58, rfl, HA, HJ58, HO_171008, HO_172008, HO_189008, BK170, BK171, BK188, HB⟩ := hcut
        cases kq with
        | zero => exact absurd HA.out (by simp [pelotonlaw15_MsgApart.j3])
        | succ kj58 =>
         have H := HA.out
         clear HA
         simp only [pelotonlaw15_MsgApart.j3] at H
         by_cases c76 : x77_58 = true
         ·
          subst c76
          have H1 : (some false) = some r := by rw [if_pos rfl] at H; exact H
          clear H
          have H := H1
          clear H1
          obtain rfl := Option.some.inj H
          go_wp2_with (first | ((with_reducible refine gate_store_ rfl ?_); refine st1_ rfl rfl rfl rfl rfl (by with_reducible assumption) (by simp) (by kernel_rfl) ?_))
          go_ret
          exact ⟨by first | rfl | (simp [errW_none, errW_some] <;> rfl) | (simp [*, errW_none, errW_some] <;> rfl), by repeat (first | (with_reducible first | exact HB.out | apply b_a | apply b_n | apply b_d | refine b_s ?_ GE170.out | refine b_s ?_ GE171.out | refine b_s ?_ GE188.out) | exact HB.out)⟩
         replace c76 := Bool.eq_false_iff.mpr c76
         subst c76
         have H1 : ((pelotonref15_Right.f kj58 a0_0 a0_1 a0_2 a0_3 a0_4 a0_5 a0_6 a0_7 x171008_3).bind fun t194 => (if t194 = true then ((pelotonref15_Right.f kj58 a1_0 a1_1 a1_2 a1_3 a1_4 a1_5 a1_6 a1_7 x172008_3).bind fun t195 => (pelotonlaw15_MsgApart.j4 kj58 t174 (!t195) a0_0 a0_1 a0_2 a0_3 a0_4 a0_5 a0_6 a0_7 x171008_3 a1_0 a1_1 a1_2 a1_3 a1_4 a1_5 a1_6 a1_7 x172008_3)) else (pelotonlaw15_MsgApart.j4 kj58 t174 true a0_0 a0_1 a0_2 a0_3 a0_4 a0_5 a0_6 a0_7 x171008_3 a1_0 a1_1 a1_2 a1_3 a1_4 a1_5 a1_6 a1_7 x172008_3))) = some r := by rw [if_neg (show ¬ (false = true) by decide)] at H; exact H
         clear H
         have H := H1
         clear H1
         have HC77 := Aside0.mk H
         clear H
         go_upto_region 13 with (fail)
         go_cut [85] (fun v85 wc => ∃ (kq : Nat) (x85_76 : Bool), v85 = .bool x85_76 ∧ Aside0 (pelotonlaw15_MsgApart.j4 kq t174 x85_76 a0_0 a0_1 a0_2 a0_3 a0_4 a0_5 a0_6 a0_7 x171008_3 a1_0 a1_1 a1_2 a1_3 a1_4 a1_5 a1_6 a1_7 x172008_3 = some r) ∧ Aside0 (kq ≤ kj58) ∧ Aside0 (Kd.V (Kd.int .i32) 21 wc w.heap.size (fun k_ => ((P0_8_ k_ ∨ P1_8_ k_) ∨ w.heap.size ≤ k_) ∧ some k_ ≠ ((.slice Ao63 x189008_3.length co63) : Value).ownBlock ∧ k_ ≠ gb170 ∧ k_ ≠ gb171 ∧ k_ ≠ gb188) u171008 x171008_3) ∧ Aside0 (Kd.V (Kd.int .i32) 21 wc w.heap.size (fun k_ => ((P0_8_ k_ ∨ P1_8_ k_) ∨ w.heap.size ≤ k_) ∧ some k_ ≠ ((.slice Ao63 x189008_3.length co63) : Value).ownBlock ∧ k_ ≠ gb170 ∧ k_ ≠ gb171 ∧ k_ ≠ gb188) u172008 x172008_3) ∧ Aside0 (Kd.R (Kd.int .i32) 21 wc w.heap.size (fun k_ => (w.heap.size ≤ k_)) (.slice Ao63 x189008_3.length co63) x189008_3) ∧ Aside0 (wc.heap[gb170]? = some (.cells #[.int .i64 a0_0, .int .i64 a0_1, .int .i64 a0_2, .int .i64 a0_3, .int .i64 a0_4, .int .i64 a0_5, .int .i64 a0_6, .int .i64 a0_7, u171008] 24 (0, 0))) ∧ Aside0 (wc.heap[gb171]? = some (.cells #[.int .i64 a1_0, .int .i64 a1_1, .int .i64 a1_2, .int .i64 a1_3, .int .i64 a1_4, .int .i64 a1_5, .int .i64 a1_6, .int .i64 a1_7, u172008] 24 (0, 0))) ∧ Aside0 (wc.heap[gb188]? = some (.cells #[.int .i64 t177, .int .i64 t178, .int .i64 t179, .int .i64 t180, .int .i64 t181, .int .i64 t182, .int .i64 t183, .int .i64 t184, (.slice Ao63 x189008_3.length co63)] 24 (0, 0))) ∧ Aside0 (Below w.heap.size w wc))
         case first =>
          have H := HC77.out
          clear HC77
          replace H := Option.bind_eq_some_iff.mp H
          obtain ⟨t194, A780, H⟩ := H
          replace H : (if t194 = true then ((pelotonref15_Right.f kj58 a1_0 a1_1 a1_2 a1_3 a1_4 a1_5 a1_6 a1_7 x172008_3).bind fun t195 => (pelotonlaw15_MsgApart.j4 kj58 t174 (!t195) a0_0 a0_1 a0_2 a0_3 a0_4 a0_5 a0_6 a0_7 x171008_3 a1_0 a1_1 a1_2 a1_3 a1_4 a1_5 a1_6 a1_7 x172008_3)) else (pelotonlaw15_MsgApart.j4 kj58 t174 true a0_0 a0_1 a0_2 a0_3 a0_4 a0_5 a0_6 a0_7 x171008_3 a1_0 a1_1 a1_2 a1_3 a1_4 a1_5 a1_6 a1_7 x172008_3)) = some r := H
          have A78 := Aside0.mk A780
          clear A780
          by_cases c79 : t194 = true
          rotate_left
          ·
           replace c79 := Bool.eq_false_iff.mpr c79
           subst c79
           have H1 : (pelotonlaw15_MsgApart.j4 kj58 t174 true a0_0 a0_1 a0_2 a0_3 a0_4 a0_5 a0_6 a0_7 x171008_3 a1_0 a1_1 a1_2 a1_3 a1_4 a1_5 a1_6 a1_7 x172008_3) = some r := by rw [if_neg (show ¬ (false = true) by decide)] at H; exact H
           clear H
           have H := H1
           clear H1
           have H' := Aside0.mk H
           clear H
           have hnb90 := NB170_171.out
           have hnc90 := NB171_170.out
           have hnb91 := NB170_188.out
           have hnc91 := NB188_170.out
           have hcz92_0 := bc_0 BK170
           have hcz92_1 := bc_1 BK170
           have hcz92_2 := bc_2 BK170
           have hcz92_3 := bc_3 BK170
           have hcz92_4 := bc_4 BK170
           have hcz92_5 := bc_5 BK170
           have hcz92_6 := bc_6 BK170
           have hcz92_7 := bc_7 BK170
           have hcz92_8 : wc.cell? ⟨gb170, 8, none⟩ = some (u171008) := (blk_cell BK170.out 8).trans rfl
           have hfz92_0 := blk_frozen BK170.out 0
           have hfz92_1 := blk_frozen BK170.out 1
           have hfz92_2 := blk_frozen BK170.out 2
           have hfz92_3 := blk_frozen BK170.out 3
           have hfz92_4 := blk_frozen BK170.out 4
           have hfz92_5 := blk_frozen BK170.out 5
           have hfz92_6 := blk_frozen BK170.out 6
           have hfz92_7 := blk_frozen BK170.out 7
           have hfz92_8 := blk_frozen BK170.out 8
           obtain ⟨Ao93, co93, eo93⟩ := Kd.V_slice HO_171008.out
           subst eo93
           go_wp2_with (first | ((with_reducible refine gate_callee (f := 8) rfl ?_); refine goesL_ (some 79) rfl rfl Try.func8 (by kernel_rfl) rfl #[.agg #[.int .i64 a0_0, .int .i64 a0_1, .int .i64 a0_2, .int .i64 a0_3, .int .i64 a0_4, .int .i64 a0_5, .int .i64 a0_6, .int .i64 a0_7, .slice Ao93 x171008_3.length co93]] rfl (by (try simp only [l_4, l_5, l_6]); first | done | rfl | (simp only [l_7, l_8]; rfl)) ?_; (with_reducible refine (pelotonref15_Right.calls kj58 a0_0 a0_1 a0_2 a0_3 a0_4 a0_5 a0_6 a0_7 _ _ x171008_3 false _ ?side1 ?side2 A78.out).mono ?_); (case side1 => repeat (first | exact (Kd.V_reads' HO_171008.out).2.2 | (with_reducible refine Kd.C_alloc ?_ _) | (with_reducible refine Kd.C_drewN ?_ _) | (with_reducible refine Kd.C_drew ?_))); (case side2 => exact (Kd.V_reads' HO_171008.out).2.1); rintro e w94 ⟨rfl, hb⟩; (try clear A78); refine ⟨_, rfl, ?_⟩; replace HO_171008 := Aside0.mk (Kd.V_below (tV_ HO_171008) hb); replace HO_172008 := Aside0.mk (Kd.V_below (tV_ HO_172008) hb); replace HO_189008 := Aside0.mk (Kd.R_below (tR_ HO_189008) hb); replace BK170 := Aside0.mk (blk_below (tk_ BK170) hb); replace BK171 := Aside0.mk (blk_below (tk_ BK171) hb); replace BK188 := Aside0.mk (blk_below (tk_ BK188) hb); replace HB := Aside0.mk (below_step (bw_ HB) hb); (try clear hb); (try clear hb2); (try clear hk); (try clear hi)))
           go_meet
           case rel => exact ⟨_, (true), (by first | rfl | (simp; done) | (simp [*]; done)), H', ⟨by have := HJ2.out; have := HJ20.out; have := HK3.out; have := HJ58.out; first | exact Nat.le_refl _ | omega⟩, ⟨tV_ HO_171008⟩, ⟨tV_ HO_172008⟩, ⟨tR_ HO_189008⟩, ⟨tk_ BK170⟩, ⟨tk_ BK171⟩, ⟨tk_ BK188⟩, ⟨by repeat (first | (with_reducible first | exact HB.out | apply b_a | apply b_n | apply b_d | refine b_s ?_ GE170.out | refine b_s ?_ GE171.out | refine b_s ?_ GE188.out) | exact HB.out)⟩⟩
          subst c79
          have H1 : ((pelotonref15_Right.f kj58 a1_0 a1_1 a1_2 a1_3 a1_4 a1_5 a1_6 a1_7 x172008_3).bind fun t195 => (pelotonlaw15_MsgApart.j4 kj58 t174 (!t195) a0_0 a0_1 a0_2 a0_3 a0_4 a0_5 a0_6 a0_7 x171008_3 a1_0 a1_1 a1_2 a1_3 a1_4 a1_5 a1_6 a1_7 x172008_3)) = some r := by rw [if_pos rfl] at H; exact H
          clear H
          have H := H1
          clear H1
          replace H := Option.bind_eq_some_iff.mp H
          obtain ⟨t195, A800, H⟩ := H
          replace H : (pelotonlaw15_MsgApart.j4 kj58 t174 (!t195) a0_0 a0_1 a0_2 a0_3 a0_4 a0_5 a0_6 a0_7 x171008_3 a1_0 a1_1 a1_2 a1_3 a1_4 a1_5 a1_6 a1_7 x172008_3) = some r := H
          have A80 := Aside0.mk A800
          clear A800
          have H' := Aside0.mk H
          clear H
          have hnb81 := NB170_171.out
          have hnc81 := NB171_170.out
          have hnb82 := NB170_188.out
          have hnc82 := NB188_170.out
          have hcz83_0 := bc_0 BK170
          have hcz83_1 := bc_1 BK170
          have hcz83_2 := bc_2 BK170
          have hcz83_3 := bc_3 BK170
          have hcz83_4 := bc_4 BK170
          have hcz83_5 := bc_5 BK170
          have hcz83_6 := bc_6 BK170
          have hcz83_7 := bc_7 BK170
          have hcz83_8 : wc.cell? ⟨gb170, 8, none⟩ = some (u171008) := (blk_cell BK170.out 8).trans rfl
          have hfz83_0 := blk_frozen BK170.out 0
          have hfz83_1 := blk_frozen BK170.out 1
          have hfz83_2 := blk_frozen BK170.out 2
          have hfz83_3 := blk_frozen BK170.out 3
          have hfz83_4 := blk_frozen BK170.out 4
          have hfz83_5 := blk_frozen BK170.out 5
          have hfz83_6 := blk_frozen BK170.out 6
          have hfz83_7 := blk_frozen BK170.out 7
          have hfz83_8 := blk_frozen BK170.out 8
          obtain ⟨Ao84, co84, eo84⟩ := Kd.V_slice HO_171008.out
          subst eo84
          go_wp2_with (first | ((with_reducible refine gate_callee (f := 8) rfl ?_); refine goesL_ (some 79) rfl rfl Try.func8 (by kernel_rfl) rfl #[.agg #[.int .i64 a0_0, .int .i64 a0_1, .int .i64 a0_2, .int .i64 a0_3, .int .i64 a0_4, .int .i64 a0_5, .int .i64 a0_6, .int .i64 a0_7, .slice Ao84 x171008_3.length co84]] rfl (by (try simp only [l_4, l_5, l_6]); first | done | rfl | (simp only [l_7, l_8]; rfl)) ?_; (with_reducible refine (pelotonref15_Right.calls kj58 a0_0 a0_1 a0_2 a0_3 a0_4 a0_5 a0_6 a0_7 _ _ x171008_3 true _ ?side1 ?side2 A78.out).mono ?_); (case side1 => repeat (first | exact (Kd.V_reads' HO_171008.out).2.2 | (with_reducible refine Kd.C_alloc ?_ _) | (with_reducible refine Kd.C_drewN ?_ _) | (with_reducible refine Kd.C_drew ?_))); (case side2 => exact (Kd.V_reads' HO_171008.out).2.1); rintro e w85 ⟨rfl, hb⟩; (try clear A78); refine ⟨_, rfl, ?_⟩; replace HO_171008 := Aside0.mk (Kd.V_below (tV_ HO_171008) hb); replace HO_172008 := Aside0.mk (Kd.V_below (tV_ HO_172008) hb); replace HO_189008 := Aside0.mk (Kd.R_below (tR_ HO_189008) hb); replace BK170 := Aside0.mk (blk_below (tk_ BK170) hb); replace BK171 := Aside0.mk (blk_below (tk_ BK171) hb); replace BK188 := Aside0.mk (blk_below (tk_ BK188) hb); replace HB := Aside0.mk (below_step (bw_ HB) hb); (try clear hb); (try clear hb2); (try clear hk); (try clear hi); have hnb86 := NB171_188.out; have hnc86 := NB188_171.out; have hcz87_0 := bc_0 BK171; have hcz87_1 := bc_1 BK171; have hcz87_2 := bc_2 BK171; have hcz87_3 := bc_3 BK171; have hcz87_4 := bc_4 BK171; have hcz87_5 := bc_5 BK171; have hcz87_6 := bc_6 BK171; have hcz87_7 := bc_7 BK171; have hcz87_8 : w85.cell? ⟨gb171, 8, none⟩ = some (u172008) := (blk_cell BK171.out 8).trans rfl; have hfz87_0 := blk_frozen BK171.out 0; have hfz87_1 := blk_frozen BK171.out 1; have hfz87_2 := blk_frozen BK171.out 2; have hfz87_3 := blk_frozen BK171.out 3; have hfz87_4 := blk_frozen BK171.out 4; have hfz87_5 := blk_frozen BK171.out 5; have hfz87_6 := blk_frozen BK171.out 6; have hfz87_7 := blk_frozen BK171.out 7; have hfz87_8 := blk_frozen BK171.out 8; obtain ⟨Ao88, co88, eo88⟩ := Kd.V_slice HO_172008.out; subst eo88) | (go_at_call 8; (with_reducible refine (pelotonref15_Right.calls kj58 a1_0 a1_1 a1_2 a1_3 a1_4 a1_5 a1_6 a1_7 _ _ x172008_3 t195 _ ?side1 ?side2 A80.out).mono ?_); (case side1 => repeat (first | exact (Kd.V_reads' HO_172008.out).2.2 | (with_reducible refine Kd.C_alloc ?_ _) | (with_reducible refine Kd.C_drewN ?_ _) | (with_reducible refine Kd.C_drew ?_))); (case side2 => exact (Kd.V_reads' HO_172008.out).2.1); rintro e w89 ⟨rfl, hb⟩; (try clear A80); replace HO_171008 := Aside0.mk (Kd.V_below (tV_ HO_171008) hb); replace HO_172008 := Aside0.mk (Kd.V_below (tV_ HO_172008) hb); replace HO_189008 := Aside0.mk (Kd.R_below (tR_ HO_189008) hb); replace BK170 := Aside0.mk (blk_below (tk_ BK170) hb); replace BK171 := Aside0.mk (blk_below (tk_ BK171) hb); replace BK188 := Aside0.mk (blk_below (tk_ BK188) hb); replace HB := Aside0.mk (below_step (bw_ HB) hb); (try clear hb); (try clear hb2); (try clear hk); (try clear hi); (first | ((with_reducible refine gate_store_ rfl ?_); refine st9_ rfl rfl rfl rfl rfl (by with_reducible assumption) (by kernel_rfl) (by simp [Value.oneCell']) ?_; clear hcz87_0 hfz87_0 hcz87_1 hfz87_1 hcz87_2 hfz87_2 hcz87_3 hfz87_3 hcz87_4 hfz87_4 hcz87_5 hfz87_5 hcz87_6 hfz87_6 hcz87_7 hfz87_7 hcz87_8 hfz87_8; intro hb9_; have BN87 := Aside0.mk hb9_; clear hb9_) | skip)))
          go_meet
          case rel => exact ⟨_, (!t195), (by first | rfl | (simp; done) | (simp [*]; done)), H', ⟨by have := HJ2.out; have := HJ20.out; have := HK3.out; have := HJ58.out; first | exact Nat.le_refl _ | omega⟩, ⟨tV_ HO_171008⟩, ⟨tV_ HO_172008⟩, ⟨tR_ HO_189008⟩, ⟨tk_ BK170⟩, ⟨tk_ BK171⟩, ⟨tk_ BK188⟩, ⟨by repeat (first | (with_reducible first | exact HB.out | apply b_a | apply b_n | apply b_d | refine b_s ?_ GE170.out | refine b_s ?_ GE171.out | refine b_s ?_ GE188.out) | exact HB.out)⟩⟩
         case rest => as_aux_lemma =>
          clear HC77
          try clear c1
          try clear p1
          try clear q1
          try clear hx1
          try clear qi1
          try clear p2
          try clear c6
          try clear c7
          try clear c8
          try clear c9
          try clear c14
          try clear p19
          try clear q19
          try clear hx19
          try clear qi19
          try clear c64
          try clear c64b0
          try clear c64b1
          try clear c66
          try clear c70
          try clear c70b0
          try clear c70b1
          try clear c71
          try clear c71b0
          try clear c71b1
          try clear c76
          try clear c79
          try clear c81
          try clear c82
          try clear c86
          try clear c90
          try clear c91
          try clear hcz83_0
          try clear hcz83_1
          try clear hcz83_2
          try clear hcz83_3
          try clear hcz83_4
          try clear hcz83_5
          try clear hcz83_6
          try clear hcz83_7
          try clear hcz83_8
          try clear hcz87_0
          try clear hcz87_1
          try clear hcz87_2
          try clear hcz87_3
          try clear hcz87_4
          try clear hcz87_5
          try clear hcz87_6
          try clear hcz87_7
          try clear hcz87_8
          try clear hcz92_0
          try clear hcz92_1
          try clear hcz92_2
          try clear hcz92_3
          try clear hcz92_4
          try clear hcz92_5
          try clear hcz92_6
          try clear hcz92_7
          try clear hcz92_8
          try clear hfz83_0
          try clear hfz83_1
          try clear hfz83_2
          try clear hfz83_3
          try clear hfz83_4
          try clear hfz83_5
          try clear hfz83_6
          try clear hfz83_7
          try clear hfz83_8
          try clear hfz87_0
          try clear hfz87_1
          try clear hfz87_2
          try clear hfz87_3
          try clear hfz87_4
          try clear hfz87_5
          try clear hfz87_6
          try clear hfz87_7
          try clear hfz87_8
          try clear hfz92_0
          try clear hfz92_1
          try clear hfz92_2
          try clear hfz92_3
          try clear hfz92_4
          try clear hfz92_5
          try clear hfz92_6
          try clear hfz92_7
          try clear hfz92_8
          try clear hx192_0
          try clear hx193_0
          try clear p1
          try clear p19
          try clear p192
          try clear p193
          try clear p2
          try clear q1
          try clear q19
          try clear q192
          try clear q193
          obtain ⟨kq, x85_76, rfl, HA, HJ76, HO_171008, HO_172008, HO_189008, BK170, BK171, BK188, HB⟩ := hcut
          cases kq with
          | zero => exact absurd HA.out (by simp [pelotonlaw15_MsgApart.j4])
          | succ kj76 =>
           have H := HA.out
           clear HA
           simp only [pelotonlaw15_MsgApart.j4] at H
           by_cases c95 : x85_76 = true
           ·
            subst c95
            have H1 : ((msg_Right.f kj76 (([(⟨a0_0, a0_1, a0_2, a0_3, a0_4, a0_5, a0_6, a0_7, x171008_3⟩ : S24), (⟨a1_0, a1_1, a1_2, a1_3, a1_4, a1_5, a1_6, a1_7, x172008_3⟩ : S24)] : List (S24)))).bind fun t199 => (some (t199 == false))) = some r := by rw [if_pos rfl] at H; exact H
            clear H
            have H := H1
            clear H1
            obtain ⟨y196, hy196⟩ : ∃ y_ : List (S24), y_ = (([(⟨a0_0, a0_1, a0_2, a0_3, a0_4, a0_5, a0_6, a0_7, x171008_3⟩ : S24), (⟨a1_0, a1_1, a1_2, a1_3, a1_4, a1_5, a1_6, a1_7, x172008_3⟩ : S24)] : List (S24))) := ⟨_, rfl⟩
            replace H : ((msg_Right.f kj76 y196).bind fun t199 => (some (t199 == false))) = some r := by first | (rw [hy196]; with_reducible exact H) | (have H2_ := (Option.bind_some _ _).symm.trans H; rw [hy196]; with_reducible exact H2_) | (have H2_ := (Option.bind_some _ _).symm.trans H; with_reducible exact H2_) | with_reducible exact H | (rw [hy196]; exact H) | exact H
            have Ny196 := Aside0.mk hy196
            clear hy196
            replace H := Option.bind_eq_some_iff.mp H
            obtain ⟨t199, A960, H⟩ := H
            replace H : (some (t199 == false)) = some r := H
            have A96 := Aside0.mk A960
            clear A960
            obtain rfl := Option.some.inj H
            have hnb97 := NB170_171.out
            have hnc97 := NB171_170.out
            have hnb98 := NB170_188.out
            have hnc98 := NB188_170.out
            have hcz99_0 := bc_0 BK170
            have hcz99_1 := bc_1 BK170
            have hcz99_2 := bc_2 BK170
            have hcz99_3 := bc_3 BK170
            have hcz99_4 := bc_4 BK170
            have hcz99_5 := bc_5 BK170
            have hcz99_6 := bc_6 BK170
            have hcz99_7 := bc_7 BK170
            have hcz99_8 : wc.cell? ⟨gb170, 8, none⟩ = some (u171008) := (blk_cell BK170.out 8).trans rfl
            have hfz99_0 := blk_frozen BK170.out 0
            have hfz99_1 := blk_frozen BK170.out 1
            have hfz99_2 := blk_frozen BK170.out 2
            have hfz99_3 := blk_frozen BK170.out 3
            have hfz99_4 := blk_frozen BK170.out 4
            have hfz99_5 := blk_frozen BK170.out 5
            have hfz99_6 := blk_frozen BK170.out 6
            have hfz99_7 := blk_frozen BK170.out 7
            have hfz99_8 := blk_frozen BK170.out 8
            have hnb100 := NB171_188.out
            have hnc100 := NB188_171.out
            have hcz101_0 := bc_0 BK171
            have hcz101_1 := bc_1 BK171
            have hcz101_2 := bc_2 BK171
            have hcz101_3 := bc_3 BK171
            have hcz101_4 := bc_4 BK171
            have hcz101_5 := bc_5 BK171
            have hcz101_6 := bc_6 BK171
            have hcz101_7 := bc_7 BK171
            have hcz101_8 : wc.cell? ⟨gb171, 8, none⟩ = some (u172008) := (blk_cell BK171.out 8).trans rfl
            have hfz101_0 := blk_frozen BK171.out 0
            have hfz101_1 := blk_frozen BK171.out 1
            have hfz101_2 := blk_frozen BK171.out 2
            have hfz101_3 := blk_frozen BK171.out 3
            have hfz101_4 := blk_frozen BK171.out 4
            have hfz101_5 := blk_frozen BK171.out 5
            have hfz101_6 := blk_frozen BK171.out 6
            have hfz101_7 := blk_frozen BK171.out 7
            have hfz101_8 := blk_frozen BK171.out 8
            obtain ⟨Ao102, co102, eo102⟩ := Kd.V_slice HO_171008.out
            subst eo102
            obtain ⟨Ao103, co103, eo103⟩ := Kd.V_slice HO_172008.out
            subst eo103
            go_wp2_with (first | ((with_reducible refine gate_dst (N := 88) rfl ?_); (try (refine gate_guard (by rfl) ?_; dsimp only)); refine Kd.N_lit k24 _ 24 ?hg (N' := 88) ?hd (xs := ([(⟨a0_0, a0_1, a0_2, a0_3, a0_4, a0_5, a0_6, a0_7, x171008_3⟩ : S24), (⟨a1_0, a1_1, a1_2, a1_3, a1_4, a1_5, a1_6, a1_7, x172008_3⟩ : S24)] : List (S24))) (inner := [.int .i64 a0_0, .int .i64 a0_1, .int .i64 a0_2, .int .i64 a0_3, .int .i64 a0_4, .int .i64 a0_5, .int .i64 a0_6, .int .i64 a0_7, .slice Ao102 x171008_3.length co102, .int .i64 a1_0, .int .i64 a1_1, .int .i64 a1_2, .int .i64 a1_3, .int .i64 a1_4, .int .i64 a1_5, .int .i64 a1_6, .int .i64 a1_7, .slice Ao103 x172008_3.length co103]) (ok := (fun k_ => ((P0_8_ k_ ∨ P1_8_ k_) ∨ w.heap.size ≤ k_) ∧ some k_ ≠ (.slice Ao63 x189008_3.length co63 : Value).ownBlock ∧ k_ ≠ gb170 ∧ k_ ≠ gb171 ∧ k_ ≠ gb188)) (okp := (fun k_ => ((P0_8_ k_ ∨ P1_8_ k_) ∨ w.heap.size ≤ k_) ∧ some k_ ≠ (.slice Ao63 x189008_3.length co63 : Value).ownBlock ∧ k_ ≠ gb170 ∧ k_ ≠ gb171 ∧ k_ ≠ gb188)) ?hr ?hp (fun _ hk => hk) ((show ∀ k_, (_ : Nat) ≤ k_ → (fun k_ => ((P0_8_ k_ ∨ P1_8_ k_) ∨ w.heap.size ≤ k_) ∧ some k_ ≠ (.slice Ao63 x189008_3.length co63 : Value).ownBlock ∧ k_ ≠ gb170 ∧ k_ ≠ gb171 ∧ k_ ≠ gb188) k_ from fun k_ hk => ⟨(.inr (Nat.le_trans (below_size (bw_ HB)) hk)), Kd.fresh' (Kd.R_lt (tR_ HO_189008)) k_ hk, Kd.freshB (tk_ BK170) k_ hk, Kd.freshB (tk_ BK171) k_ hk, Kd.freshB (tk_ BK188) k_ hk⟩) _ (Nat.le_refl _)) (Below.refl _ _) (Nat.le_refl _) (by simp) ?_; (case hd => rfl); (case hg => rfl); (case hr => first | exact bld9_ ((.int .i64 0)) ((.int .i64 0)) ((.int .i64 0)) ((.int .i64 0)) ((.int .i64 0)) ((.int .i64 0)) ((.int .i64 0)) ((.int .i64 0)) ((.slice none 0 0)) rfl rfl | (refine bld92_ ((.int .i64 0)) ((.int .i64 0)) ((.int .i64 0)) ((.int .i64 0)) ((.int .i64 0)) ((.int .i64 0)) ((.int .i64 0)) ((.int .i64 0)) ((.slice none 0 0)) rfl ?_ ?_ ?_ ?_ <;> rfl)); (case hp => exact (Reps.c9 (show Kd.FK k24 _ _ (⟨a0_0, a0_1, a0_2, a0_3, a0_4, a0_5, a0_6, a0_7, x171008_3⟩ : S24) [.int .i64 a0_0, .int .i64 a0_1, .int .i64 a0_2, .int .i64 a0_3, .int .i64 a0_4, .int .i64 a0_5, .int .i64 a0_6, .int .i64 a0_7, .slice Ao102 x171008_3.length co102] from (k24_mkF _ _ (⟨a0_0, a0_1, a0_2, a0_3, a0_4, a0_5, a0_6, a0_7, x171008_3⟩ : S24) (Kd.V_reads' (Kd.V_mono (ok' := (fun k_ => ((P0_8_ k_ ∨ P1_8_ k_) ∨ w.heap.size ≤ k_) ∧ some k_ ≠ (.slice Ao63 x189008_3.length co63 : Value).ownBlock ∧ k_ ≠ gb170 ∧ k_ ≠ gb171 ∧ k_ ≠ gb188)) (HO_171008.out) (fun k_ hk => ⟨hk.1, ⟨hk.2.1, ⟨hk.2.2.1, ⟨hk.2.2.2.1, hk.2.2.2.2⟩⟩⟩⟩))).2.1 (Kd.V_F (Kd.V_mono (ok' := (fun k_ => ((P0_8_ k_ ∨ P1_8_ k_) ∨ w.heap.size ≤ k_) ∧ some k_ ≠ (.slice Ao63 x189008_3.length co63 : Value).ownBlock ∧ k_ ≠ gb170 ∧ k_ ≠ gb171 ∧ k_ ≠ gb188)) (HO_171008.out) (fun k_ hk => ⟨hk.1, ⟨hk.2.1, ⟨hk.2.2.1, ⟨hk.2.2.2.1, hk.2.2.2.2⟩⟩⟩⟩))))) (Reps.c9 (show Kd.FK k24 _ _ (⟨a1_0, a1_1, a1_2, a1_3, a1_4, a1_5, a1_6, a1_7, x172008_3⟩ : S24) [.int .i64 a1_0, .int .i64 a1_1, .int .i64 a1_2, .int .i64 a1_3, .int .i64 a1_4, .int .i64 a1_5, .int .i64 a1_6, .int .i64 a1_7, .slice Ao103 x172008_3.length co103] from (k24_mkF _ _ (⟨a1_0, a1_1, a1_2, a1_3, a1_4, a1_5, a1_6, a1_7, x172008_3⟩ : S24) (Kd.V_reads' (Kd.V_mono (ok' := (fun k_ => ((P0_8_ k_ ∨ P1_8_ k_) ∨ w.heap.size ≤ k_) ∧ some k_ ≠ (.slice Ao63 x189008_3.length co63 : Value).ownBlock ∧ k_ ≠ gb170 ∧ k_ ≠ gb171 ∧ k_ ≠ gb188)) (HO_172008.out) (fun k_ hk => ⟨hk.1, ⟨hk.2.1, ⟨hk.2.2.1, ⟨hk.2.2.2.1, hk.2.2.2.2⟩⟩⟩⟩))).2.1 (Kd.V_F (Kd.V_mono (ok' := (fun k_ => ((P0_8_ k_ ∨ P1_8_ k_) ∨ w.heap.size ≤ k_) ∧ some k_ ≠ (.slice Ao63 x189008_3.length co63 : Value).ownBlock ∧ k_ ≠ gb170 ∧ k_ ≠ gb171 ∧ k_ ≠ gb188)) (HO_172008.out) (fun k_ hk => ⟨hk.1, ⟨hk.2.1, ⟨hk.2.2.1, ⟨hk.2.2.2.1, hk.2.2.2.2⟩⟩⟩⟩))))) (Reps.none _ _)))); intro v197 w104 ho105 hb hg_ hnew_; clear hg_ hnew_; (first | rw [← Ny196.out] at ho105 | (simp only [Int.reduceToNat] at ho105; rw [← Ny196.out] at ho105)); have HO198 := Aside0.mk (Kd.N_lower ho105 (below_size (bw_ HB))); replace HO_171008 := Aside0.mk (Kd.V_elder' (tV_ HO_171008) (by first | exact Kd.N_base ho105 | exact Kd.N_base (Kd.S_N ho105)) hb); replace HO_172008 := Aside0.mk (Kd.V_elder' (tV_ HO_172008) (by first | exact Kd.N_base ho105 | exact Kd.N_base (Kd.S_N ho105)) hb); replace HO_189008 := Aside0.mk (Kd.R_below (tR_ HO_189008) hb); replace BK170 := Aside0.mk (blk_below (tk_ BK170) hb); replace BK171 := Aside0.mk (blk_below (tk_ BK171) hb); replace BK188 := Aside0.mk (blk_below (tk_ BK188) hb); replace HB := Aside0.mk (below_step (bw_ HB) hb); clear hb ho105; obtain ⟨Ao106, co106, eo106⟩ := Kd.N_slice HO198.out; subst eo106) | ((with_reducible refine gate_callee (f := 12) rfl ?_); refine goesL_ (some 89) rfl rfl Try.func12 (by kernel_rfl) rfl #[.slice Ao106 y196.length co106] rfl (by (try simp only [l_4, l_5, l_6]); first | done | rfl | (simp only [l_7, l_8]; rfl)) ?_; (with_reducible refine (msg_Right.calls kj76 _ _ y196 t199 _ ?side1 ?side2 A96.out).mono ?_); (case side1 => repeat (first | exact (Kd.N_reads' HO198.out).2.2 | (with_reducible refine Kd.C_alloc ?_ _) | (with_reducible refine Kd.C_drewN ?_ _) | (with_reducible refine Kd.C_drew ?_))); (case side2 => exact (Kd.N_reads' HO198.out).2.1); rintro e w107 ⟨rfl, hb⟩; (try clear A96); refine ⟨_, rfl, ?_⟩; replace HO_171008 := Aside0.mk (Kd.V_below (tV_ HO_171008) hb); replace HO_172008 := Aside0.mk (Kd.V_below (tV_ HO_172008) hb); replace HO_189008 := Aside0.mk (Kd.R_below (tR_ HO_189008) hb); replace HO198 := Aside0.mk (Kd.N_below (tN_ HO198) hb); replace BK170 := Aside0.mk (blk_below (tk_ BK170) hb); replace BK171 := Aside0.mk (blk_below (tk_ BK171) hb); replace BK188 := Aside0.mk (blk_below (tk_ BK188) hb); replace HB := Aside0.mk (below_step (bw_ HB) hb); (try clear hb); (try clear hb2); (try clear hk); (try clear hi)))
            go_ret
            exact ⟨by first | rfl | (simp [errW_none, errW_some] <;> rfl) | (simp [*, errW_none, errW_some] <;> rfl), by repeat (first | (with_reducible first | exact HB.out | apply b_a | apply b_n | apply b_d | refine b_s ?_ GE170.out | refine b_s ?_ GE171.out | refine b_s ?_ GE188.out) | exact HB.out)⟩
           replace c95 := Bool.eq_false_iff.mpr c95
           subst c95
           have H1 : ((msg_Bytes.f a0_0 a0_1 a0_2 a0_3 a0_4 a0_5 a0_6 a0_7 x171008_3).bind fun bt200 => ((msg_Bytes.f a1_0 a1_1 a1_2 a1_3 a1_4 a1_5 a1_6 a1_7 x172008_3).bind fun bt204 => (if bt200.2 = 0 then (if bt204.2 = 0 then ((msg_Right.f kj76 (([(⟨a0_0, a0_1, a0_2, a0_3, a0_4, a0_5, a0_6, a0_7, x171008_3⟩ : S24), (⟨a1_0, a1_1, a1_2, a1_3, a1_4, a1_5, a1_6, a1_7, x172008_3⟩ : S24)] : List (S24)))).bind fun t211 => (if t211 = true then (some (((strOfNums bt200.1).toList == (strOfNums bt204.1).toList) == t174)) else (some false))) else (some false)) else (some false)))) = some r := by rw [if_neg (show ¬ (false = true) by decide)] at H; exact H
           clear H
           have H := H1
           clear H1
           replace H := Option.bind_eq_some_iff.mp H
           obtain ⟨⟨t200, t203⟩, A1080, H⟩ := H
           replace H : ((msg_Bytes.f a1_0 a1_1 a1_2 a1_3 a1_4 a1_5 a1_6 a1_7 x172008_3).bind fun bt204 => (if t203 = 0 then (if bt204.2 = 0 then ((msg_Right.f kj76 (([(⟨a0_0, a0_1, a0_2, a0_3, a0_4, a0_5, a0_6, a0_7, x171008_3⟩ : S24), (⟨a1_0, a1_1, a1_2, a1_3, a1_4, a1_5, a1_6, a1_7, x172008_3⟩ : S24)] : List (S24)))).bind fun t211 => (if t211 = true then (some (((strOfNums t200).toList == (strOfNums bt204.1).toList) == t174)) else (some false))) else (some false)) else (some false))) = some r := H
           have A108 := Aside0.mk A1080
           clear A1080
           replace H := Option.bind_eq_some_iff.mp H
           obtain ⟨⟨t204, t207⟩, A1090, H⟩ := H
           replace H : (if t203 = 0 then (if t207 = 0 then ((msg_Right.f kj76 (([(⟨a0_0, a0_1, a0_2, a0_3, a0_4, a0_5, a0_6, a0_7, x171008_3⟩ : S24), (⟨a1_0, a1_1, a1_2, a1_3, a1_4, a1_5, a1_6, a1_7, x172008_3⟩ : S24)] : List (S24)))).bind fun t211 => (if t211 = true then (some (((strOfNums t200).toList == (strOfNums t204).toList) == t174)) else (some false))) else (some false)) else (some false)) = some r := H
           have A109 := Aside0.mk A1090
           clear A1090
           by_cases c110 : t203 = 0
           rotate_left
           ·
            rw [if_neg c110] at H
            have c110b0 : (t203 == 0) = false := beq_eq_false_iff_ne.mpr c110
            have c110b1 : (t203 != 0) = true := bne_iff_ne.mpr c110
            obtain rfl := Option.some.inj H
            have hnb157 := NB170_171.out
            have hnc157 := NB171_170.out
            have hnb158 := NB170_188.out
            have hnc158 := NB188_170.out
            have hcz159_0 := bc_0 BK170
            have hcz159_1 := bc_1 BK170
            have hcz159_2 := bc_2 BK170
            have hcz159_3 := bc_3 BK170
            have hcz159_4 := bc_4 BK170
            have hcz159_5 := bc_5 BK170
            have hcz159_6 := bc_6 BK170
            have hcz159_7 := bc_7 BK170
            have hcz159_8 : wc.cell? ⟨gb170, 8, none⟩ = some (u171008) := (blk_cell BK170.out 8).trans rfl
            have hfz159_0 := blk_frozen BK170.out 0
            have hfz159_1 := blk_frozen BK170.out 1
            have hfz159_2 := blk_frozen BK170.out 2
            have hfz159_3 := blk_frozen BK170.out 3
            have hfz159_4 := blk_frozen BK170.out 4
            have hfz159_5 := blk_frozen BK170.out 5
            have hfz159_6 := blk_frozen BK170.out 6
            have hfz159_7 := blk_frozen BK170.out 7
            have hfz159_8 := blk_frozen BK170.out 8
            obtain ⟨Ao160, co160, eo160⟩ := Kd.V_slice HO_171008.out
            subst eo160
            go_wp2_with (first | ((with_reducible refine gate_callee (f := 11) rfl ?_); refine goesL_ (some 93) rfl rfl Try.func11 (by kernel_rfl) rfl #[.agg #[.int .i64 a0_0, .int .i64 a0_1, .int .i64 a0_2, .int .i64 a0_3, .int .i64 a0_4, .int .i64 a0_5, .int .i64 a0_6, .int .i64 a0_7, .slice Ao160 x171008_3.length co160]] rfl (by (try simp only [l_4, l_5, l_6]); first | done | rfl | (simp only [l_7, l_8]; rfl)) ?_; (with_reducible refine (msg_Bytes.calls a0_0 a0_1 a0_2 a0_3 a0_4 a0_5 a0_6 a0_7 _ _ x171008_3 t200 t203 _ ?side1 ?side2 A108.out).mono ?_); (case side1 => repeat (first | exact (Kd.V_reads' HO_171008.out).2.2 | (with_reducible refine Kd.C_alloc ?_ _) | (with_reducible refine Kd.C_drewN ?_ _) | (with_reducible refine Kd.C_drew ?_))); (case side2 => exact (Kd.V_reads' HO_171008.out).2.1); rintro e w161 ⟨v201, rfl, ho0, hb⟩; (try clear A108); refine ⟨_, rfl, ?_⟩; have HO202 := Aside0.mk (Kd.R_lower (Kd.R_newM (M := fun k_ => (w.heap.size ≤ k_)) ho0 (below_size (bw_ HB)) (fun k_ h_ => h_)) (below_size (bw_ HB))); replace HO_171008 := Aside0.mk (Kd.V_elder' (tV_ HO_171008) (Kd.R_base ho0) hb); replace HO_172008 := Aside0.mk (Kd.V_elder' (tV_ HO_172008) (Kd.R_base ho0) hb); replace HO_189008 := Aside0.mk (Kd.R_below (tR_ HO_189008) hb); replace BK170 := Aside0.mk (blk_below (tk_ BK170) hb); replace BK171 := Aside0.mk (blk_below (tk_ BK171) hb); replace BK188 := Aside0.mk (blk_below (tk_ BK188) hb); replace HB := Aside0.mk (below_step (bw_ HB) hb); (try clear hb); (try clear hb2); (try clear hk); (try clear hi); (try clear ho0); have hnb162 := NB171_188.out; have hnc162 := NB188_171.out; have hcz163_0 := bc_0 BK171; have hcz163_1 := bc_1 BK171; have hcz163_2 := bc_2 BK171; have hcz163_3 := bc_3 BK171; have hcz163_4 := bc_4 BK171; have hcz163_5 := bc_5 BK171; have hcz163_6 := bc_6 BK171; have hcz163_7 := bc_7 BK171; have hcz163_8 : w161.cell? ⟨gb171, 8, none⟩ = some (u172008) := (blk_cell BK171.out 8).trans rfl; have hfz163_0 := blk_frozen BK171.out 0; have hfz163_1 := blk_frozen BK171.out 1; have hfz163_2 := blk_frozen BK171.out 2; have hfz163_3 := blk_frozen BK171.out 3; have hfz163_4 := blk_frozen BK171.out 4; have hfz163_5 := blk_frozen BK171.out 5; have hfz163_6 := blk_frozen BK171.out 6; have hfz163_7 := blk_frozen BK171.out 7; have hfz163_8 := blk_frozen BK171.out 8; obtain ⟨Ao164, co164, eo164⟩ := Kd.V_slice HO_172008.out; subst eo164; (first | ((with_reducible refine gate_store_ rfl ?_); refine st9_ rfl rfl rfl rfl rfl (by with_reducible assumption) (by kernel_rfl) (by simp [Value.oneCell']) ?_; clear hcz163_0 hfz163_0 hcz163_1 hfz163_1 hcz163_2 hfz163_2 hcz163_3 hfz163_3 hcz163_4 hfz163_4 hcz163_5 hfz163_5 hcz163_6 hfz163_6 hcz163_7 hfz163_7 hcz163_8 hfz163_8; intro hb9_; have BN163 := Aside0.mk hb9_; clear hb9_) | skip)) | ((with_reducible refine gate_callee (f := 11) rfl ?_); refine goesL_ (some 98) rfl rfl Try.func11 (by kernel_rfl) rfl #[.agg #[.int .i64 a1_0, .int .i64 a1_1, .int .i64 a1_2, .int .i64 a1_3, .int .i64 a1_4, .int .i64 a1_5, .int .i64 a1_6, .int .i64 a1_7, .slice Ao164 x172008_3.length co164]] rfl (by (try simp only [l_4, l_5, l_6]); first | done | rfl | (simp only [l_7, l_8]; rfl)) ?_; (with_reducible refine (msg_Bytes.calls a1_0 a1_1 a1_2 a1_3 a1_4 a1_5 a1_6 a1_7 _ _ x172008_3 t204 t207 _ ?side1 ?side2 A109.out).mono ?_); (case side1 => repeat (first | exact (Kd.V_reads' HO_172008.out).2.2 | (with_reducible refine Kd.C_alloc ?_ _) | (with_reducible refine Kd.C_drewN ?_ _) | (with_reducible refine Kd.C_drew ?_))); (case side2 => exact (Kd.V_reads' HO_172008.out).2.1); rintro e w165 ⟨v205, rfl, ho0, hb⟩; (try clear A109); refine ⟨_, rfl, ?_⟩; have HO206 := Aside0.mk (Kd.R_lower (Kd.R_new' (Kd.R_newM (M := fun k_ => (w.heap.size ≤ k_)) ho0 (below_size (bw_ HB)) (fun k_ h_ => h_)) (Kd.R_lt (tR_ HO202))) (below_size (bw_ HB))); replace HO_171008 := Aside0.mk (Kd.V_elder' (tV_ HO_171008) (Kd.R_base ho0) hb); replace HO_172008 := Aside0.mk (Kd.V_elder' (tV_ HO_172008) (Kd.R_base ho0) hb); replace HO_189008 := Aside0.mk (Kd.R_below (tR_ HO_189008) hb); replace HO202 := Aside0.mk (Kd.R_elder' (tR_ HO202) (Kd.R_base ho0) hb); replace BK170 := Aside0.mk (blk_below (tk_ BK170) hb); replace BK171 := Aside0.mk (blk_below (tk_ BK171) hb); replace BK188 := Aside0.mk (blk_below (tk_ BK188) hb); replace HB := Aside0.mk (below_step (bw_ HB) hb); (try clear hb); (try clear hb2); (try clear hk); (try clear hi); (try clear ho0)))
            go_ret
            exact ⟨by first | rfl | (simp [errW_none, errW_some] <;> rfl) | (simp [*, errW_none, errW_some] <;> rfl), by repeat (first | (with_reducible first | exact HB.out | apply b_a | apply b_n | apply b_d | refine b_s ?_ GE170.out | refine b_s ?_ GE171.out | refine b_s ?_ GE188.out) | exact HB.out)⟩

           rw [if_pos c110] at H
           have c110b0 : (t203 == 0) = true := beq_iff_eq.mpr c110
           have c110b1 : (t203 != 0) = false := bne_eq_false_iff_eq.mpr c110
           clear c110
           by_cases c111 : t207 = 0
           rotate_left
           ·
            rw [if_neg c111] at H
            have c111b0 : (t207 == 0) = false := beq_eq_false_iff_ne.mpr c111
            have c111b1 : (t207 != 0) = true := bne_iff_ne.mpr c111
            obtain rfl := Option.some.inj H
            have hnb148 := NB170_171.out
            have hnc148 := NB171_170.out
            have hnb149 := NB170_188.out
            have hnc149 := NB188_170.out
            have hcz150_0 := bc_0 BK170
            have hcz150_1 := bc_1 BK170
            have hcz150_2 := bc_2 BK170
            have hcz150_3 := bc_3 BK170
            have hcz150_4 := bc_4 BK170
            have hcz150_5 := bc_5 BK170
            have hcz150_6 := bc_6 BK170
            have hcz150_7 := bc_7 BK170
            have hcz150_8 : wc.cell? ⟨gb170, 8, none⟩ = some (u171008) := (blk_cell BK170.out 8).trans rfl
            have hfz150_0 := blk_frozen BK170.out 0
            have hfz150_1 := blk_frozen BK170.out 1
            have hfz150_2 := blk_frozen BK170.out 2
            have hfz150_3 := blk_frozen BK170.out 3
            have hfz150_4 := blk_frozen BK170.out 4
            have hfz150_5 := blk_frozen BK170.out 5
            have hfz150_6 := blk_frozen BK170.out 6
            have hfz150_7 := blk_frozen BK170.out 7
            have hfz150_8 := blk_frozen BK170.out 8
            obtain ⟨Ao151, co151, eo151⟩ := Kd.V_slice HO_171008.out
            subst eo151
            go_wp2_with (first | ((with_reducible refine gate_callee (f := 11) rfl ?_); refine goesL_ (some 93) rfl rfl Try.func11 (by kernel_rfl) rfl #[.agg #[.int .i64 a0_0, .int .i64 a0_1, .int .i64 a0_2, .int .i64 a0_3, .int .i64 a0_4, .int .i64 a0_5, .int .i64 a0_6, .int .i64 a0_7, .slice Ao151 x171008_3.length co151]] rfl (by (try simp only [l_4, l_5, l_6]); first | done | rfl | (simp only [l_7, l_8]; rfl)) ?_; (with_reducible refine (msg_Bytes.calls a0_0 a0_1 a0_2 a0_3 a0_4 a0_5 a0_6 a0_7 _ _ x171008_3 t200 t203 _ ?side1 ?side2 A108.out).mono ?_); (case side1 => repeat (first | exact (Kd.V_reads' HO_171008.out).2.2 | (with_reducible refine Kd.C_alloc ?_ _) | (with_reducible refine Kd.C_drewN ?_ _) | (with_reducible refine Kd.C_drew ?_))); (case side2 => exact (Kd.V_reads' HO_171008.out).2.1); rintro e w152 ⟨v201, rfl, ho0, hb⟩; (try clear A108); refine ⟨_, rfl, ?_⟩; have HO202 := Aside0.mk (Kd.R_lower (Kd.R_newM (M := fun k_ => (w.heap.size ≤ k_)) ho0 (below_size (bw_ HB)) (fun k_ h_ => h_)) (below_size (bw_ HB))); replace HO_171008 := Aside0.mk (Kd.V_elder' (tV_ HO_171008) (Kd.R_base ho0) hb); replace HO_172008 := Aside0.mk (Kd.V_elder' (tV_ HO_172008) (Kd.R_base ho0) hb); replace HO_189008 := Aside0.mk (Kd.R_below (tR_ HO_189008) hb); replace BK170 := Aside0.mk (blk_below (tk_ BK170) hb); replace BK171 := Aside0.mk (blk_below (tk_ BK171) hb); replace BK188 := Aside0.mk (blk_below (tk_ BK188) hb); replace HB := Aside0.mk (below_step (bw_ HB) hb); (try clear hb); (try clear hb2); (try clear hk); (try clear hi); (try clear ho0); have hnb153 := NB171_188.out; have hnc153 := NB188_171.out; have hcz154_0 := bc_0 BK171; have hcz154_1 := bc_1 BK171; have hcz154_2 := bc_2 BK171; have hcz154_3 := bc_3 BK171; have hcz154_4 := bc_4 BK171; have hcz154_5 := bc_5 BK171; have hcz154_6 := bc_6 BK171; have hcz154_7 := bc_7 BK171; have hcz154_8 : w152.cell? ⟨gb171, 8, none⟩ = some (u172008) := (blk_cell BK171.out 8).trans rfl; have hfz154_0 := blk_frozen BK171.out 0; have hfz154_1 := blk_frozen BK171.out 1; have hfz154_2 := blk_frozen BK171.out 2; have hfz154_3 := blk_frozen BK171.out 3; have hfz154_4 := blk_frozen BK171.out 4; have hfz154_5 := blk_frozen BK171.out 5; have hfz154_6 := blk_frozen BK171.out 6; have hfz154_7 := blk_frozen BK171.out 7; have hfz154_8 := blk_frozen BK171.out 8; obtain ⟨Ao155, co155, eo155⟩ := Kd.V_slice HO_172008.out; subst eo155; (first | ((with_reducible refine gate_store_ rfl ?_); refine st9_ rfl rfl rfl rfl rfl (by with_reducible assumption) (by kernel_rfl) (by simp [Value.oneCell']) ?_; clear hcz154_0 hfz154_0 hcz154_1 hfz154_1 hcz154_2 hfz154_2 hcz154_3 hfz154_3 hcz154_4 hfz154_4 hcz154_5 hfz154_5 hcz154_6 hfz154_6 hcz154_7 hfz154_7 hcz154_8 hfz154_8; intro hb9_; have BN154 := Aside0.mk hb9_; clear hb9_) | skip)) | ((with_reducible refine gate_callee (f := 11) rfl ?_); refine goesL_ (some 98) rfl rfl Try.func11 (by kernel_rfl) rfl #[.agg #[.int .i64 a1_0, .int .i64 a1_1, .int .i64 a1_2, .int .i64 a1_3, .int .i64 a1_4, .int .i64 a1_5, .int .i64 a1_6, .int .i64 a1_7, .slice Ao155 x172008_3.length co155]] rfl (by (try simp only [l_4, l_5, l_6]); first | done | rfl | (simp only [l_7, l_8]; rfl)) ?_; (with_reducible refine (msg_Bytes.calls a1_0 a1_1 a1_2 a1_3 a1_4 a1_5 a1_6 a1_7 _ _ x172008_3 t204 t207 _ ?side1 ?side2 A109.out).mono ?_); (case side1 => repeat (first | exact (Kd.V_reads' HO_172008.out).2.2 | (with_reducible refine Kd.C_alloc ?_ _) | (with_reducible refine Kd.C_drewN ?_ _) | (with_reducible refine Kd.C_drew ?_))); (case side2 => exact (Kd.V_reads' HO_172008.out).2.1); rintro e w156 ⟨v205, rfl, ho0, hb⟩; (try clear A109); refine ⟨_, rfl, ?_⟩; have HO206 := Aside0.mk (Kd.R_lower (Kd.R_new' (Kd.R_newM (M := fun k_ => (w.heap.size ≤ k_)) ho0 (below_size (bw_ HB)) (fun k_ h_ => h_)) (Kd.R_lt (tR_ HO202))) (below_size (bw_ HB))); replace HO_171008 := Aside0.mk (Kd.V_elder' (tV_ HO_171008) (Kd.R_base ho0) hb); replace HO_172008 := Aside0.mk (Kd.V_elder' (tV_ HO_172008) (Kd.R_base ho0) hb); replace HO_189008 := Aside0.mk (Kd.R_below (tR_ HO_189008) hb); replace HO202 := Aside0.mk (Kd.R_elder' (tR_ HO202) (Kd.R_base ho0) hb); replace BK170 := Aside0.mk (blk_below (tk_ BK170) hb); replace BK171 := Aside0.mk (blk_below (tk_ BK171) hb); replace BK188 := Aside0.mk (blk_below (tk_ BK188) hb); replace HB := Aside0.mk (below_step (bw_ HB) hb); (try clear hb); (try clear hb2); (try clear hk); (try clear hi); (try clear ho0)))
            go_ret
            exact ⟨by first | rfl | (simp [errW_none, errW_some] <;> rfl) | (simp [*, errW_none, errW_some] <;> rfl), by repeat (first | (with_reducible first | exact HB.out | apply b_a | apply b_n | apply b_d | refine b_s ?_ GE170.out | refine b_s ?_ GE171.out | refine b_s ?_ GE188.out) | exact HB.out)⟩
           rw [if_pos c111] at H
           have c111b0 : (t207 == 0) = true := beq_iff_eq.mpr c111
           have c111b1 : (t207 != 0) = false := bne_eq_false_iff_eq.mpr c111
           clear c111
           obtain ⟨y208, hy208⟩ : ∃ y_ : List (S24), y_ = (([(⟨a0_0, a0_1, a0_2, a0_3, a0_4, a0_5, a0_6, a0_7, x171008_3⟩ : S24), (⟨a1_0, a1_1, a1_2, a1_3, a1_4, a1_5, a1_6, a1_7, x172008_3⟩ : S24)] : List (S24))) := ⟨_, rfl⟩
           replace H : ((msg_Right.f kj76 y208).bind fun t211 => (if t211 = true then (some (((strOfNums t200).toList == (strOfNums t204).toList) == t174)) else (some false))) = some r := by first | (rw [hy208]; with_reducible exact H) | (have H2_ := (Option.bind_some _ _).symm.trans H; rw [hy208]; with_reducible exact H2_) | (have H2_ := (Option.bind_some _ _).symm.trans H; with_reducible exact H2_) | with_reducible exact H | (rw [hy208]; exact H) | exact H
           have Ny208 := Aside0.mk hy208
           clear hy208
           replace H := Option.bind_eq_some_iff.mp H
           obtain ⟨t211, A1120, H⟩ := H
           replace H : (if t211 = true then (some (((strOfNums t200).toList == (strOfNums t204).toList) == t174)) else (some false)) = some r := H
           have A112 := Aside0.mk A1120
           clear A1120
           by_cases c113 : t211 = true
           rotate_left
           ·
            replace c113 := Bool.eq_false_iff.mpr c113
            subst c113
            have H1 : (some false) = some r := by rw [if_neg (show ¬ (false = true) by decide)] at H; exact H
            clear H
            have H := H1
            clear H1
            obtain rfl := Option.some.inj H
            have hnb133 := NB170_171.out
            have hnc133 := NB171_170.out
            have hnb134 := NB170_188.out
            have hnc134 := NB188_170.out
            have hcz135_0 := bc_0 BK170
            have hcz135_1 := bc_1 BK170
            have hcz135_2 := bc_2 BK170
            have hcz135_3 := bc_3 BK170
            have hcz135_4 := bc_4 BK170
            have hcz135_5 := bc_5 BK170
            have hcz135_6 := bc_6 BK170
            have hcz135_7 := bc_7 BK170
            have hcz135_8 : wc.cell? ⟨gb170, 8, none⟩ = some (u171008) := (blk_cell BK170.out 8).trans rfl
            have hfz135_0 := blk_frozen BK170.out 0
            have hfz135_1 := blk_frozen BK170.out 1
            have hfz135_2 := blk_frozen BK170.out 2
            have hfz135_3 := blk_frozen BK170.out 3
            have hfz135_4 := blk_frozen BK170.out 4
            have hfz135_5 := blk_frozen BK170.out 5
            have hfz135_6 := blk_frozen BK170.out 6
            have hfz135_7 := blk_frozen BK170.out 7
            have hfz135_8 := blk_frozen BK170.out 8
            obtain ⟨Ao136, co136, eo136⟩ := Kd.V_slice HO_171008.out
            subst eo136
            go_wp2_with (first | ((with_reducible refine gate_callee (f := 11) rfl ?_); refine goesL_ (some 93) rfl rfl Try.func11 (by kernel_rfl) rfl #[.agg #[.int .i64 a0_0, .int .i64 a0_1, .int .i64 a0_2, .int .i64 a0_3, .int .i64 a0_4, .int .i64 a0_5, .int .i64 a0_6, .int .i64 a0_7, .slice Ao136 x171008_3.length co136]] rfl (by (try simp only [l_4, l_5, l_6]); first | done | rfl | (simp only [l_7, l_8]; rfl)) ?_; (with_reducible refine (msg_Bytes.calls a0_0 a0_1 a0_2 a0_3 a0_4 a0_5 a0_6 a0_7 _ _ x171008_3 t200 t203 _ ?side1 ?side2 A108.out).mono ?_); (case side1 => repeat (first | exact (Kd.V_reads' HO_171008.out).2.2 | (with_reducible refine Kd.C_alloc ?_ _) | (with_reducible refine Kd.C_drewN ?_ _) | (with_reducible refine Kd.C_drew ?_))); (case side2 => exact (Kd.V_reads' HO_171008.out).2.1); rintro e w137 ⟨v201, rfl, ho0, hb⟩; (try clear A108); refine ⟨_, rfl, ?_⟩; have HO202 := Aside0.mk (Kd.R_lower (Kd.R_newM (M := fun k_ => (w.heap.size ≤ k_)) ho0 (below_size (bw_ HB)) (fun k_ h_ => h_)) (below_size (bw_ HB))); replace HO_171008 := Aside0.mk (Kd.V_elder' (tV_ HO_171008) (Kd.R_base ho0) hb); replace HO_172008 := Aside0.mk (Kd.V_elder' (tV_ HO_172008) (Kd.R_base ho0) hb); replace HO_189008 := Aside0.mk (Kd.R_below (tR_ HO_189008) hb); replace BK170 := Aside0.mk (blk_below (tk_ BK170) hb); replace BK171 := Aside0.mk (blk_below (tk_ BK171) hb); replace BK188 := Aside0.mk (blk_below (tk_ BK188) hb); replace HB := Aside0.mk (below_step (bw_ HB) hb); (try clear hb); (try clear hb2); (try clear hk); (try clear hi); (try clear ho0); have hnb138 := NB171_188.out; have hnc138 := NB188_171.out; have hcz139_0 := bc_0 BK171; have hcz139_1 := bc_1 BK171; have hcz139_2 := bc_2 BK171; have hcz139_3 := bc_3 BK171; have hcz139_4 := bc_4 BK171; have hcz139_5 := bc_5 BK171; have hcz139_6 := bc_6 BK171; have hcz139_7 := bc_7 BK171; have hcz139_8 : w137.cell? ⟨gb171, 8, none⟩ = some (u172008) := (blk_cell BK171.out 8).trans rfl; have hfz139_0 := blk_frozen BK171.out 0; have hfz139_1 := blk_frozen BK171.out 1; have hfz139_2 := blk_frozen BK171.out 2; have hfz139_3 := blk_frozen BK171.out 3; have hfz139_4 := blk_frozen BK171.out 4; have hfz139_5 := blk_frozen BK171.out 5; have hfz139_6 := blk_frozen BK171.out 6; have hfz139_7 := blk_frozen BK171.out 7; have hfz139_8 := blk_frozen BK171.out 8; obtain ⟨Ao140, co140, eo140⟩ := Kd.V_slice HO_172008.out; subst eo140; (first | ((with_reducible refine gate_store_ rfl ?_); refine st9_ rfl rfl rfl rfl rfl (by with_reducible assumption) (by kernel_rfl) (by simp [Value.oneCell']) ?_; clear hcz139_0 hfz139_0 hcz139_1 hfz139_1 hcz139_2 hfz139_2 hcz139_3 hfz139_3 hcz139_4 hfz139_4 hcz139_5 hfz139_5 hcz139_6 hfz139_6 hcz139_7 hfz139_7 hcz139_8 hfz139_8; intro hb9_; have BN139 := Aside0.mk hb9_; clear hb9_) | skip)) | ((with_reducible refine gate_callee (f := 11) rfl ?_); refine goesL_ (some 98) rfl rfl Try.func11 (by kernel_rfl) rfl #[.agg #[.int .i64 a1_0, .int .i64 a1_1, .int .i64 a1_2, .int .i64 a1_3, .int .i64 a1_4, .int .i64 a1_5, .int .i64 a1_6, .int .i64 a1_7, .slice Ao140 x172008_3.length co140]] rfl (by (try simp only [l_4, l_5, l_6]); first | done | rfl | (simp only [l_7, l_8]; rfl)) ?_; (with_reducible refine (msg_Bytes.calls a1_0 a1_1 a1_2 a1_3 a1_4 a1_5 a1_6 a1_7 _ _ x172008_3 t204 t207 _ ?side1 ?side2 A109.out).mono ?_); (case side1 => repeat (first | exact (Kd.V_reads' HO_172008.out).2.2 | (with_reducible refine Kd.C_alloc ?_ _) | (with_reducible refine Kd.C_drewN ?_ _) | (with_reducible refine Kd.C_drew ?_))); (case side2 => exact (Kd.V_reads' HO_172008.out).2.1); rintro e w141 ⟨v205, rfl, ho0, hb⟩; (try clear A109); refine ⟨_, rfl, ?_⟩; have HO206 := Aside0.mk (Kd.R_lower (Kd.R_new' (Kd.R_newM (M := fun k_ => (w.heap.size ≤ k_)) ho0 (below_size (bw_ HB)) (fun k_ h_ => h_)) (Kd.R_lt (tR_ HO202))) (below_size (bw_ HB))); replace HO_171008 := Aside0.mk (Kd.V_elder' (tV_ HO_171008) (Kd.R_base ho0) hb); replace HO_172008 := Aside0.mk (Kd.V_elder' (tV_ HO_172008) (Kd.R_base ho0) hb); replace HO_189008 := Aside0.mk (Kd.R_below (tR_ HO_189008) hb); replace HO202 := Aside0.mk (Kd.R_elder' (tR_ HO202) (Kd.R_base ho0) hb); replace BK170 := Aside0.mk (blk_below (tk_ BK170) hb); replace BK171 := Aside0.mk (blk_below (tk_ BK171) hb); replace BK188 := Aside0.mk (blk_below (tk_ BK188) hb); replace HB := Aside0.mk (below_step (bw_ HB) hb); (try clear hb); (try clear hb2); (try clear hk); (try clear hi); (try clear ho0); have hcz142_0 := bc_0 BK170; have hcz142_1 := bc_1 BK170; have hcz142_2 := bc_2 BK170; have hcz142_3 := bc_3 BK170; have hcz142_4 := bc_4 BK170; have hcz142_5 := bc_5 BK170; have hcz142_6 := bc_6 BK170; have hcz142_7 := bc_7 BK170; have hcz142_8 : w141.cell? ⟨gb170, 8, none⟩ = some (.slice Ao136 x171008_3.length co136) := (blk_cell BK170.out 8).trans rfl; have hfz142_0 := blk_frozen BK170.out 0; have hfz142_1 := blk_frozen BK170.out 1; have hfz142_2 := blk_frozen BK170.out 2; have hfz142_3 := blk_frozen BK170.out 3; have hfz142_4 := blk_frozen BK170.out 4; have hfz142_5 := blk_frozen BK170.out 5; have hfz142_6 := blk_frozen BK170.out 6; have hfz142_7 := blk_frozen BK170.out 7; have hfz142_8 := blk_frozen BK170.out 8; have hcz143_0 := bc_0 BK171; have hcz143_1 := bc_1 BK171; have hcz143_2 := bc_2 BK171; have hcz143_3 := bc_3 BK171; have hcz143_4 := bc_4 BK171; have hcz143_5 := bc_5 BK171; have hcz143_6 := bc_6 BK171; have hcz143_7 := bc_7 BK171; have hcz143_8 : w141.cell? ⟨gb171, 8, none⟩ = some (.slice Ao140 x172008_3.length co140) := (blk_cell BK171.out 8).trans rfl; have hfz143_0 := blk_frozen BK171.out 0; have hfz143_1 := blk_frozen BK171.out 1; have hfz143_2 := blk_frozen BK171.out 2; have hfz143_3 := blk_frozen BK171.out 3; have hfz143_4 := blk_frozen BK171.out 4; have hfz143_5 := blk_frozen BK171.out 5; have hfz143_6 := blk_frozen BK171.out 6; have hfz143_7 := blk_frozen BK171.out 7; have hfz143_8 := blk_frozen BK171.out 8; (first | ((with_reducible refine gate_store_ rfl ?_); refine st9_ rfl rfl rfl rfl rfl (by with_reducible assumption) (by kernel_rfl) (by simp [Value.oneCell']) ?_; clear hcz143_0 hfz143_0 hcz143_1 hfz143_1 hcz143_2 hfz143_2 hcz143_3 hfz143_3 hcz143_4 hfz143_4 hcz143_5 hfz143_5 hcz143_6 hfz143_6 hcz143_7 hfz143_7 hcz143_8 hfz143_8; intro hb9_; have BN143 := Aside0.mk hb9_; clear hb9_) | skip)) | ((with_reducible refine gate_dst (N := 110) rfl ?_); (try (refine gate_guard (by rfl) ?_; dsimp only)); refine Kd.N_lit k24 _ 24 ?hg (N' := 110) ?hd (xs := ([(⟨a0_0, a0_1, a0_2, a0_3, a0_4, a0_5, a0_6, a0_7, x171008_3⟩ : S24), (⟨a1_0, a1_1, a1_2, a1_3, a1_4, a1_5, a1_6, a1_7, x172008_3⟩ : S24)] : List (S24))) (inner := [.int .i64 a0_0, .int .i64 a0_1, .int .i64 a0_2, .int .i64 a0_3, .int .i64 a0_4, .int .i64 a0_5, .int .i64 a0_6, .int .i64 a0_7, .slice Ao136 x171008_3.length co136, .int .i64 a1_0, .int .i64 a1_1, .int .i64 a1_2, .int .i64 a1_3, .int .i64 a1_4, .int .i64 a1_5, .int .i64 a1_6, .int .i64 a1_7, .slice Ao140 x172008_3.length co140]) (ok := (fun k_ => ((P0_8_ k_ ∨ P1_8_ k_) ∨ w.heap.size ≤ k_) ∧ some k_ ≠ (.slice Ao63 x189008_3.length co63 : Value).ownBlock ∧ some k_ ≠ (v201 : Value).ownBlock ∧ some k_ ≠ (v205 : Value).ownBlock ∧ k_ ≠ gb170 ∧ k_ ≠ gb171 ∧ k_ ≠ gb188)) (okp := (fun k_ => ((P0_8_ k_ ∨ P1_8_ k_) ∨ w.heap.size ≤ k_) ∧ some k_ ≠ (.slice Ao63 x189008_3.length co63 : Value).ownBlock ∧ some k_ ≠ (v201 : Value).ownBlock ∧ some k_ ≠ (v205 : Value).ownBlock ∧ k_ ≠ gb170 ∧ k_ ≠ gb171 ∧ k_ ≠ gb188)) ?hr ?hp (fun _ hk => hk) ((show ∀ k_, (_ : Nat) ≤ k_ → (fun k_ => ((P0_8_ k_ ∨ P1_8_ k_) ∨ w.heap.size ≤ k_) ∧ some k_ ≠ (.slice Ao63 x189008_3.length co63 : Value).ownBlock ∧ some k_ ≠ (v201 : Value).ownBlock ∧ some k_ ≠ (v205 : Value).ownBlock ∧ k_ ≠ gb170 ∧ k_ ≠ gb171 ∧ k_ ≠ gb188) k_ from fun k_ hk => ⟨(.inr (Nat.le_trans (below_size (bw_ HB)) hk)), Kd.fresh' (Kd.R_lt (tR_ HO_189008)) k_ hk, Kd.fresh' (Kd.R_lt (tR_ HO202)) k_ hk, Kd.fresh' (Kd.R_lt (tR_ HO206)) k_ hk, Kd.freshB (tk_ BK170) k_ hk, Kd.freshB (tk_ BK171) k_ hk, Kd.freshB (tk_ BK188) k_ hk⟩) _ (Nat.le_refl _)) (Below.refl _ _) (Nat.le_refl _) (by simp) ?_; (case hd => rfl); (case hg => rfl); (case hr => first | exact bld9_ ((.int .i64 0)) ((.int .i64 0)) ((.int .i64 0)) ((.int .i64 0)) ((.int .i64 0)) ((.int .i64 0)) ((.int .i64 0)) ((.int .i64 0)) ((.slice none 0 0)) rfl rfl | (refine bld92_ ((.int .i64 0)) ((.int .i64 0)) ((.int .i64 0)) ((.int .i64 0)) ((.int .i64 0)) ((.int .i64 0)) ((.int .i64 0)) ((.int .i64 0)) ((.slice none 0 0)) rfl ?_ ?_ ?_ ?_ <;> rfl)); (case hp => exact (Reps.c9 (show Kd.FK k24 _ _ (⟨a0_0, a0_1, a0_2, a0_3, a0_4, a0_5, a0_6, a0_7, x171008_3⟩ : S24) [.int .i64 a0_0, .int .i64 a0_1, .int .i64 a0_2, .int .i64 a0_3, .int .i64 a0_4, .int .i64 a0_5, .int .i64 a0_6, .int .i64 a0_7, .slice Ao136 x171008_3.length co136] from (k24_mkF _ _ (⟨a0_0, a0_1, a0_2, a0_3, a0_4, a0_5, a0_6, a0_7, x171008_3⟩ : S24) (Kd.V_reads' (Kd.V_mono (ok' := (fun k_ => ((P0_8_ k_ ∨ P1_8_ k_) ∨ w.heap.size ≤ k_) ∧ some k_ ≠ (.slice Ao63 x189008_3.length co63 : Value).ownBlock ∧ some k_ ≠ (v201 : Value).ownBlock ∧ some k_ ≠ (v205 : Value).ownBlock ∧ k_ ≠ gb170 ∧ k_ ≠ gb171 ∧ k_ ≠ gb188)) (HO_171008.out) (fun k_ hk => ⟨hk.1.1.1, ⟨hk.1.1.2.1, ⟨hk.1.2, ⟨hk.2, ⟨hk.1.1.2.2.1, ⟨hk.1.1.2.2.2.1, hk.1.1.2.2.2.2⟩⟩⟩⟩⟩⟩))).2.1 (Kd.V_F (Kd.V_mono (ok' := (fun k_ => ((P0_8_ k_ ∨ P1_8_ k_) ∨ w.heap.size ≤ k_) ∧ some k_ ≠ (.slice Ao63 x189008_3.length co63 : Value).ownBlock ∧ some k_ ≠ (v201 : Value).ownBlock ∧ some k_ ≠ (v205 : Value).ownBlock ∧ k_ ≠ gb170 ∧ k_ ≠ gb171 ∧ k_ ≠ gb188)) (HO_171008.out) (fun k_ hk => ⟨hk.1.1.1, ⟨hk.1.1.2.1, ⟨hk.1.2, ⟨hk.2, ⟨hk.1.1.2.2.1, ⟨hk.1.1.2.2.2.1, hk.1.1.2.2.2.2⟩⟩⟩⟩⟩⟩))))) (Reps.c9 (show Kd.FK k24 _ _ (⟨a1_0, a1_1, a1_2, a1_3, a1_4, a1_5, a1_6, a1_7, x172008_3⟩ : S24) [.int .i64 a1_0, .int .i64 a1_1, .int .i64 a1_2, .int .i64 a1_3, .int .i64 a1_4, .int .i64 a1_5, .int .i64 a1_6, .int .i64 a1_7, .slice Ao140 x172008_3.length co140] from (k24_mkF _ _ (⟨a1_0, a1_1, a1_2, a1_3, a1_4, a1_5, a1_6, a1_7, x172008_3⟩ : S24) (Kd.V_reads' (Kd.V_mono (ok' := (fun k_ => ((P0_8_ k_ ∨ P1_8_ k_) ∨ w.heap.size ≤ k_) ∧ some k_ ≠ (.slice Ao63 x189008_3.length co63 : Value).ownBlock ∧ some k_ ≠ (v201 : Value).ownBlock ∧ some k_ ≠ (v205 : Value).ownBlock ∧ k_ ≠ gb170 ∧ k_ ≠ gb171 ∧ k_ ≠ gb188)) (HO_172008.out) (fun k_ hk => ⟨hk.1.1.1, ⟨hk.1.1.2.1, ⟨hk.1.2, ⟨hk.2, ⟨hk.1.1.2.2.1, ⟨hk.1.1.2.2.2.1, hk.1.1.2.2.2.2⟩⟩⟩⟩⟩⟩))).2.1 (Kd.V_F (Kd.V_mono (ok' := (fun k_ => ((P0_8_ k_ ∨ P1_8_ k_) ∨ w.heap.size ≤ k_) ∧ some k_ ≠ (.slice Ao63 x189008_3.length co63 : Value).ownBlock ∧ some k_ ≠ (v201 : Value).ownBlock ∧ some k_ ≠ (v205 : Value).ownBlock ∧ k_ ≠ gb170 ∧ k_ ≠ gb171 ∧ k_ ≠ gb188)) (HO_172008.out) (fun k_ hk => ⟨hk.1.1.1, ⟨hk.1.1.2.1, ⟨hk.1.2, ⟨hk.2, ⟨hk.1.1.2.2.1, ⟨hk.1.1.2.2.2.1, hk.1.1.2.2.2.2⟩⟩⟩⟩⟩⟩))))) (Reps.none _ _)))); intro v209 w144 ho145 hb hg_ hnew_; clear hg_ hnew_; (first | rw [← Ny208.out] at ho145 | (simp only [Int.reduceToNat] at ho145; rw [← Ny208.out] at ho145)); have HO210 := Aside0.mk (Kd.N_lower ho145 (below_size (bw_ HB))); replace HO_171008 := Aside0.mk (Kd.V_elder' (tV_ HO_171008) (by first | exact Kd.N_base ho145 | exact Kd.N_base (Kd.S_N ho145)) hb); replace HO_172008 := Aside0.mk (Kd.V_elder' (tV_ HO_172008) (by first | exact Kd.N_base ho145 | exact Kd.N_base (Kd.S_N ho145)) hb); replace HO_189008 := Aside0.mk (Kd.R_below (tR_ HO_189008) hb); replace HO202 := Aside0.mk (Kd.R_below (tR_ HO202) hb); replace HO206 := Aside0.mk (Kd.R_below (tR_ HO206) hb); replace BK170 := Aside0.mk (blk_below (tk_ BK170) hb); replace BK171 := Aside0.mk (blk_below (tk_ BK171) hb); replace BK188 := Aside0.mk (blk_below (tk_ BK188) hb); replace HB := Aside0.mk (below_step (bw_ HB) hb); clear hb ho145; obtain ⟨Ao146, co146, eo146⟩ := Kd.N_slice HO210.out; subst eo146) | (go_at_call 12; (with_reducible refine (msg_Right.calls kj76 _ _ y208 false _ ?side1 ?side2 A112.out).mono ?_); (case side1 => repeat (first | exact (Kd.N_reads' HO210.out).2.2 | (with_reducible refine Kd.C_alloc ?_ _) | (with_reducible refine Kd.C_drewN ?_ _) | (with_reducible refine Kd.C_drew ?_))); (case side2 => exact (Kd.N_reads' HO210.out).2.1); rintro e w147 ⟨rfl, hb⟩; (try clear A112); replace HO_171008 := Aside0.mk (Kd.V_below (tV_ HO_171008) hb); replace HO_172008 := Aside0.mk (Kd.V_below (tV_ HO_172008) hb); replace HO_189008 := Aside0.mk (Kd.R_below (tR_ HO_189008) hb); replace HO202 := Aside0.mk (Kd.R_below (tR_ HO202) hb); replace HO206 := Aside0.mk (Kd.R_below (tR_ HO206) hb); replace HO210 := Aside0.mk (Kd.N_below (tN_ HO210) hb); replace BK170 := Aside0.mk (blk_below (tk_ BK170) hb); replace BK171 := Aside0.mk (blk_below (tk_ BK171) hb); replace BK188 := Aside0.mk (blk_below (tk_ BK188) hb); replace HB := Aside0.mk (below_step (bw_ HB) hb); (try clear hb); (try clear hb2); (try clear hk); (try clear hi)))
            go_ret
            exact ⟨by first | rfl | (simp [errW_none, errW_some] <;> rfl) | (simp [*, errW_none, errW_some] <;> rfl), by repeat (first | (with_reducible first | exact HB.out | apply b_a | apply b_n | apply b_d | refine b_s ?_ GE170.out | refine b_s ?_ GE171.out | refine b_s ?_ GE188.out) | exact HB.out)⟩
           subst c113
           have H1 : (some (((strOfNums t200).toList == (strOfNums t204).toList) == t174)) = some r := by rw [if_pos rfl] at H; exact H
           clear H
           have H := H1
           clear H1
           obtain rfl := Option.some.inj H
           have hnb114 := NB170_171.out
           have hnc114 := NB171_170.out
           have hnb115 := NB170_188.out
           have hnc115 := NB188_170.out
           have hcz116_0 := bc_0 BK170
           have hcz116_1 := bc_1 BK170
           have hcz116_2 := bc_2 BK170
           have hcz116_3 := bc_3 BK170
           have hcz116_4 := bc_4 BK170
           have hcz116_5 := bc_5 BK170
           have hcz116_6 := bc_6 BK170
           have hcz116_7 := bc_7 BK170
           have hcz116_8 : wc.cell? ⟨gb170, 8, none⟩ = some (u171008) := (blk_cell BK170.out 8).trans rfl
           have hfz116_0 := blk_frozen BK170.out 0
           have hfz116_1 := blk_frozen BK170.out 1
           have hfz116_2 := blk_frozen BK170.out 2
           have hfz116_3 := blk_frozen BK170.out 3
           have hfz116_4 := blk_frozen BK170.out 4
           have hfz116_5 := blk_frozen BK170.out 5
           have hfz116_6 := blk_frozen BK170.out 6
           have hfz116_7 := blk_frozen BK170.out 7
           have hfz116_8 := blk_frozen BK170.out 8
           obtain ⟨Ao117, co117, eo117⟩ := Kd.V_slice HO_171008.out
           subst eo117
           go_wp2_with (first | ((with_reducible refine gate_callee (f := 11) rfl ?_); refine goesL_ (some 93) rfl rfl Try.func11 (by kernel_rfl) rfl #[.agg #[.int .i64 a0_0, .int .i64 a0_1, .int .i64 a0_2, .int .i64 a0_3, .int .i64 a0_4, .int .i64 a0_5, .int .i64 a0_6, .int .i64 a0_7, .slice Ao117 x171008_3.length co117]] rfl (by (try simp only [l_4, l_5, l_6]); first | done | rfl | (simp only [l_7, l_8]; rfl)) ?_; (with_reducible refine (msg_Bytes.calls a0_0 a0_1 a0_2 a0_3 a0_4 a0_5 a0_6 a0_7 _ _ x171008_3 t200 t203 _ ?side1 ?side2 A108.out).mono ?_); (case side1 => repeat (first | exact (Kd.V_reads' HO_171008.out).2.2 | (with_reducible refine Kd.C_alloc ?_ _) | (with_reducible refine Kd.C_drewN ?_ _) | (with_reducible refine Kd.C_drew ?_))); (case side2 => exact (Kd.V_reads' HO_171008.out).2.1); rintro e w118 ⟨v201, rfl, ho0, hb⟩; (try clear A108); refine ⟨_, rfl, ?_⟩; have HO202 := Aside0.mk (Kd.R_lower (Kd.R_newM (M := fun k_ => (w.heap.size ≤ k_)) ho0 (below_size (bw_ HB)) (fun k_ h_ => h_)) (below_size (bw_ HB))); replace HO_171008 := Aside0.mk (Kd.V_elder' (tV_ HO_171008) (Kd.R_base ho0) hb); replace HO_172008 := Aside0.mk (Kd.V_elder' (tV_ HO_172008) (Kd.R_base ho0) hb); replace HO_189008 := Aside0.mk (Kd.R_below (tR_ HO_189008) hb); replace BK170 := Aside0.mk (blk_below (tk_ BK170) hb); replace BK171 := Aside0.mk (blk_below (tk_ BK171) hb); replace BK188 := Aside0.mk (blk_below (tk_ BK188) hb); replace HB := Aside0.mk (below_step (bw_ HB) hb); (try clear hb); (try clear hb2); (try clear hk); (try clear hi); (try clear ho0); have hnb119 := NB171_188.out; have hnc119 := NB188_171.out; have hcz120_0 := bc_0 BK171; have hcz120_1 := bc_1 BK171; have hcz120_2 := bc_2 BK171; have hcz120_3 := bc_3 BK171; have hcz120_4 := bc_4 BK171; have hcz120_5 := bc_5 BK171; have hcz120_6 := bc_6 BK171; have hcz120_7 := bc_7 BK171; have hcz120_8 : w118.cell? ⟨gb171, 8, none⟩ = some (u172008) := (blk_cell BK171.out 8).trans rfl; have hfz120_0 := blk_frozen BK171.out 0; have hfz120_1 := blk_frozen BK171.out 1; have hfz120_2 := blk_frozen BK171.out 2; have hfz120_3 := blk_frozen BK171.out 3; have hfz120_4 := blk_frozen BK171.out 4; have hfz120_5 := blk_frozen BK171.out 5; have hfz120_6 := blk_frozen BK171.out 6; have hfz120_7 := blk_frozen BK171.out 7; have hfz120_8 := blk_frozen BK171.out 8; obtain ⟨Ao121, co121, eo121⟩ := Kd.V_slice HO_172008.out; subst eo121; (first | ((with_reducible refine gate_store_ rfl ?_); refine st9_ rfl rfl rfl rfl rfl (by with_reducible assumption) (by kernel_rfl) (by simp [Value.oneCell']) ?_; clear hcz120_0 hfz120_0 hcz120_1 hfz120_1 hcz120_2 hfz120_2 hcz120_3 hfz120_3 hcz120_4 hfz120_4 hcz120_5 hfz120_5 hcz120_6 hfz120_6 hcz120_7 hfz120_7 hcz120_8 hfz120_8; intro hb9_; have BN120 := Aside0.mk hb9_; clear hb9_) | skip)) | ((with_reducible refine gate_callee (f := 11) rfl ?_); refine goesL_ (some 98) rfl rfl Try.func11 (by kernel_rfl) rfl #[.agg #[.int .i64 a1_0, .int .i64 a1_1, .int .i64 a1_2, .int .i64 a1_3, .int .i64 a1_4, .int .i64 a1_5, .int .i64 a1_6, .int .i64 a1_7, .slice Ao121 x172008_3.length co121]] rfl (by (try simp only [l_4, l_5, l_6]); first | done | rfl | (simp only [l_7, l_8]; rfl)) ?_; (with_reducible refine (msg_Bytes.calls a1_0 a1_1 a1_2 a1_3 a1_4 a1_5 a1_6 a1_7 _ _ x172008_3 t204 t207 _ ?side1 ?side2 A109.out).mono ?_); (case side1 => repeat (first | exact (Kd.V_reads' HO_172008.out).2.2 | (with_reducible refine Kd.C_alloc ?_ _) | (with_reducible refine Kd.C_drewN ?_ _) | (with_reducible refine Kd.C_drew ?_))); (case side2 => exact (Kd.V_reads' HO_172008.out).2.1); rintro e w122 ⟨v205, rfl, ho0, hb⟩; (try clear A109); refine ⟨_, rfl, ?_⟩; have HO206 := Aside0.mk (Kd.R_lower (Kd.R_new' (Kd.R_newM (M := fun k_ => (w.heap.size ≤ k_)) ho0 (below_size (bw_ HB)) (fun k_ h_ => h_)) (Kd.R_lt (tR_ HO202))) (below_size (bw_ HB))); replace HO_171008 := Aside0.mk (Kd.V_elder' (tV_ HO_171008) (Kd.R_base ho0) hb); replace HO_172008 := Aside0.mk (Kd.V_elder' (tV_ HO_172008) (Kd.R_base ho0) hb); replace HO_189008 := Aside0.mk (Kd.R_below (tR_ HO_189008) hb); replace HO202 := Aside0.mk (Kd.R_elder' (tR_ HO202) (Kd.R_base ho0) hb); replace BK170 := Aside0.mk (blk_below (tk_ BK170) hb); replace BK171 := Aside0.mk (blk_below (tk_ BK171) hb); replace BK188 := Aside0.mk (blk_below (tk_ BK188) hb); replace HB := Aside0.mk (below_step (bw_ HB) hb); (try clear hb); (try clear hb2); (try clear hk); (try clear hi); (try clear ho0); have hcz123_0 := bc_0 BK170; have hcz123_1 := bc_1 BK170; have hcz123_2 := bc_2 BK170; have hcz123_3 := bc_3 BK170; have hcz123_4 := bc_4 BK170; have hcz123_5 := bc_5 BK170; have hcz123_6 := bc_6 BK170; have hcz123_7 := bc_7 BK170; have hcz123_8 : w122.cell? ⟨gb170, 8, none⟩ = some (.slice Ao117 x171008_3.length co117) := (blk_cell BK170.out 8).trans rfl; have hfz123_0 := blk_frozen BK170.out 0; have hfz123_1 := blk_frozen BK170.out 1; have hfz123_2 := blk_frozen BK170.out 2; have hfz123_3 := blk_frozen BK170.out 3; have hfz123_4 := blk_frozen BK170.out 4; have hfz123_5 := blk_frozen BK170.out 5; have hfz123_6 := blk_frozen BK170.out 6; have hfz123_7 := blk_frozen BK170.out 7; have hfz123_8 := blk_frozen BK170.out 8; have hcz124_0 := bc_0 BK171; have hcz124_1 := bc_1 BK171; have hcz124_2 := bc_2 BK171; have hcz124_3 := bc_3 BK171; have hcz124_4 := bc_4 BK171; have hcz124_5 := bc_5 BK171; have hcz124_6 := bc_6 BK171; have hcz124_7 := bc_7 BK171; have hcz124_8 : w122.cell? ⟨gb171, 8, none⟩ = some (.slice Ao121 x172008_3.length co121) := (blk_cell BK171.out 8).trans rfl; have hfz124_0 := blk_frozen BK171.out 0; have hfz124_1 := blk_frozen BK171.out 1; have hfz124_2 := blk_frozen BK171.out 2; have hfz124_3 := blk_frozen BK171.out 3; have hfz124_4 := blk_frozen BK171.out 4; have hfz124_5 := blk_frozen BK171.out 5; have hfz124_6 := blk_frozen BK171.out 6; have hfz124_7 := blk_frozen BK171.out 7; have hfz124_8 := blk_frozen BK171.out 8; (first | ((with_reducible refine gate_store_ rfl ?_); refine st9_ rfl rfl rfl rfl rfl (by with_reducible assumption) (by kernel_rfl) (by simp [Value.oneCell']) ?_; clear hcz124_0 hfz124_0 hcz124_1 hfz124_1 hcz124_2 hfz124_2 hcz124_3 hfz124_3 hcz124_4 hfz124_4 hcz124_5 hfz124_5 hcz124_6 hfz124_6 hcz124_7 hfz124_7 hcz124_8 hfz124_8; intro hb9_; have BN124 := Aside0.mk hb9_; clear hb9_) | skip)) | ((with_reducible refine gate_dst (N := 110) rfl ?_); (try (refine gate_guard (by rfl) ?_; dsimp only)); refine Kd.N_lit k24 _ 24 ?hg (N' := 110) ?hd (xs := ([(⟨a0_0, a0_1, a0_2, a0_3, a0_4, a0_5, a0_6, a0_7, x171008_3⟩ : S24), (⟨a1_0, a1_1, a1_2, a1_3, a1_4, a1_5, a1_6, a1_7, x172008_3⟩ : S24)] : List (S24))) (inner := [.int .i64 a0_0, .int .i64 a0_1, .int .i64 a0_2, .int .i64 a0_3, .int .i64 a0_4, .int .i64 a0_5, .int .i64 a0_6, .int .i64 a0_7, .slice Ao117 x171008_3.length co117, .int .i64 a1_0, .int .i64 a1_1, .int .i64 a1_2, .int .i64 a1_3, .int .i64 a1_4, .int .i64 a1_5, .int .i64 a1_6, .int .i64 a1_7, .slice Ao121 x172008_3.length co121]) (ok := (fun k_ => ((P0_8_ k_ ∨ P1_8_ k_) ∨ w.heap.size ≤ k_) ∧ some k_ ≠ (.slice Ao63 x189008_3.length co63 : Value).ownBlock ∧ some k_ ≠ (v201 : Value).ownBlock ∧ some k_ ≠ (v205 : Value).ownBlock ∧ k_ ≠ gb170 ∧ k_ ≠ gb171 ∧ k_ ≠ gb188)) (okp := (fun k_ => ((P0_8_ k_ ∨ P1_8_ k_) ∨ w.heap.size ≤ k_) ∧ some k_ ≠ (.slice Ao63 x189008_3.length co63 : Value).ownBlock ∧ some k_ ≠ (v201 : Value).ownBlock ∧ some k_ ≠ (v205 : Value).ownBlock ∧ k_ ≠ gb170 ∧ k_ ≠ gb171 ∧ k_ ≠ gb188)) ?hr ?hp (fun _ hk => hk) ((show ∀ k_, (_ : Nat) ≤ k_ → (fun k_ => ((P0_8_ k_ ∨ P1_8_ k_) ∨ w.heap.size ≤ k_) ∧ some k_ ≠ (.slice Ao63 x189008_3.length co63 : Value).ownBlock ∧ some k_ ≠ (v201 : Value).ownBlock ∧ some k_ ≠ (v205 : Value).ownBlock ∧ k_ ≠ gb170 ∧ k_ ≠ gb171 ∧ k_ ≠ gb188) k_ from fun k_ hk => ⟨(.inr (Nat.le_trans (below_size (bw_ HB)) hk)), Kd.fresh' (Kd.R_lt (tR_ HO_189008)) k_ hk, Kd.fresh' (Kd.R_lt (tR_ HO202)) k_ hk, Kd.fresh' (Kd.R_lt (tR_ HO206)) k_ hk, Kd.freshB (tk_ BK170) k_ hk, Kd.freshB (tk_ BK171) k_ hk, Kd.freshB (tk_ BK188) k_ hk⟩) _ (Nat.le_refl _)) (Below.refl _ _) (Nat.le_refl _) (by simp) ?_; (case hd => rfl); (case hg => rfl); (case hr => first | exact bld9_ ((.int .i64 0)) ((.int .i64 0)) ((.int .i64 0)) ((.int .i64 0)) ((.int .i64 0)) ((.int .i64 0)) ((.int .i64 0)) ((.int .i64 0)) ((.slice none 0 0)) rfl rfl | (refine bld92_ ((.int .i64 0)) ((.int .i64 0)) ((.int .i64 0)) ((.int .i64 0)) ((.int .i64 0)) ((.int .i64 0)) ((.int .i64 0)) ((.int .i64 0)) ((.slice none 0 0)) rfl ?_ ?_ ?_ ?_ <;> rfl)); (case hp => exact (Reps.c9 (show Kd.FK k24 _ _ (⟨a0_0, a0_1, a0_2, a0_3, a0_4, a0_5, a0_6, a0_7, x171008_3⟩ : S24) [.int .i64 a0_0, .int .i64 a0_1, .int .i64 a0_2, .int .i64 a0_3, .int .i64 a0_4, .int .i64 a0_5, .int .i64 a0_6, .int .i64 a0_7, .slice Ao117 x171008_3.length co117] from (k24_mkF _ _ (⟨a0_0, a0_1, a0_2, a0_3, a0_4, a0_5, a0_6, a0_7, x171008_3⟩ : S24) (Kd.V_reads' (Kd.V_mono (ok' := (fun k_ => ((P0_8_ k_ ∨ P1_8_ k_) ∨ w.heap.size ≤ k_) ∧ some k_ ≠ (.slice Ao63 x189008_3.length co63 : Value).ownBlock ∧ some k_ ≠ (v201 : Value).ownBlock ∧ some k_ ≠ (v205 : Value).ownBlock ∧ k_ ≠ gb170 ∧ k_ ≠ gb171 ∧ k_ ≠ gb188)) (HO_171008.out) (fun k_ hk => ⟨hk.1.1.1, ⟨hk.1.1.2.1, ⟨hk.1.2, ⟨hk.2, ⟨hk.1.1.2.2.1, ⟨hk.1.1.2.2.2.1, hk.1.1.2.2.2.2⟩⟩⟩⟩⟩⟩))).2.1 (Kd.V_F (Kd.V_mono (ok' := (fun k_ => ((P0_8_ k_ ∨ P1_8_ k_) ∨ w.heap.size ≤ k_) ∧ some k_ ≠ (.slice Ao63 x189008_3.length co63 : Value).ownBlock ∧ some k_ ≠ (v201 : Value).ownBlock ∧ some k_ ≠ (v205 : Value).ownBlock ∧ k_ ≠ gb170 ∧ k_ ≠ gb171 ∧ k_ ≠ gb188)) (HO_171008.out) (fun k_ hk => ⟨hk.1.1.1, ⟨hk.1.1.2.1, ⟨hk.1.2, ⟨hk.2, ⟨hk.1.1.2.2.1, ⟨hk.1.1.2.2.2.1, hk.1.1.2.2.2.2⟩⟩⟩⟩⟩⟩))))) (Reps.c9 (show Kd.FK k24 _ _ (⟨a1_0, a1_1, a1_2, a1_3, a1_4, a1_5, a1_6, a1_7, x172008_3⟩ : S24) [.int .i64 a1_0, .int .i64 a1_1, .int .i64 a1_2, .int .i64 a1_3, .int .i64 a1_4, .int .i64 a1_5, .int .i64 a1_6, .int .i64 a1_7, .slice Ao121 x172008_3.length co121] from (k24_mkF _ _ (⟨a1_0, a1_1, a1_2, a1_3, a1_4, a1_5, a1_6, a1_7, x172008_3⟩ : S24) (Kd.V_reads' (Kd.V_mono (ok' := (fun k_ => ((P0_8_ k_ ∨ P1_8_ k_) ∨ w.heap.size ≤ k_) ∧ some k_ ≠ (.slice Ao63 x189008_3.length co63 : Value).ownBlock ∧ some k_ ≠ (v201 : Value).ownBlock ∧ some k_ ≠ (v205 : Value).ownBlock ∧ k_ ≠ gb170 ∧ k_ ≠ gb171 ∧ k_ ≠ gb188)) (HO_172008.out) (fun k_ hk => ⟨hk.1.1.1, ⟨hk.1.1.2.1, ⟨hk.1.2, ⟨hk.2, ⟨hk.1.1.2.2.1, ⟨hk.1.1.2.2.2.1, hk.1.1.2.2.2.2⟩⟩⟩⟩⟩⟩))).2.1 (Kd.V_F (Kd.V_mono (ok' := (fun k_ => ((P0_8_ k_ ∨ P1_8_ k_) ∨ w.heap.size ≤ k_) ∧ some k_ ≠ (.slice Ao63 x189008_3.length co63 : Value).ownBlock ∧ some k_ ≠ (v201 : Value).ownBlock ∧ some k_ ≠ (v205 : Value).ownBlock ∧ k_ ≠ gb170 ∧ k_ ≠ gb171 ∧ k_ ≠ gb188)) (HO_172008.out) (fun k_ hk => ⟨hk.1.1.1, ⟨hk.1.1.2.1, ⟨hk.1.2, ⟨hk.2, ⟨hk.1.1.2.2.1, ⟨hk.1.1.2.2.2.1, hk.1.1.2.2.2.2⟩⟩⟩⟩⟩⟩))))) (Reps.none _ _)))); intro v209 w125 ho126 hb hg_ hnew_; clear hg_ hnew_; (first | rw [← Ny208.out] at ho126 | (simp only [Int.reduceToNat] at ho126; rw [← Ny208.out] at ho126)); have HO210 := Aside0.mk (Kd.N_lower ho126 (below_size (bw_ HB))); replace HO_171008 := Aside0.mk (Kd.V_elder' (tV_ HO_171008) (by first | exact Kd.N_base ho126 | exact Kd.N_base (Kd.S_N ho126)) hb); replace HO_172008 := Aside0.mk (Kd.V_elder' (tV_ HO_172008) (by first | exact Kd.N_base ho126 | exact Kd.N_base (Kd.S_N ho126)) hb); replace HO_189008 := Aside0.mk (Kd.R_below (tR_ HO_189008) hb); replace HO202 := Aside0.mk (Kd.R_below (tR_ HO202) hb); replace HO206 := Aside0.mk (Kd.R_below (tR_ HO206) hb); replace BK170 := Aside0.mk (blk_below (tk_ BK170) hb); replace BK171 := Aside0.mk (blk_below (tk_ BK171) hb); replace BK188 := Aside0.mk (blk_below (tk_ BK188) hb); replace HB := Aside0.mk (below_step (bw_ HB) hb); clear hb ho126; obtain ⟨Ao127, co127, eo127⟩ := Kd.N_slice HO210.out; subst eo127) | (go_at_call 12; (with_reducible refine (msg_Right.calls kj76 _ _ y208 true _ ?side1 ?side2 A112.out).mono ?_); (case side1 => repeat (first | exact (Kd.N_reads' HO210.out).2.2 | (with_reducible refine Kd.C_alloc ?_ _) | (with_reducible refine Kd.C_drewN ?_ _) | (with_reducible refine Kd.C_drew ?_))); (case side2 => exact (Kd.N_reads' HO210.out).2.1); rintro e w128 ⟨rfl, hb⟩; (try clear A112); replace HO_171008 := Aside0.mk (Kd.V_below (tV_ HO_171008) hb); replace HO_172008 := Aside0.mk (Kd.V_below (tV_ HO_172008) hb); replace HO_189008 := Aside0.mk (Kd.R_below (tR_ HO_189008) hb); replace HO202 := Aside0.mk (Kd.R_below (tR_ HO202) hb); replace HO206 := Aside0.mk (Kd.R_below (tR_ HO206) hb); replace HO210 := Aside0.mk (Kd.N_below (tN_ HO210) hb); replace BK170 := Aside0.mk (blk_below (tk_ BK170) hb); replace BK171 := Aside0.mk (blk_below (tk_ BK171) hb); replace BK188 := Aside0.mk (blk_below (tk_ BK188) hb); replace HB := Aside0.mk (below_step (bw_ HB) hb); (try clear hb); (try clear hb2); (try clear hk); (try clear hi); have hcv129 := own_string (P := Try.prog) Try.underlying29 Try.underlying5 Try.underlying9 (Kd.own_of_R HO202.out); have hcw130 := fun n_ : Nat => own_string (P := Try.prog) Try.underlying29 Try.underlying5 Try.underlying9 (Kd.own_of_R (Kd.R_drewN HO202.out n_)); have hcv131 := own_string (P := Try.prog) Try.underlying29 Try.underlying5 Try.underlying9 (Kd.own_of_R HO206.out); have hcw132 := fun n_ : Nat => own_string (P := Try.prog) Try.underlying29 Try.underlying5 Try.underlying9 (Kd.own_of_R (Kd.R_drewN HO206.out n_))))
           go_ret
           exact ⟨by first | rfl | (simp [errW_none, errW_some] <;> rfl) | (simp [*, errW_none, errW_some] <;> rfl), by repeat (first | (with_reducible first | exact HB.out | apply b_a | apply b_n | apply b_d | refine b_s ?_ GE170.out | refine b_s ?_ GE171.out | refine b_s ?_ GE188.out) | exact HB.out)⟩
/-- THE ONE PURE STATEMENT of pelotonlaw15_MsgApart. -/
def pelotonlaw15_MsgApart.Pure : Prop := ∀ (a0_0 : Int) (a0_1 : Int) (a0_2 : Int) (a0_3 : Int) (a0_4 : Int) (a0_5 : Int) (a0_6 : Int) (a0_7 : Int) (l0_8 : List Int) (a1_0 : Int) (a1_1 : Int) (a1_2 : Int) (a1_3 : Int) (a1_4 : Int) (a1_5 : Int) (a1_6 : Int) (a1_7 : Int) (l1_8 : List Int), ((Lit.int .i64 a0_0).wf = true ∧ (Lit.int .i64 a0_1).wf = true ∧ (Lit.int .i64 a0_2).wf = true ∧ (Lit.int .i64 a0_3).wf = true ∧ (Lit.int .i64 a0_4).wf = true ∧ (Lit.int .i64 a0_5).wf = true ∧ (Lit.int .i64 a0_6).wf = true ∧ (Lit.int .i64 a0_7).wf = true ∧ l0_8.length ≤ maxLen ∧ ∀ y0 ∈ l0_8, (Lit.int .i32 y0).wf = true) → ((Lit.int .i64 a1_0).wf = true ∧ (Lit.int .i64 a1_1).wf = true ∧ (Lit.int .i64 a1_2).wf = true ∧ (Lit.int .i64 a1_3).wf = true ∧ (Lit.int .i64 a1_4).wf = true ∧ (Lit.int .i64 a1_5).wf = true ∧ (Lit.int .i64 a1_6).wf = true ∧ (Lit.int .i64 a1_7).wf = true ∧ l1_8.length ≤ maxLen ∧ ∀ y0 ∈ l1_8, (Lit.int .i32 y0).wf = true) → ∃ k, pelotonlaw15_MsgApart.f k a0_0 a0_1 a0_2 a0_3 a0_4 a0_5 a0_6 a0_7 l0_8 a1_0 a1_1 a1_2 a1_3 a1_4 a1_5 a1_6 a1_7 l1_8 = some true

theorem pelotonlaw15_MsgApart.calls (k : Nat) (a0_0 : Int) (a0_1 : Int) (a0_2 : Int) (a0_3 : Int) (a0_4 : Int) (a0_5 : Int) (a0_6 : Int) (a0_7 : Int) (A0_8 : Option Addr) (c0_8 : Nat) (l0_8 : List Int) (a1_0 : Int) (a1_1 : Int) (a1_2 : Int) (a1_3 : Int) (a1_4 : Int) (a1_5 : Int) (a1_6 : Int) (a1_7 : Int) (A1_8 : Option Addr) (c1_8 : Nat) (l1_8 : List Int) (r : Bool) (w : World) (hr0_8 : Kd.C (Kd.int .i32) w A0_8 l0_8.length l0_8) (hc0_8 : l0_8.length ≤ c0_8) (hr1_8 : Kd.C (Kd.int .i32) w A1_8 l1_8.length l1_8) (hc1_8 : l1_8.length ≤ c1_8) (h : pelotonlaw15_MsgApart.f k a0_0 a0_1 a0_2 a0_3 a0_4 a0_5 a0_6 a0_7 l0_8 a1_0 a1_1 a1_2 a1_3 a1_4 a1_5 a1_6 a1_7 l1_8 = some r) :
  Calls Try.prog 4 #[.agg #[.int .i64 a0_0, .int .i64 a0_1, .int .i64 a0_2, .int .i64 a0_3, .int .i64 a0_4, .int .i64 a0_5, .int .i64 a0_6, .int .i64 a0_7, .slice A0_8 l0_8.length c0_8], .agg #[.int .i64 a1_0, .int .i64 a1_1, .int .i64 a1_2, .int .i64 a1_3, .int .i64 a1_4, .int .i64 a1_5, .int .i64 a1_6, .int .i64 a1_7, .slice A1_8 l1_8.length c1_8]] w fun e w' => e = .returned (.bool r) ∧ Below w.heap.size w w' := pelotonlaw15_MsgApart.callsV k a0_0 a0_1 a0_2 a0_3 a0_4 a0_5 a0_6 a0_7 (fun _ => True) A0_8 c0_8 l0_8 a1_0 a1_1 a1_2 a1_3 a1_4 a1_5 a1_6 a1_7 (fun _ => True) A1_8 c1_8 l1_8 r w (Kd.V_mk hc0_8 (C_F hr0_8)) (Kd.V_mk hc1_8 (C_F hr1_8)) h
end Go.Proofs.Ytnkphgiodpledaa.QMsgApart
