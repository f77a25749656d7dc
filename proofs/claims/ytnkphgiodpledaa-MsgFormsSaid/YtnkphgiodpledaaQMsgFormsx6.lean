-- Written by a program of this session (a turned copy of the print) out of the translation. Lean checks it.
import Derived.Test.YtnkphgiodpledaaQMsgFormsx0
import Derived.Test.YtnkphgiodpledaaQMsgFormsx2
import Derived.Test.YtnkphgiodpledaaQMsgFormsx3
import Derived.Test.YtnkphgiodpledaaQMsgFormsx4
import Derived.Test.YtnkphgiodpledaaQMsgFormsx5
namespace Go.Proofs.Ytnkphgiodpledaa.QMsgForms
open Go.RowKit Go.Proofs.YtnkphgiodpledaaW.PrintWords Go.Proofs.YtnkphgiodpledaaW.PrintLast Go.Proofs.YtnkphgiodpledaaW.PrintMore
attribute [local go_sem] max2_int min2_int max_two min_two max_three min_three max_four min_four   -- for this text's walks alone
open Go.Proofs.YtnkphgiodpledaaW.PrintWords renaming below_alloc → b_a, pw_below_drewN → b_n, below_drew1 → b_d, below_set → b_s, blk_drewN → k_n, blk_drew → k_d, blk_alloc → k_a
open List renaming setIfInBounds_toArray → l_1, set_cons_zero → l_2, set_cons_succ → l_3, map_toArray → l_4, map_cons → l_5, map_nil → l_6, length_drop → l_7, length_take → l_8
set_option linter.unusedVariables false
set_option linter.unusedSimpArgs false

/-! ### pelotonlaw15_MsgForms: function 3 -/
mutual
def pelotonlaw15_MsgForms.j0 : Nat → Int → Int → Bool → Int → Int → Int → Int → Int → Int → Int → Int → List Int → Option (Bool)
 | 0, _, _, _, _, _, _, _, _, _, _, _, _ => none
 | k + 1, x1, x2, x28, x163000, x163001, x163002, x163003, x163004, x163005, x163006, x163007, x163008 => if x28 = true then ((pelotonlaw15_awake.f k).bind fun t165 => (some t165)) else ((msg_Clone.f x163000 x163001 x163002 x163003 x163004 x163005 x163006 x163007 x163008).bind fun bt166 => (if (Int.tmod (wrap64 ((Int.tmod x1 7) + 7)) 7) = 0 then (pelotonlaw15_MsgForms.j1 k x2 (⟨#[101, 114, 112, 108, 115, 116, 107]⟩ : ByteArray) (Int.tmod (wrap64 ((Int.tmod x1 7) + 7)) 7) x163000 x163001 x163002 x163003 x163004 x163005 x163006 x163007 x163008 bt166.1 x2 bt166.2.2.1 bt166.2.2.2.1 bt166.2.2.2.2.1 bt166.2.2.2.2.2.1 bt166.2.2.2.2.2.2.1 bt166.2.2.2.2.2.2.2.1 bt166.2.2.2.2.2.2.2.2) else (if (Int.tmod (wrap64 ((Int.tmod x1 7) + 7)) 7) = 1 then (pelotonlaw15_MsgForms.j1 k x2 (⟨#[101, 114, 112, 108, 115, 116, 107]⟩ : ByteArray) (Int.tmod (wrap64 ((Int.tmod x1 7) + 7)) 7) x163000 x163001 x163002 x163003 x163004 x163005 x163006 x163007 x163008 bt166.1 bt166.2.1 x2 bt166.2.2.2.1 bt166.2.2.2.2.1 bt166.2.2.2.2.2.1 bt166.2.2.2.2.2.2.1 bt166.2.2.2.2.2.2.2.1 bt166.2.2.2.2.2.2.2.2) else (if (Int.tmod (wrap64 ((Int.tmod x1 7) + 7)) 7) = 2 then (pelotonlaw15_MsgForms.j1 k x2 (⟨#[101, 114, 112, 108, 115, 116, 107]⟩ : ByteArray) (Int.tmod (wrap64 ((Int.tmod x1 7) + 7)) 7) x163000 x163001 x163002 x163003 x163004 x163005 x163006 x163007 x163008 bt166.1 bt166.2.1 bt166.2.2.1 x2 bt166.2.2.2.2.1 bt166.2.2.2.2.2.1 bt166.2.2.2.2.2.2.1 bt166.2.2.2.2.2.2.2.1 bt166.2.2.2.2.2.2.2.2) else (if (Int.tmod (wrap64 ((Int.tmod x1 7) + 7)) 7) = 3 then (pelotonlaw15_MsgForms.j1 k x2 (⟨#[101, 114, 112, 108, 115, 116, 107]⟩ : ByteArray) (Int.tmod (wrap64 ((Int.tmod x1 7) + 7)) 7) x163000 x163001 x163002 x163003 x163004 x163005 x163006 x163007 x163008 bt166.1 bt166.2.1 bt166.2.2.1 bt166.2.2.2.1 x2 bt166.2.2.2.2.2.1 bt166.2.2.2.2.2.2.1 bt166.2.2.2.2.2.2.2.1 bt166.2.2.2.2.2.2.2.2) else (if (Int.tmod (wrap64 ((Int.tmod x1 7) + 7)) 7) = 4 then (pelotonlaw15_MsgForms.j1 k x2 (⟨#[101, 114, 112, 108, 115, 116, 107]⟩ : ByteArray) (Int.tmod (wrap64 ((Int.tmod x1 7) + 7)) 7) x163000 x163001 x163002 x163003 x163004 x163005 x163006 x163007 x163008 bt166.1 bt166.2.1 bt166.2.2.1 bt166.2.2.2.1 bt166.2.2.2.2.1 x2 bt166.2.2.2.2.2.2.1 bt166.2.2.2.2.2.2.2.1 bt166.2.2.2.2.2.2.2.2) else (if (Int.tmod (wrap64 ((Int.tmod x1 7) + 7)) 7) = 5 then (pelotonlaw15_MsgForms.j1 k x2 (⟨#[101, 114, 112, 108, 115, 116, 107]⟩ : ByteArray) (Int.tmod (wrap64 ((Int.tmod x1 7) + 7)) 7) x163000 x163001 x163002 x163003 x163004 x163005 x163006 x163007 x163008 bt166.1 bt166.2.1 bt166.2.2.1 bt166.2.2.2.1 bt166.2.2.2.2.1 bt166.2.2.2.2.2.1 x2 bt166.2.2.2.2.2.2.2.1 bt166.2.2.2.2.2.2.2.2) else (if (Int.tmod (wrap64 ((Int.tmod x1 7) + 7)) 7) = 6 then (pelotonlaw15_MsgForms.j1 k x2 (⟨#[101, 114, 112, 108, 115, 116, 107]⟩ : ByteArray) (Int.tmod (wrap64 ((Int.tmod x1 7) + 7)) 7) x163000 x163001 x163002 x163003 x163004 x163005 x163006 x163007 x163008 bt166.1 bt166.2.1 bt166.2.2.1 bt166.2.2.2.1 bt166.2.2.2.2.1 bt166.2.2.2.2.2.1 bt166.2.2.2.2.2.2.1 x2 bt166.2.2.2.2.2.2.2.2) else (pelotonlaw15_MsgForms.j1 k x2 (⟨#[101, 114, 112, 108, 115, 116, 107]⟩ : ByteArray) (Int.tmod (wrap64 ((Int.tmod x1 7) + 7)) 7) x163000 x163001 x163002 x163003 x163004 x163005 x163006 x163007 x163008 bt166.1 bt166.2.1 bt166.2.2.1 bt166.2.2.2.1 bt166.2.2.2.2.1 bt166.2.2.2.2.2.1 bt166.2.2.2.2.2.2.1 bt166.2.2.2.2.2.2.2.1 bt166.2.2.2.2.2.2.2.2)))))))))
def pelotonlaw15_MsgForms.j1 : Nat → Int → ByteArray → Int → Int → Int → Int → Int → Int → Int → Int → Int → List Int → Int → Int → Int → Int → Int → Int → Int → Int → List Int → Option (Bool)
 | 0, _, _, _, _, _, _, _, _, _, _, _, _, _, _, _, _, _, _, _, _, _ => none
 | k + 1, x2, x7, x8, x163000, x163001, x163002, x163003, x163004, x163005, x163006, x163007, x163008, x178000, x178001, x178002, x178003, x178004, x178005, x178006, x178007, x178008 => (pelotonref15_Form.f k x163000).bind fun t178 => (pelotonlaw15_MsgForms.l0 k x2 x7 x8 false t178 0 x178000 x178001 x178002 x178003 x178004 x178005 x178006 x178007 x178008)
def pelotonlaw15_MsgForms.l0 : Nat → Int → ByteArray → Int → Bool → ByteArray → Int → Int → Int → Int → Int → Int → Int → Int → Int → List Int → Option (Bool)
 | 0, _, _, _, _, _, _, _, _, _, _, _, _, _, _, _ => none
 | k + 1, x2, x7, x8, x10, x11, x12, x178000, x178001, x178002, x178003, x178004, x178005, x178006, x178007, x178008 => if x12 < (x11.size : Int) then (if x10 = true then (pelotonlaw15_MsgForms.l0 k x2 x7 x8 true x11 (wrap64 (x12 + 1)) x178000 x178001 x178002 x178003 x178004 x178005 x178006 x178007 x178008) else (if 0 ≤ x12 then (if 0 ≤ x8 then (if x8 < (x7.size : Int) then (pelotonlaw15_MsgForms.l0 k x2 x7 x8 ((bt x11 x12) == (bt x7 x8)) x11 (wrap64 (x12 + 1)) x178000 x178001 x178002 x178003 x178004 x178005 x178006 x178007 x178008) else (none)) else (none)) else (none))) else (if x2 = 0 then ((msg_Bytes.f x178000 x178001 x178002 x178003 x178004 x178005 x178006 x178007 x178008).bind fun bt179 => ((msg_Right.f k (([(⟨x178000, x178001, x178002, x178003, x178004, x178005, x178006, x178007, x178008⟩ : S24)] : List (S24)))).bind fun t186 => (if (t186 == true) = true then (some ((bt179.2 == 0) == true)) else (some false)))) else (if x10 = true then (if x2 > 0 then ((msg_Bytes.f x178000 x178001 x178002 x178003 x178004 x178005 x178006 x178007 x178008).bind fun bt187 => ((msg_Right.f k (([(⟨x178000, x178001, x178002, x178003, x178004, x178005, x178006, x178007, x178008⟩ : S24)] : List (S24)))).bind fun t194 => (if (t194 == (decide (x2 < 1099511627776))) = true then (some ((bt187.2 == 0) == (decide (x2 < 1099511627776)))) else (some false)))) else ((msg_Bytes.f x178000 x178001 x178002 x178003 x178004 x178005 x178006 x178007 x178008).bind fun bt195 => ((msg_Right.f k (([(⟨x178000, x178001, x178002, x178003, x178004, x178005, x178006, x178007, x178008⟩ : S24)] : List (S24)))).bind fun t202 => (if (t202 == false) = true then (some ((bt195.2 == 0) == false)) else (some false))))) else ((msg_Bytes.f x178000 x178001 x178002 x178003 x178004 x178005 x178006 x178007 x178008).bind fun bt203 => ((msg_Right.f k (([(⟨x178000, x178001, x178002, x178003, x178004, x178005, x178006, x178007, x178008⟩ : S24)] : List (S24)))).bind fun t210 => (if (t210 == false) = true then (some ((bt203.2 == 0) == false)) else (some false))))))
end
def pelotonlaw15_MsgForms.f (k : Nat) (a0_0 : Int) (a0_1 : Int) (a0_2 : Int) (a0_3 : Int) (a0_4 : Int) (a0_5 : Int) (a0_6 : Int) (a0_7 : Int) (l0_8 : List Int) (a1 : Int) (a2 : Int) : Option (Bool) := (pelotonlaw15_awake.f k).bind fun t163 => (if t163 = true then (if (l0_8.length : Int) > 1000 then (pelotonlaw15_MsgForms.j0 k a1 a2 true a0_0 a0_1 a0_2 a0_3 a0_4 a0_5 a0_6 a0_7 l0_8) else ((pelotonref15_Right.f k a0_0 a0_1 a0_2 a0_3 a0_4 a0_5 a0_6 a0_7 l0_8).bind fun t164 => (pelotonlaw15_MsgForms.j0 k a1 a2 (!t164) a0_0 a0_1 a0_2 a0_3 a0_4 a0_5 a0_6 a0_7 l0_8))) else (pelotonlaw15_MsgForms.j0 k a1 a2 true a0_0 a0_1 a0_2 a0_3 a0_4 a0_5 a0_6 a0_7 l0_8))
theorem pelotonlaw15_MsgForms.mono_l : ∀ k, (∀ y0 y1 y2 y3 y4 y5 y6 y7 y8 y9 y10 y11, LeO (pelotonlaw15_MsgForms.j0 k y0 y1 y2 y3 y4 y5 y6 y7 y8 y9 y10 y11) (pelotonlaw15_MsgForms.j0 (k + 1) y0 y1 y2 y3 y4 y5 y6 y7 y8 y9 y10 y11)) ∧ (∀ y0 y1 y2 y3 y4 y5 y6 y7 y8 y9 y10 y11 y12 y13 y14 y15 y16 y17 y18 y19 y20, LeO (pelotonlaw15_MsgForms.j1 k y0 y1 y2 y3 y4 y5 y6 y7 y8 y9 y10 y11 y12 y13 y14 y15 y16 y17 y18 y19 y20) (pelotonlaw15_MsgForms.j1 (k + 1) y0 y1 y2 y3 y4 y5 y6 y7 y8 y9 y10 y11 y12 y13 y14 y15 y16 y17 y18 y19 y20)) ∧ (∀ y0 y1 y2 y3 y4 y5 y6 y7 y8 y9 y10 y11 y12 y13 y14, LeO (pelotonlaw15_MsgForms.l0 k y0 y1 y2 y3 y4 y5 y6 y7 y8 y9 y10 y11 y12 y13 y14) (pelotonlaw15_MsgForms.l0 (k + 1) y0 y1 y2 y3 y4 y5 y6 y7 y8 y9 y10 y11 y12 y13 y14))
 | 0 => ⟨fun _ _ _ _ _ _ _ _ _ _ _ _ r h => by simp [pelotonlaw15_MsgForms.j0] at h, fun _ _ _ _ _ _ _ _ _ _ _ _ _ _ _ _ _ _ _ _ _ r h => by simp [pelotonlaw15_MsgForms.j1] at h, fun _ _ _ _ _ _ _ _ _ _ _ _ _ _ _ r h => by simp [pelotonlaw15_MsgForms.l0] at h⟩
 | k + 1 => by
  obtain ⟨ih0, ih1, ih2⟩ := pelotonlaw15_MsgForms.mono_l k
  refine ⟨?_, ?_, ?_⟩
  ·
   intro y0 y1 y2 y3 y4 y5 y6 y7 y8 y9 y10 y11
   unfold pelotonlaw15_MsgForms.j0
   repeat' first
   | (with_reducible exact ih0 _ _ _ _ _ _ _ _ _ _ _ _)
   | (with_reducible exact ih1 _ _ _ _ _ _ _ _ _ _ _ _ _ _ _ _ _ _ _ _ _)
   | (with_reducible exact ih2 _ _ _ _ _ _ _ _ _ _ _ _ _ _ _)
   | (with_reducible exact msg_Right.mono _ _)
   | (with_reducible exact pelotonlaw15_awake.mono _)
   | (with_reducible exact pelotonref15_Form.mono _ _)
   | (with_reducible exact pelotonref15_Right.mono _ _ _ _ _ _ _ _ _ _)
   | (with_reducible exact LeO.refl _)
   | (with_reducible exact LeO.none _)
   | (with_reducible refine LeO.ite ?_ ?_)
   | (with_reducible refine LeO.bind ?_ (fun _ => ?_))
   | exact ih0 _ _ _ _ _ _ _ _ _ _ _ _
   | exact ih1 _ _ _ _ _ _ _ _ _ _ _ _ _ _ _ _ _ _ _ _ _
   | exact ih2 _ _ _ _ _ _ _ _ _ _ _ _ _ _ _
   | exact msg_Right.mono _ _
   | exact pelotonlaw15_awake.mono _
   | exact pelotonref15_Form.mono _ _
   | exact pelotonref15_Right.mono _ _ _ _ _ _ _ _ _ _
   | exact LeO.none _
   | refine LeO.ite ?_ ?_
   | refine LeO.bind ?_ (fun _ => ?_)
  ·
   intro y0 y1 y2 y3 y4 y5 y6 y7 y8 y9 y10 y11 y12 y13 y14 y15 y16 y17 y18 y19 y20
   unfold pelotonlaw15_MsgForms.j1
   repeat' first
   | (with_reducible exact ih0 _ _ _ _ _ _ _ _ _ _ _ _)
   | (with_reducible exact ih1 _ _ _ _ _ _ _ _ _ _ _ _ _ _ _ _ _ _ _ _ _)
   | (with_reducible exact ih2 _ _ _ _ _ _ _ _ _ _ _ _ _ _ _)
   | (with_reducible exact msg_Right.mono _ _)
   | (with_reducible exact pelotonlaw15_awake.mono _)
   | (with_reducible exact pelotonref15_Form.mono _ _)
   | (with_reducible exact pelotonref15_Right.mono _ _ _ _ _ _ _ _ _ _)
   | (with_reducible exact LeO.refl _)
   | (with_reducible exact LeO.none _)
   | (with_reducible refine LeO.ite ?_ ?_)
   | (with_reducible refine LeO.bind ?_ (fun _ => ?_))
   | exact ih0 _ _ _ _ _ _ _ _ _ _ _ _
   | exact ih1 _ _ _ _ _ _ _ _ _ _ _ _ _ _ _ _ _ _ _ _ _
   | exact ih2 _ _ _ _ _ _ _ _ _ _ _ _ _ _ _
   | exact msg_Right.mono _ _
   | exact pelotonlaw15_awake.mono _
   | exact pelotonref15_Form.mono _ _
   | exact pelotonref15_Right.mono _ _ _ _ _ _ _ _ _ _
   | exact LeO.none _
   | refine LeO.ite ?_ ?_
   | refine LeO.bind ?_ (fun _ => ?_)
  ·
   intro y0 y1 y2 y3 y4 y5 y6 y7 y8 y9 y10 y11 y12 y13 y14
   unfold pelotonlaw15_MsgForms.l0
   repeat' first
   | (with_reducible exact ih0 _ _ _ _ _ _ _ _ _ _ _ _)
   | (with_reducible exact ih1 _ _ _ _ _ _ _ _ _ _ _ _ _ _ _ _ _ _ _ _ _)
   | (with_reducible exact ih2 _ _ _ _ _ _ _ _ _ _ _ _ _ _ _)
   | (with_reducible exact msg_Right.mono _ _)
   | (with_reducible exact pelotonlaw15_awake.mono _)
   | (with_reducible exact pelotonref15_Form.mono _ _)
   | (with_reducible exact pelotonref15_Right.mono _ _ _ _ _ _ _ _ _ _)
   | (with_reducible exact LeO.refl _)
   | (with_reducible exact LeO.none _)
   | (with_reducible refine LeO.ite ?_ ?_)
   | (with_reducible refine LeO.bind ?_ (fun _ => ?_))
   | exact ih0 _ _ _ _ _ _ _ _ _ _ _ _
   | exact ih1 _ _ _ _ _ _ _ _ _ _ _ _ _ _ _ _ _ _ _ _ _
   | exact ih2 _ _ _ _ _ _ _ _ _ _ _ _ _ _ _
   | exact msg_Right.mono _ _
   | exact pelotonlaw15_awake.mono _
   | exact pelotonref15_Form.mono _ _
   | exact pelotonref15_Right.mono _ _ _ _ _ _ _ _ _ _
   | exact LeO.none _
   | refine LeO.ite ?_ ?_
   | refine LeO.bind ?_ (fun _ => ?_)
theorem pelotonlaw15_MsgForms.mono : ∀ a0 a1 a2 a3 a4 a5 a6 a7 a8 a9 a10 k, LeO (pelotonlaw15_MsgForms.f k a0 a1 a2 a3 a4 a5 a6 a7 a8 a9 a10) (pelotonlaw15_MsgForms.f (k + 1) a0 a1 a2 a3 a4 a5 a6 a7 a8 a9 a10) := by
 intro a0 a1 a2 a3 a4 a5 a6 a7 a8 a9 a10 k
 obtain ⟨ih0, ih1, ih2⟩ := pelotonlaw15_MsgForms.mono_l k
 unfold pelotonlaw15_MsgForms.f
 repeat' first
   | (with_reducible exact ih0 _ _ _ _ _ _ _ _ _ _ _ _)
   | (with_reducible exact ih1 _ _ _ _ _ _ _ _ _ _ _ _ _ _ _ _ _ _ _ _ _)
   | (with_reducible exact ih2 _ _ _ _ _ _ _ _ _ _ _ _ _ _ _)
   | (with_reducible exact msg_Right.mono _ _)
   | (with_reducible exact pelotonlaw15_awake.mono _)
   | (with_reducible exact pelotonref15_Form.mono _ _)
   | (with_reducible exact pelotonref15_Right.mono _ _ _ _ _ _ _ _ _ _)
   | (with_reducible exact LeO.refl _)
   | (with_reducible exact LeO.none _)
   | (with_reducible refine LeO.ite ?_ ?_)
   | (with_reducible refine LeO.bind ?_ (fun _ => ?_))
   | exact ih0 _ _ _ _ _ _ _ _ _ _ _ _
   | exact ih1 _ _ _ _ _ _ _ _ _ _ _ _ _ _ _ _ _ _ _ _ _
   | exact ih2 _ _ _ _ _ _ _ _ _ _ _ _ _ _ _
   | exact msg_Right.mono _ _
   | exact pelotonlaw15_awake.mono _
   | exact pelotonref15_Form.mono _ _
   | exact pelotonref15_Right.mono _ _ _ _ _ _ _ _ _ _
   | exact LeO.none _
   | refine LeO.ite ?_ ?_
   | refine LeO.bind ?_ (fun _ => ?_)
set_option maxHeartbeats 60000000 in
set_option maxRecDepth 100000 in
theorem pelotonlaw15_MsgForms.calls (k : Nat) (a0_0 : Int) (a0_1 : Int) (a0_2 : Int) (a0_3 : Int) (a0_4 : Int) (a0_5 : Int) (a0_6 : Int) (a0_7 : Int) (A0_8 : Option Addr) (c0_8 : Nat) (l0_8 : List Int) (a1 : Int) (a2 : Int) (r : Bool) (w : World) (hr0_8 : Kd.C (Kd.int .i32) w A0_8 l0_8.length l0_8) (hc0_8 : l0_8.length ≤ c0_8) (h : pelotonlaw15_MsgForms.f k a0_0 a0_1 a0_2 a0_3 a0_4 a0_5 a0_6 a0_7 l0_8 a1 a2 = some r) :
  Calls Try.prog 3 #[.agg #[.int .i64 a0_0, .int .i64 a0_1, .int .i64 a0_2, .int .i64 a0_3, .int .i64 a0_4, .int .i64 a0_5, .int .i64 a0_6, .int .i64 a0_7, .slice A0_8 l0_8.length c0_8], .int .i64 a1, .int .i64 a2] w fun e w' => e = .returned (.bool r) ∧ Below w.heap.size w w' := by
 have hu24 := Try.underlying24
 have HR0_8 := Aside0.mk hr0_8
 have HC0_8 := Aside0.mk hc0_8
 clear hr0_8 hc0_8
 have HB := Aside0.mk (Below.refl w.heap.size w)
 have H : ((pelotonlaw15_awake.f k).bind fun t163 => (if t163 = true then (if (l0_8.length : Int) > 1000 then (pelotonlaw15_MsgForms.j0 k a1 a2 true a0_0 a0_1 a0_2 a0_3 a0_4 a0_5 a0_6 a0_7 l0_8) else ((pelotonref15_Right.f k a0_0 a0_1 a0_2 a0_3 a0_4 a0_5 a0_6 a0_7 l0_8).bind fun t164 => (pelotonlaw15_MsgForms.j0 k a1 a2 (!t164) a0_0 a0_1 a0_2 a0_3 a0_4 a0_5 a0_6 a0_7 l0_8))) else (pelotonlaw15_MsgForms.j0 k a1 a2 true a0_0 a0_1 a0_2 a0_3 a0_4 a0_5 a0_6 a0_7 l0_8))) = some r := h
 clear h
 have HC4 := Aside0.mk H
 clear H
 go_enter Try.func3, Try.ntmps3
 go_upto_region 1 with (first | ((with_reducible refine gate_dst (N := 3) rfl ?_); (try (refine gate_guard (by rfl) ?_; dsimp only)); refine box_event ?hg (N := 3) ?hd (cs := #[.int .i64 a0_0, .int .i64 a0_1, .int .i64 a0_2, .int .i64 a0_3, .int .i64 a0_4, .int .i64 a0_5, .int .i64 a0_6, .int .i64 a0_7, .slice A0_8 l0_8.length c0_8]) (t := 24) ?hr ?_; (case hd => rfl); (case hg => rfl); (case hr => first | (go_simp; done) | (go_simp; rfl)); intro gb162 hg w5 hbox hb; have BK162 := Aside0.mk (hbox); have GW162 := Aside0.mk ((by rw [hg]; exact (below_size (bw_ HB)) : w.heap.size ≤ gb162)); have GE162 := Aside0.mk ((by rw [hg]; exact (below_size (bw_ HB)) : w.heap.size ≤ gb162)); replace HB := Aside0.mk (below_step (bw_ HB) hb); clear hb hbox hg))
 repeat (go_quiet (first | ((with_reducible refine gate_dst (N := 3) rfl ?_); (try (refine gate_guard (by rfl) ?_; dsimp only)); refine box_event ?hg (N := 3) ?hd (cs := #[.int .i64 a0_0, .int .i64 a0_1, .int .i64 a0_2, .int .i64 a0_3, .int .i64 a0_4, .int .i64 a0_5, .int .i64 a0_6, .int .i64 a0_7, .slice A0_8 l0_8.length c0_8]) (t := 24) ?hr ?_; (case hd => rfl); (case hg => rfl); (case hr => first | (go_simp; done) | (go_simp; rfl)); intro gb162 hg w5 hbox hb; have BK162 := Aside0.mk (hbox); have GW162 := Aside0.mk ((by rw [hg]; exact (below_size (bw_ HB)) : w.heap.size ≤ gb162)); have GE162 := Aside0.mk ((by rw [hg]; exact (below_size (bw_ HB)) : w.heap.size ≤ gb162)); replace HB := Aside0.mk (below_step (bw_ HB) hb); clear hb hbox hg)); go_upto_region 1 with (first | ((with_reducible refine gate_dst (N := 3) rfl ?_); (try (refine gate_guard (by rfl) ?_; dsimp only)); refine box_event ?hg (N := 3) ?hd (cs := #[.int .i64 a0_0, .int .i64 a0_1, .int .i64 a0_2, .int .i64 a0_3, .int .i64 a0_4, .int .i64 a0_5, .int .i64 a0_6, .int .i64 a0_7, .slice A0_8 l0_8.length c0_8]) (t := 24) ?hr ?_; (case hd => rfl); (case hg => rfl); (case hr => first | (go_simp; done) | (go_simp; rfl)); intro gb162 hg w5 hbox hb; have BK162 := Aside0.mk (hbox); have GW162 := Aside0.mk ((by rw [hg]; exact (below_size (bw_ HB)) : w.heap.size ≤ gb162)); have GE162 := Aside0.mk ((by rw [hg]; exact (below_size (bw_ HB)) : w.heap.size ≤ gb162)); replace HB := Aside0.mk (below_step (bw_ HB) hb); clear hb hbox hg)))
 (try simp only [Act.put, l_1, l_2, l_3])
 go_cut [28] (fun v28 wc => ∃ (kq : Nat) (x28_3 : Bool), v28 = .bool x28_3 ∧ Aside0 (pelotonlaw15_MsgForms.j0 kq a1 a2 x28_3 a0_0 a0_1 a0_2 a0_3 a0_4 a0_5 a0_6 a0_7 l0_8 = some r) ∧ Aside0 (kq ≤ k) ∧ Aside0 (wc.heap[gb162]? = some (.cells #[.int .i64 a0_0, .int .i64 a0_1, .int .i64 a0_2, .int .i64 a0_3, .int .i64 a0_4, .int .i64 a0_5, .int .i64 a0_6, .int .i64 a0_7, (.slice A0_8 l0_8.length c0_8)] 24 (0, 0))) ∧ Aside0 (Below w.heap.size w wc))
 case first =>
  have H := HC4.out
  clear HC4
  replace H := Option.bind_eq_some_iff.mp H
  obtain ⟨t163, A60, H⟩ := H
  replace H : (if t163 = true then (if (l0_8.length : Int) > 1000 then (pelotonlaw15_MsgForms.j0 k a1 a2 true a0_0 a0_1 a0_2 a0_3 a0_4 a0_5 a0_6 a0_7 l0_8) else ((pelotonref15_Right.f k a0_0 a0_1 a0_2 a0_3 a0_4 a0_5 a0_6 a0_7 l0_8).bind fun t164 => (pelotonlaw15_MsgForms.j0 k a1 a2 (!t164) a0_0 a0_1 a0_2 a0_3 a0_4 a0_5 a0_6 a0_7 l0_8))) else (pelotonlaw15_MsgForms.j0 k a1 a2 true a0_0 a0_1 a0_2 a0_3 a0_4 a0_5 a0_6 a0_7 l0_8)) = some r := H
  have A6 := Aside0.mk A60
  clear A60
  by_cases c7 : t163 = true
  rotate_left
  ·
   replace c7 := Bool.eq_false_iff.mpr c7
   subst c7
   have H1 : (pelotonlaw15_MsgForms.j0 k a1 a2 true a0_0 a0_1 a0_2 a0_3 a0_4 a0_5 a0_6 a0_7 l0_8) = some r := by rw [if_neg (show ¬ (false = true) by decide)] at H; exact H
   clear H
   have H := H1
   clear H1
   have H' := Aside0.mk H
   clear H
   go_wp2_with (first | (go_at_call 7; (with_reducible refine (pelotonlaw15_awake.calls k  false _ A6.out).mono ?_); rintro e w15 ⟨rfl, hb⟩; (try clear A6); replace BK162 := Aside0.mk (blk_below (tk_ BK162) hb); replace HB := Aside0.mk (below_step (bw_ HB) hb); (try clear hb); (try clear hb2); (try clear hk); (try clear hi)))
   repeat (go_quiet (first | (go_at_call 7; (with_reducible refine (pelotonlaw15_awake.calls k  false _ A6.out).mono ?_); rintro e w15 ⟨rfl, hb⟩; (try clear A6); replace BK162 := Aside0.mk (blk_below (tk_ BK162) hb); replace HB := Aside0.mk (below_step (bw_ HB) hb); (try clear hb); (try clear hb2); (try clear hk); (try clear hi))); try go_wp2_with (first | (go_at_call 7; (with_reducible refine (pelotonlaw15_awake.calls k  false _ A6.out).mono ?_); rintro e w15 ⟨rfl, hb⟩; (try clear A6); replace BK162 := Aside0.mk (blk_below (tk_ BK162) hb); replace HB := Aside0.mk (below_step (bw_ HB) hb); (try clear hb); (try clear hb2); (try clear hk); (try clear hi))))
   go_meet
   case rel => exact ⟨_, (true), (by first | rfl | (simp; done) | (simp [*]; done)), H', ⟨by first | exact Nat.le_refl _ | omega⟩, ⟨tk_ BK162⟩, ⟨by repeat (first | (with_reducible first | exact HB.out | apply b_a | apply b_n | apply b_d | refine b_s ?_ GE162.out) | exact HB.out)⟩⟩
  subst c7
  have H1 : (if (l0_8.length : Int) > 1000 then (pelotonlaw15_MsgForms.j0 k a1 a2 true a0_0 a0_1 a0_2 a0_3 a0_4 a0_5 a0_6 a0_7 l0_8) else ((pelotonref15_Right.f k a0_0 a0_1 a0_2 a0_3 a0_4 a0_5 a0_6 a0_7 l0_8).bind fun t164 => (pelotonlaw15_MsgForms.j0 k a1 a2 (!t164) a0_0 a0_1 a0_2 a0_3 a0_4 a0_5 a0_6 a0_7 l0_8))) = some r := by rw [if_pos rfl] at H; exact H
  clear H
  have H := H1
  clear H1
  by_cases c8 : (l0_8.length : Int) > 1000
  ·
   rw [if_pos c8] at H
   have c8b0 : decide (1000 < (l0_8.length : Int)) = true := decide_eq_true c8
   have c8b1 : decide (1000 < l0_8.length) = true := decide_eq_true (by omega)
   clear c8
   (first | rw [c8b0] | (simp only [i64_w, i32_w]; rw [c8b0]) | skip)
   have H' := Aside0.mk H
   clear H
   go_wp2_with (first | (go_at_call 7; (with_reducible refine (pelotonlaw15_awake.calls k  true _ A6.out).mono ?_); rintro e w9 ⟨rfl, hb⟩; (try clear A6); replace BK162 := Aside0.mk (blk_below (tk_ BK162) hb); replace HB := Aside0.mk (below_step (bw_ HB) hb); (try clear hb); (try clear hb2); (try clear hk); (try clear hi); have hcz10_0 := bc_0 BK162; have hcz10_1 := bc_1 BK162; have hcz10_2 := bc_2 BK162; have hcz10_3 := bc_3 BK162; have hcz10_4 := bc_4 BK162; have hcz10_5 := bc_5 BK162; have hcz10_6 := bc_6 BK162; have hcz10_7 := bc_7 BK162; have hcz10_8 : w9.cell? ⟨gb162, 8, none⟩ = some (.slice A0_8 l0_8.length c0_8) := (blk_cell BK162.out 8).trans rfl; have hfz10_0 := blk_frozen BK162.out 0; have hfz10_1 := blk_frozen BK162.out 1; have hfz10_2 := blk_frozen BK162.out 2; have hfz10_3 := blk_frozen BK162.out 3; have hfz10_4 := blk_frozen BK162.out 4; have hfz10_5 := blk_frozen BK162.out 5; have hfz10_6 := blk_frozen BK162.out 6; have hfz10_7 := blk_frozen BK162.out 7; have hfz10_8 := blk_frozen BK162.out 8; (first | ((with_reducible refine gate_store_ rfl ?_); refine st9_ rfl rfl rfl rfl rfl (by with_reducible assumption) (by kernel_rfl) (by simp [Value.oneCell']) ?_; clear hcz10_0 hfz10_0 hcz10_1 hfz10_1 hcz10_2 hfz10_2 hcz10_3 hfz10_3 hcz10_4 hfz10_4 hcz10_5 hfz10_5 hcz10_6 hfz10_6 hcz10_7 hfz10_7 hcz10_8 hfz10_8; intro hb9_; have BN10 := Aside0.mk hb9_; clear hb9_) | skip)))
   repeat (go_quiet (first | (go_at_call 7; (with_reducible refine (pelotonlaw15_awake.calls k  true _ A6.out).mono ?_); rintro e w9 ⟨rfl, hb⟩; (try clear A6); replace BK162 := Aside0.mk (blk_below (tk_ BK162) hb); replace HB := Aside0.mk (below_step (bw_ HB) hb); (try clear hb); (try clear hb2); (try clear hk); (try clear hi); have hcz10_0 := bc_0 BK162; have hcz10_1 := bc_1 BK162; have hcz10_2 := bc_2 BK162; have hcz10_3 := bc_3 BK162; have hcz10_4 := bc_4 BK162; have hcz10_5 := bc_5 BK162; have hcz10_6 := bc_6 BK162; have hcz10_7 := bc_7 BK162; have hcz10_8 : w9.cell? ⟨gb162, 8, none⟩ = some (.slice A0_8 l0_8.length c0_8) := (blk_cell BK162.out 8).trans rfl; have hfz10_0 := blk_frozen BK162.out 0; have hfz10_1 := blk_frozen BK162.out 1; have hfz10_2 := blk_frozen BK162.out 2; have hfz10_3 := blk_frozen BK162.out 3; have hfz10_4 := blk_frozen BK162.out 4; have hfz10_5 := blk_frozen BK162.out 5; have hfz10_6 := blk_frozen BK162.out 6; have hfz10_7 := blk_frozen BK162.out 7; have hfz10_8 := blk_frozen BK162.out 8)); try go_wp2_with (first | (go_at_call 7; (with_reducible refine (pelotonlaw15_awake.calls k  true _ A6.out).mono ?_); rintro e w9 ⟨rfl, hb⟩; (try clear A6); replace BK162 := Aside0.mk (blk_below (tk_ BK162) hb); replace HB := Aside0.mk (below_step (bw_ HB) hb); (try clear hb); (try clear hb2); (try clear hk); (try clear hi); have hcz10_0 := bc_0 BK162; have hcz10_1 := bc_1 BK162; have hcz10_2 := bc_2 BK162; have hcz10_3 := bc_3 BK162; have hcz10_4 := bc_4 BK162; have hcz10_5 := bc_5 BK162; have hcz10_6 := bc_6 BK162; have hcz10_7 := bc_7 BK162; have hcz10_8 : w9.cell? ⟨gb162, 8, none⟩ = some (.slice A0_8 l0_8.length c0_8) := (blk_cell BK162.out 8).trans rfl; have hfz10_0 := blk_frozen BK162.out 0; have hfz10_1 := blk_frozen BK162.out 1; have hfz10_2 := blk_frozen BK162.out 2; have hfz10_3 := blk_frozen BK162.out 3; have hfz10_4 := blk_frozen BK162.out 4; have hfz10_5 := blk_frozen BK162.out 5; have hfz10_6 := blk_frozen BK162.out 6; have hfz10_7 := blk_frozen BK162.out 7; have hfz10_8 := blk_frozen BK162.out 8)))
   go_meet
   case rel => exact ⟨_, (true), (by first | rfl | (simp; done) | (simp [*]; done)), H', ⟨by first | exact Nat.le_refl _ | omega⟩, ⟨tk_ BK162⟩, ⟨by repeat (first | (with_reducible first | exact HB.out | apply b_a | apply b_n | apply b_d | refine b_s ?_ GE162.out) | exact HB.out)⟩⟩
  rw [if_neg c8] at H
  have c8b0 : decide (1000 < (l0_8.length : Int)) = false := decide_eq_false c8
  have c8b1 : decide (1000 < l0_8.length) = false := decide_eq_false (by omega)
  clear c8
  (first | rw [c8b0] | (simp only [i64_w, i32_w]; rw [c8b0]) | skip)
  replace H := Option.bind_eq_some_iff.mp H
  obtain ⟨t164, A110, H⟩ := H
  replace H : (pelotonlaw15_MsgForms.j0 k a1 a2 (!t164) a0_0 a0_1 a0_2 a0_3 a0_4 a0_5 a0_6 a0_7 l0_8) = some r := H
  have A11 := Aside0.mk A110
  clear A110
  have H' := Aside0.mk H
  clear H
  go_wp2_with (first | (go_at_call 7; (with_reducible refine (pelotonlaw15_awake.calls k  true _ A6.out).mono ?_); rintro e w12 ⟨rfl, hb⟩; (try clear A6); replace BK162 := Aside0.mk (blk_below (tk_ BK162) hb); replace HB := Aside0.mk (below_step (bw_ HB) hb); (try clear hb); (try clear hb2); (try clear hk); (try clear hi); have hcz13_0 := bc_0 BK162; have hcz13_1 := bc_1 BK162; have hcz13_2 := bc_2 BK162; have hcz13_3 := bc_3 BK162; have hcz13_4 := bc_4 BK162; have hcz13_5 := bc_5 BK162; have hcz13_6 := bc_6 BK162; have hcz13_7 := bc_7 BK162; have hcz13_8 : w12.cell? ⟨gb162, 8, none⟩ = some (.slice A0_8 l0_8.length c0_8) := (blk_cell BK162.out 8).trans rfl; have hfz13_0 := blk_frozen BK162.out 0; have hfz13_1 := blk_frozen BK162.out 1; have hfz13_2 := blk_frozen BK162.out 2; have hfz13_3 := blk_frozen BK162.out 3; have hfz13_4 := blk_frozen BK162.out 4; have hfz13_5 := blk_frozen BK162.out 5; have hfz13_6 := blk_frozen BK162.out 6; have hfz13_7 := blk_frozen BK162.out 7; have hfz13_8 := blk_frozen BK162.out 8) | (go_at_call 8; (with_reducible refine (pelotonref15_Right.calls k a0_0 a0_1 a0_2 a0_3 a0_4 a0_5 a0_6 a0_7 _ _ l0_8 t164 _ ?side1 ?side2 A11.out).mono ?_); (case side1 => repeat (first | exact (Kd.C_below HR0_8.out HB.out) | (with_reducible refine Kd.C_alloc ?_ _) | (with_reducible refine Kd.C_drewN ?_ _) | (with_reducible refine Kd.C_drew ?_))); (case side2 => exact HC0_8.out); rintro e w14 ⟨rfl, hb⟩; (try clear A11); replace BK162 := Aside0.mk (blk_below (tk_ BK162) hb); replace HB := Aside0.mk (below_step (bw_ HB) hb); (try clear hb); (try clear hb2); (try clear hk); (try clear hi); (first | ((with_reducible refine gate_store_ rfl ?_); refine st9_ rfl rfl rfl rfl rfl (by with_reducible assumption) (by kernel_rfl) (by simp [Value.oneCell']) ?_; clear hcz13_0 hfz13_0 hcz13_1 hfz13_1 hcz13_2 hfz13_2 hcz13_3 hfz13_3 hcz13_4 hfz13_4 hcz13_5 hfz13_5 hcz13_6 hfz13_6 hcz13_7 hfz13_7 hcz13_8 hfz13_8; intro hb9_; have BN13 := Aside0.mk hb9_; clear hb9_) | skip)))
  repeat (go_quiet (first | (go_at_call 7; (with_reducible refine (pelotonlaw15_awake.calls k  true _ A6.out).mono ?_); rintro e w12 ⟨rfl, hb⟩; (try clear A6); replace BK162 := Aside0.mk (blk_below (tk_ BK162) hb); replace HB := Aside0.mk (below_step (bw_ HB) hb); (try clear hb); (try clear hb2); (try clear hk); (try clear hi); have hcz13_0 := bc_0 BK162; have hcz13_1 := bc_1 BK162; have hcz13_2 := bc_2 BK162; have hcz13_3 := bc_3 BK162; have hcz13_4 := bc_4 BK162; have hcz13_5 := bc_5 BK162; have hcz13_6 := bc_6 BK162; have hcz13_7 := bc_7 BK162; have hcz13_8 : w12.cell? ⟨gb162, 8, none⟩ = some (.slice A0_8 l0_8.length c0_8) := (blk_cell BK162.out 8).trans rfl; have hfz13_0 := blk_frozen BK162.out 0; have hfz13_1 := blk_frozen BK162.out 1; have hfz13_2 := blk_frozen BK162.out 2; have hfz13_3 := blk_frozen BK162.out 3; have hfz13_4 := blk_frozen BK162.out 4; have hfz13_5 := blk_frozen BK162.out 5; have hfz13_6 := blk_frozen BK162.out 6; have hfz13_7 := blk_frozen BK162.out 7; have hfz13_8 := blk_frozen BK162.out 8) | (go_at_call 8; (with_reducible refine (pelotonref15_Right.calls k a0_0 a0_1 a0_2 a0_3 a0_4 a0_5 a0_6 a0_7 _ _ l0_8 t164 _ ?side1 ?side2 A11.out).mono ?_); (case side1 => repeat (first | exact (Kd.C_below HR0_8.out HB.out) | (with_reducible refine Kd.C_alloc ?_ _) | (with_reducible refine Kd.C_drewN ?_ _) | (with_reducible refine Kd.C_drew ?_))); (case side2 => exact HC0_8.out); rintro e w14 ⟨rfl, hb⟩; (try clear A11); replace BK162 := Aside0.mk (blk_below (tk_ BK162) hb); replace HB := Aside0.mk (below_step (bw_ HB) hb); (try clear hb); (try clear hb2); (try clear hk); (try clear hi))); try go_wp2_with (first | (go_at_call 7; (with_reducible refine (pelotonlaw15_awake.calls k  true _ A6.out).mono ?_); rintro e w12 ⟨rfl, hb⟩; (try clear A6); replace BK162 := Aside0.mk (blk_below (tk_ BK162) hb); replace HB := Aside0.mk (below_step (bw_ HB) hb); (try clear hb); (try clear hb2); (try clear hk); (try clear hi); have hcz13_0 := bc_0 BK162; have hcz13_1 := bc_1 BK162; have hcz13_2 := bc_2 BK162; have hcz13_3 := bc_3 BK162; have hcz13_4 := bc_4 BK162; have hcz13_5 := bc_5 BK162; have hcz13_6 := bc_6 BK162; have hcz13_7 := bc_7 BK162; have hcz13_8 : w12.cell? ⟨gb162, 8, none⟩ = some (.slice A0_8 l0_8.length c0_8) := (blk_cell BK162.out 8).trans rfl; have hfz13_0 := blk_frozen BK162.out 0; have hfz13_1 := blk_frozen BK162.out 1; have hfz13_2 := blk_frozen BK162.out 2; have hfz13_3 := blk_frozen BK162.out 3; have hfz13_4 := blk_frozen BK162.out 4; have hfz13_5 := blk_frozen BK162.out 5; have hfz13_6 := blk_frozen BK162.out 6; have hfz13_7 := blk_frozen BK162.out 7; have hfz13_8 := blk_frozen BK162.out 8) | (go_at_call 8; (with_reducible refine (pelotonref15_Right.calls k a0_0 a0_1 a0_2 a0_3 a0_4 a0_5 a0_6 a0_7 _ _ l0_8 t164 _ ?side1 ?side2 A11.out).mono ?_); (case side1 => repeat (first | exact (Kd.C_below HR0_8.out HB.out) | (with_reducible refine Kd.C_alloc ?_ _) | (with_reducible refine Kd.C_drewN ?_ _) | (with_reducible refine Kd.C_drew ?_))); (case side2 => exact HC0_8.out); rintro e w14 ⟨rfl, hb⟩; (try clear A11); replace BK162 := Aside0.mk (blk_below (tk_ BK162) hb); replace HB := Aside0.mk (below_step (bw_ HB) hb); (try clear hb); (try clear hb2); (try clear hk); (try clear hi))))
  go_meet
  case rel => exact ⟨_, (!t164), (by first | rfl | (simp; done) | (simp [*]; done)), H', ⟨by first | exact Nat.le_refl _ | omega⟩, ⟨tk_ BK162⟩, ⟨by repeat (first | (with_reducible first | exact HB.out | apply b_a | apply b_n | apply b_d | refine b_s ?_ GE162.out) | exact HB.out)⟩⟩
 case rest => as_aux_lemma =>
  clear HC4
  try clear p2
  try clear c3
  try clear c7
  try clear c8
  try clear c8b0
  try clear c8b1
  try clear hcz10_0
  try clear hcz10_1
  try clear hcz10_2
  try clear hcz10_3
  try clear hcz10_4
  try clear hcz10_5
  try clear hcz10_6
  try clear hcz10_7
  try clear hcz10_8
  try clear hcz13_0
  try clear hcz13_1
  try clear hcz13_2
  try clear hcz13_3
  try clear hcz13_4
  try clear hcz13_5
  try clear hcz13_6
  try clear hcz13_7
  try clear hcz13_8
  try clear hfz10_0
  try clear hfz10_1
  try clear hfz10_2
  try clear hfz10_3
  try clear hfz10_4
  try clear hfz10_5
  try clear hfz10_6
  try clear hfz10_7
  try clear hfz10_8
  try clear hfz13_0
  try clear hfz13_1
  try clear hfz13_2
  try clear hfz13_3
  try clear hfz13_4
  try clear hfz13_5
  try clear hfz13_6
  try clear hfz13_7
  try clear hfz13_8
  obtain ⟨kq, x28_3, rfl, HA, HJ3, BK162, HB⟩ := hcut
  cases kq with
  | zero => exact absurd HA.out (by simp [pelotonlaw15_MsgForms.j0])
  | succ kj3 =>
   have H := HA.out
   clear HA
   simp only [pelotonlaw15_MsgForms.j0] at H
   by_cases c16 : x28_3 = true
   ·
    subst c16
    have H1 : ((pelotonlaw15_awake.f kj3).bind fun t165 => (some t165)) = some r := by rw [if_pos rfl] at H; exact H
    clear H
    have H := H1
    clear H1
    replace H := Option.bind_eq_some_iff.mp H
    obtain ⟨t165, A170, H⟩ := H
    replace H : (some t165) = some r := H
    have A17 := Aside0.mk A170
    clear A170
    obtain rfl := Option.some.inj H
    go_wp2_with (first | (go_at_call 7; (with_reducible refine (pelotonlaw15_awake.calls kj3  t165 _ A17.out).mono ?_); rintro e w18 ⟨rfl, hb⟩; (try clear A17); replace BK162 := Aside0.mk (blk_below (tk_ BK162) hb); replace HB := Aside0.mk (below_step (bw_ HB) hb); (try clear hb); (try clear hb2); (try clear hk); (try clear hi)))
    repeat (go_quiet (first | (go_at_call 7; (with_reducible refine (pelotonlaw15_awake.calls kj3  t165 _ A17.out).mono ?_); rintro e w18 ⟨rfl, hb⟩; (try clear A17); replace BK162 := Aside0.mk (blk_below (tk_ BK162) hb); replace HB := Aside0.mk (below_step (bw_ HB) hb); (try clear hb); (try clear hb2); (try clear hk); (try clear hi))); try go_wp2_with (first | (go_at_call 7; (with_reducible refine (pelotonlaw15_awake.calls kj3  t165 _ A17.out).mono ?_); rintro e w18 ⟨rfl, hb⟩; (try clear A17); replace BK162 := Aside0.mk (blk_below (tk_ BK162) hb); replace HB := Aside0.mk (below_step (bw_ HB) hb); (try clear hb); (try clear hb2); (try clear hk); (try clear hi))))
    go_ret
    exact ⟨by first | rfl | (simp [errW_none, errW_some] <;> rfl) | (simp [*, errW_none, errW_some] <;> rfl), by repeat (first | (with_reducible first | exact HB.out | apply b_a | apply b_n | apply b_d | refine b_s ?_ GE162.out) | exact HB.out)⟩
   replace c16 := Bool.eq_false_iff.mpr c16
   subst c16
   have H1 : ((msg_Clone.f a0_0 a0_1 a0_2 a0_3 a0_4 a0_5 a0_6 a0_7 l0_8).bind fun bt166 => (if (Int.tmod (wrap64 ((Int.tmod a1 7) + 7)) 7) = 0 then (pelotonlaw15_MsgForms.j1 kj3 a2 (⟨#[101, 114, 112, 108, 115, 116, 107]⟩ : ByteArray) (Int.tmod (wrap64 ((Int.tmod a1 7) + 7)) 7) a0_0 a0_1 a0_2 a0_3 a0_4 a0_5 a0_6 a0_7 l0_8 bt166.1 a2 bt166.2.2.1 bt166.2.2.2.1 bt166.2.2.2.2.1 bt166.2.2.2.2.2.1 bt166.2.2.2.2.2.2.1 bt166.2.2.2.2.2.2.2.1 bt166.2.2.2.2.2.2.2.2) else (if (Int.tmod (wrap64 ((Int.tmod a1 7) + 7)) 7) = 1 then (pelotonlaw15_MsgForms.j1 kj3 a2 (⟨#[101, 114, 112, 108, 115, 116, 107]⟩ : ByteArray) (Int.tmod (wrap64 ((Int.tmod a1 7) + 7)) 7) a0_0 a0_1 a0_2 a0_3 a0_4 a0_5 a0_6 a0_7 l0_8 bt166.1 bt166.2.1 a2 bt166.2.2.2.1 bt166.2.2.2.2.1 bt166.2.2.2.2.2.1 bt166.2.2.2.2.2.2.1 bt166.2.2.2.2.2.2.2.1 bt166.2.2.2.2.2.2.2.2) else (if (Int.tmod (wrap64 ((Int.tmod a1 7) + 7)) 7) = 2 then (pelotonlaw15_MsgForms.j1 kj3 a2 (⟨#[101, 114, 112, 108, 115, 116, 107]⟩ : ByteArray) (Int.tmod (wrap64 ((Int.tmod a1 7) + 7)) 7) a0_0 a0_1 a0_2 a0_3 a0_4 a0_5 a0_6 a0_7 l0_8 bt166.1 bt166.2.1 bt166.2.2.1 a2 bt166.2.2.2.2.1 bt166.2.2.2.2.2.1 bt166.2.2.2.2.2.2.1 bt166.2.2.2.2.2.2.2.1 bt166.2.2.2.2.2.2.2.2) else (if (Int.tmod (wrap64 ((Int.tmod a1 7) + 7)) 7) = 3 then (pelotonlaw15_MsgForms.j1 kj3 a2 (⟨#[101, 114, 112, 108, 115, 116, 107]⟩ : ByteArray) (Int.tmod (wrap64 ((Int.tmod a1 7) + 7)) 7) a0_0 a0_1 a0_2 a0_3 a0_4 a0_5 a0_6 a0_7 l0_8 bt166.1 bt166.2.1 bt166.2.2.1 bt166.2.2.2.1 a2 bt166.2.2.2.2.2.1 bt166.2.2.2.2.2.2.1 bt166.2.2.2.2.2.2.2.1 bt166.2.2.2.2.2.2.2.2) else (if (Int.tmod (wrap64 ((Int.tmod a1 7) + 7)) 7) = 4 then (pelotonlaw15_MsgForms.j1 kj3 a2 (⟨#[101, 114, 112, 108, 115, 116, 107]⟩ : ByteArray) (Int.tmod (wrap64 ((Int.tmod a1 7) + 7)) 7) a0_0 a0_1 a0_2 a0_3 a0_4 a0_5 a0_6 a0_7 l0_8 bt166.1 bt166.2.1 bt166.2.2.1 bt166.2.2.2.1 bt166.2.2.2.2.1 a2 bt166.2.2.2.2.2.2.1 bt166.2.2.2.2.2.2.2.1 bt166.2.2.2.2.2.2.2.2) else (if (Int.tmod (wrap64 ((Int.tmod a1 7) + 7)) 7) = 5 then (pelotonlaw15_MsgForms.j1 kj3 a2 (⟨#[101, 114, 112, 108, 115, 116, 107]⟩ : ByteArray) (Int.tmod (wrap64 ((Int.tmod a1 7) + 7)) 7) a0_0 a0_1 a0_2 a0_3 a0_4 a0_5 a0_6 a0_7 l0_8 bt166.1 bt166.2.1 bt166.2.2.1 bt166.2.2.2.1 bt166.2.2.2.2.1 bt166.2.2.2.2.2.1 a2 bt166.2.2.2.2.2.2.2.1 bt166.2.2.2.2.2.2.2.2) else (if (Int.tmod (wrap64 ((Int.tmod a1 7) + 7)) 7) = 6 then (pelotonlaw15_MsgForms.j1 kj3 a2 (⟨#[101, 114, 112, 108, 115, 116, 107]⟩ : ByteArray) (Int.tmod (wrap64 ((Int.tmod a1 7) + 7)) 7) a0_0 a0_1 a0_2 a0_3 a0_4 a0_5 a0_6 a0_7 l0_8 bt166.1 bt166.2.1 bt166.2.2.1 bt166.2.2.2.1 bt166.2.2.2.2.1 bt166.2.2.2.2.2.1 bt166.2.2.2.2.2.2.1 a2 bt166.2.2.2.2.2.2.2.2) else (pelotonlaw15_MsgForms.j1 kj3 a2 (⟨#[101, 114, 112, 108, 115, 116, 107]⟩ : ByteArray) (Int.tmod (wrap64 ((Int.tmod a1 7) + 7)) 7) a0_0 a0_1 a0_2 a0_3 a0_4 a0_5 a0_6 a0_7 l0_8 bt166.1 bt166.2.1 bt166.2.2.1 bt166.2.2.2.1 bt166.2.2.2.2.1 bt166.2.2.2.2.2.1 bt166.2.2.2.2.2.2.1 bt166.2.2.2.2.2.2.2.1 bt166.2.2.2.2.2.2.2.2))))))))) = some r := by rw [if_neg (show ¬ (false = true) by decide)] at H; exact H
   clear H
   have H := H1
   clear H1
   replace H := Option.bind_eq_some_iff.mp H
   obtain ⟨⟨t166, t167, t168, t169, t170, t171, t172, t173, t174⟩, A190, H⟩ := H
   replace H : (if (Int.tmod (wrap64 ((Int.tmod a1 7) + 7)) 7) = 0 then (pelotonlaw15_MsgForms.j1 kj3 a2 (⟨#[101, 114, 112, 108, 115, 116, 107]⟩ : ByteArray) (Int.tmod (wrap64 ((Int.tmod a1 7) + 7)) 7) a0_0 a0_1 a0_2 a0_3 a0_4 a0_5 a0_6 a0_7 l0_8 t166 a2 t168 t169 t170 t171 t172 t173 t174) else (if (Int.tmod (wrap64 ((Int.tmod a1 7) + 7)) 7) = 1 then (pelotonlaw15_MsgForms.j1 kj3 a2 (⟨#[101, 114, 112, 108, 115, 116, 107]⟩ : ByteArray) (Int.tmod (wrap64 ((Int.tmod a1 7) + 7)) 7) a0_0 a0_1 a0_2 a0_3 a0_4 a0_5 a0_6 a0_7 l0_8 t166 t167 a2 t169 t170 t171 t172 t173 t174) else (if (Int.tmod (wrap64 ((Int.tmod a1 7) + 7)) 7) = 2 then (pelotonlaw15_MsgForms.j1 kj3 a2 (⟨#[101, 114, 112, 108, 115, 116, 107]⟩ : ByteArray) (Int.tmod (wrap64 ((Int.tmod a1 7) + 7)) 7) a0_0 a0_1 a0_2 a0_3 a0_4 a0_5 a0_6 a0_7 l0_8 t166 t167 t168 a2 t170 t171 t172 t173 t174) else (if (Int.tmod (wrap64 ((Int.tmod a1 7) + 7)) 7) = 3 then (pelotonlaw15_MsgForms.j1 kj3 a2 (⟨#[101, 114, 112, 108, 115, 116, 107]⟩ : ByteArray) (Int.tmod (wrap64 ((Int.tmod a1 7) + 7)) 7) a0_0 a0_1 a0_2 a0_3 a0_4 a0_5 a0_6 a0_7 l0_8 t166 t167 t168 t169 a2 t171 t172 t173 t174) else (if (Int.tmod (wrap64 ((Int.tmod a1 7) + 7)) 7) = 4 then (pelotonlaw15_MsgForms.j1 kj3 a2 (⟨#[101, 114, 112, 108, 115, 116, 107]⟩ : ByteArray) (Int.tmod (wrap64 ((Int.tmod a1 7) + 7)) 7) a0_0 a0_1 a0_2 a0_3 a0_4 a0_5 a0_6 a0_7 l0_8 t166 t167 t168 t169 t170 a2 t172 t173 t174) else (if (Int.tmod (wrap64 ((Int.tmod a1 7) + 7)) 7) = 5 then (pelotonlaw15_MsgForms.j1 kj3 a2 (⟨#[101, 114, 112, 108, 115, 116, 107]⟩ : ByteArray) (Int.tmod (wrap64 ((Int.tmod a1 7) + 7)) 7) a0_0 a0_1 a0_2 a0_3 a0_4 a0_5 a0_6 a0_7 l0_8 t166 t167 t168 t169 t170 t171 a2 t173 t174) else (if (Int.tmod (wrap64 ((Int.tmod a1 7) + 7)) 7) = 6 then (pelotonlaw15_MsgForms.j1 kj3 a2 (⟨#[101, 114, 112, 108, 115, 116, 107]⟩ : ByteArray) (Int.tmod (wrap64 ((Int.tmod a1 7) + 7)) 7) a0_0 a0_1 a0_2 a0_3 a0_4 a0_5 a0_6 a0_7 l0_8 t166 t167 t168 t169 t170 t171 t172 a2 t174) else (pelotonlaw15_MsgForms.j1 kj3 a2 (⟨#[101, 114, 112, 108, 115, 116, 107]⟩ : ByteArray) (Int.tmod (wrap64 ((Int.tmod a1 7) + 7)) 7) a0_0 a0_1 a0_2 a0_3 a0_4 a0_5 a0_6 a0_7 l0_8 t166 t167 t168 t169 t170 t171 t172 t173 t174)))))))) = some r := H
   have A19 := Aside0.mk A190
   clear A190
   have HC20 := Aside0.mk H
   clear H
   have hcz21_0 := bc_0 BK162
   have hcz21_1 := bc_1 BK162
   have hcz21_2 := bc_2 BK162
   have hcz21_3 := bc_3 BK162
   have hcz21_4 := bc_4 BK162
   have hcz21_5 := bc_5 BK162
   have hcz21_6 := bc_6 BK162
   have hcz21_7 := bc_7 BK162
   have hcz21_8 : wc.cell? ⟨gb162, 8, none⟩ = some (.slice A0_8 l0_8.length c0_8) := (blk_cell BK162.out 8).trans rfl
   have hfz21_0 := blk_frozen BK162.out 0
   have hfz21_1 := blk_frozen BK162.out 1
   have hfz21_2 := blk_frozen BK162.out 2
   have hfz21_3 := blk_frozen BK162.out 3
   have hfz21_4 := blk_frozen BK162.out 4
   have hfz21_5 := blk_frozen BK162.out 5
   have hfz21_6 := blk_frozen BK162.out 6
   have hfz21_7 := blk_frozen BK162.out 7
   have hfz21_8 := blk_frozen BK162.out 8
   go_upto_block 0 with (first | (go_at_call 9; (with_reducible refine (msg_Clone.calls a0_0 a0_1 a0_2 a0_3 a0_4 a0_5 a0_6 a0_7 _ _ l0_8 t166 t167 t168 t169 t170 t171 t172 t173 t174 _ ?side1 ?side2 A19.out).mono ?_); (case side1 => repeat (first | exact (Kd.C_below HR0_8.out HB.out) | (with_reducible refine Kd.C_alloc ?_ _) | (with_reducible refine Kd.C_drewN ?_ _) | (with_reducible refine Kd.C_drew ?_))); (case side2 => exact HC0_8.out); rintro e w22 ⟨v175, rfl, ho0, hb⟩; (try clear A19); have HO176 := Aside0.mk (Kd.R_lower ho0 (below_size (bw_ HB))); replace BK162 := Aside0.mk (blk_below (tk_ BK162) hb); replace HB := Aside0.mk (below_step (bw_ HB) hb); (try clear hb); (try clear hb2); (try clear hk); (try clear hi); (try clear ho0)) | ((with_reducible refine gate_dst (N := 9) rfl ?_); (try (refine gate_guard (by rfl) ?_; dsimp only)); refine box_event ?hg (N := 9) ?hd (cs := #[.int .i64 0, .int .i64 0, .int .i64 0, .int .i64 0, .int .i64 0, .int .i64 0, .int .i64 0, .int .i64 0, .slice none 0 0]) (t := 24) ?hr ?_; (case hd => rfl); (case hg => rfl); (case hr => first | (go_simp; done) | (go_simp; rfl)); intro gb177 hg w23 hbox hb; have BK177 := Aside0.mk (hbox); have GW177 := Aside0.mk ((by rw [hg]; exact (below_size (bw_ HB)) : w.heap.size ≤ gb177)); have GE177 := Aside0.mk ((by rw [hg]; exact (below_size (bw_ HB)) : w.heap.size ≤ gb177)); have NB162_177 := Aside0.mk ((by rw [hg]; exact Nat.ne_of_lt (blk_lt (tk_ BK162)) : gb162 ≠ gb177)); have NB177_162 := Aside0.mk ((by rw [hg]; exact Nat.ne_of_gt (blk_lt (tk_ BK162)) : gb177 ≠ gb162)); replace HO176 := Aside0.mk (Kd.R_below (tR_ HO176) hb); replace BK162 := Aside0.mk (blk_below (tk_ BK162) hb); replace HB := Aside0.mk (below_step (bw_ HB) hb); clear hb hbox hg; have hnb24 := NB177_162.out; have hnc24 := NB162_177.out; have hcz25_0 := bc_0 BK177; have hcz25_1 := bc_1 BK177; have hcz25_2 := bc_2 BK177; have hcz25_3 := bc_3 BK177; have hcz25_4 := bc_4 BK177; have hcz25_5 := bc_5 BK177; have hcz25_6 := bc_6 BK177; have hcz25_7 := bc_7 BK177; have hcz25_8 : w23.cell? ⟨gb177, 8, none⟩ = some (.slice none 0 0) := (blk_cell BK177.out 8).trans rfl; have hfz25_0 := blk_frozen BK177.out 0; have hfz25_1 := blk_frozen BK177.out 1; have hfz25_2 := blk_frozen BK177.out 2; have hfz25_3 := blk_frozen BK177.out 3; have hfz25_4 := blk_frozen BK177.out 4; have hfz25_5 := blk_frozen BK177.out 5; have hfz25_6 := blk_frozen BK177.out 6; have hfz25_7 := blk_frozen BK177.out 7; have hfz25_8 := blk_frozen BK177.out 8; obtain ⟨Ao26, co26, eo26⟩ := Kd.R_slice HO176.out; subst eo26; (first | ((with_reducible refine gate_store_ rfl ?_); refine st9_ rfl rfl rfl rfl rfl (by with_reducible assumption) (by kernel_rfl) (by simp [Value.oneCell']) ?_; clear hcz25_0 hfz25_0 hcz25_1 hfz25_1 hcz25_2 hfz25_2 hcz25_3 hfz25_3 hcz25_4 hfz25_4 hcz25_5 hfz25_5 hcz25_6 hfz25_6 hcz25_7 hfz25_7 hcz25_8 hfz25_8; intro hb9_; have BN25 := Aside0.mk hb9_; clear hb9_) | skip)))
   repeat (go_quiet (first | (go_at_call 9; (with_reducible refine (msg_Clone.calls a0_0 a0_1 a0_2 a0_3 a0_4 a0_5 a0_6 a0_7 _ _ l0_8 t166 t167 t168 t169 t170 t171 t172 t173 t174 _ ?side1 ?side2 A19.out).mono ?_); (case side1 => repeat (first | exact (Kd.C_below HR0_8.out HB.out) | (with_reducible refine Kd.C_alloc ?_ _) | (with_reducible refine Kd.C_drewN ?_ _) | (with_reducible refine Kd.C_drew ?_))); (case side2 => exact HC0_8.out); rintro e w22 ⟨v175, rfl, ho0, hb⟩; (try clear A19); have HO176 := Aside0.mk (Kd.R_lower ho0 (below_size (bw_ HB))); replace BK162 := Aside0.mk (blk_below (tk_ BK162) hb); replace HB := Aside0.mk (below_step (bw_ HB) hb); (try clear hb); (try clear hb2); (try clear hk); (try clear hi); (try clear ho0)) | ((with_reducible refine gate_dst (N := 9) rfl ?_); (try (refine gate_guard (by rfl) ?_; dsimp only)); refine box_event ?hg (N := 9) ?hd (cs := #[.int .i64 0, .int .i64 0, .int .i64 0, .int .i64 0, .int .i64 0, .int .i64 0, .int .i64 0, .int .i64 0, .slice none 0 0]) (t := 24) ?hr ?_; (case hd => rfl); (case hg => rfl); (case hr => first | (go_simp; done) | (go_simp; rfl)); intro gb177 hg w23 hbox hb; have BK177 := Aside0.mk (hbox); have GW177 := Aside0.mk ((by rw [hg]; exact (below_size (bw_ HB)) : w.heap.size ≤ gb177)); have GE177 := Aside0.mk ((by rw [hg]; exact (below_size (bw_ HB)) : w.heap.size ≤ gb177)); have NB162_177 := Aside0.mk ((by rw [hg]; exact Nat.ne_of_lt (blk_lt (tk_ BK162)) : gb162 ≠ gb177)); have NB177_162 := Aside0.mk ((by rw [hg]; exact Nat.ne_of_gt (blk_lt (tk_ BK162)) : gb177 ≠ gb162)); replace HO176 := Aside0.mk (Kd.R_below (tR_ HO176) hb); replace BK162 := Aside0.mk (blk_below (tk_ BK162) hb); replace HB := Aside0.mk (below_step (bw_ HB) hb); clear hb hbox hg; have hnb24 := NB177_162.out; have hnc24 := NB162_177.out; have hcz25_0 := bc_0 BK177; have hcz25_1 := bc_1 BK177; have hcz25_2 := bc_2 BK177; have hcz25_3 := bc_3 BK177; have hcz25_4 := bc_4 BK177; have hcz25_5 := bc_5 BK177; have hcz25_6 := bc_6 BK177; have hcz25_7 := bc_7 BK177; have hcz25_8 : w23.cell? ⟨gb177, 8, none⟩ = some (.slice none 0 0) := (blk_cell BK177.out 8).trans rfl; have hfz25_0 := blk_frozen BK177.out 0; have hfz25_1 := blk_frozen BK177.out 1; have hfz25_2 := blk_frozen BK177.out 2; have hfz25_3 := blk_frozen BK177.out 3; have hfz25_4 := blk_frozen BK177.out 4; have hfz25_5 := blk_frozen BK177.out 5; have hfz25_6 := blk_frozen BK177.out 6; have hfz25_7 := blk_frozen BK177.out 7; have hfz25_8 := blk_frozen BK177.out 8; obtain ⟨Ao26, co26, eo26⟩ := Kd.R_slice HO176.out; subst eo26)); go_upto_block 0 with (first | (go_at_call 9; (with_reducible refine (msg_Clone.calls a0_0 a0_1 a0_2 a0_3 a0_4 a0_5 a0_6 a0_7 _ _ l0_8 t166 t167 t168 t169 t170 t171 t172 t173 t174 _ ?side1 ?side2 A19.out).mono ?_); (case side1 => repeat (first | exact (Kd.C_below HR0_8.out HB.out) | (with_reducible refine Kd.C_alloc ?_ _) | (with_reducible refine Kd.C_drewN ?_ _) | (with_reducible refine Kd.C_drew ?_))); (case side2 => exact HC0_8.out); rintro e w22 ⟨v175, rfl, ho0, hb⟩; (try clear A19); have HO176 := Aside0.mk (Kd.R_lower ho0 (below_size (bw_ HB))); replace BK162 := Aside0.mk (blk_below (tk_ BK162) hb); replace HB := Aside0.mk (below_step (bw_ HB) hb); (try clear hb); (try clear hb2); (try clear hk); (try clear hi); (try clear ho0)) | ((with_reducible refine gate_dst (N := 9) rfl ?_); (try (refine gate_guard (by rfl) ?_; dsimp only)); refine box_event ?hg (N := 9) ?hd (cs := #[.int .i64 0, .int .i64 0, .int .i64 0, .int .i64 0, .int .i64 0, .int .i64 0, .int .i64 0, .int .i64 0, .slice none 0 0]) (t := 24) ?hr ?_; (case hd => rfl); (case hg => rfl); (case hr => first | (go_simp; done) | (go_simp; rfl)); intro gb177 hg w23 hbox hb; have BK177 := Aside0.mk (hbox); have GW177 := Aside0.mk ((by rw [hg]; exact (below_size (bw_ HB)) : w.heap.size ≤ gb177)); have GE177 := Aside0.mk ((by rw [hg]; exact (below_size (bw_ HB)) : w.heap.size ≤ gb177)); have NB162_177 := Aside0.mk ((by rw [hg]; exact Nat.ne_of_lt (blk_lt (tk_ BK162)) : gb162 ≠ gb177)); have NB177_162 := Aside0.mk ((by rw [hg]; exact Nat.ne_of_gt (blk_lt (tk_ BK162)) : gb177 ≠ gb162)); replace HO176 := Aside0.mk (Kd.R_below (tR_ HO176) hb); replace BK162 := Aside0.mk (blk_below (tk_ BK162) hb); replace HB := Aside0.mk (below_step (bw_ HB) hb); clear hb hbox hg; have hnb24 := NB177_162.out; have hnc24 := NB162_177.out; have hcz25_0 := bc_0 BK177; have hcz25_1 := bc_1 BK177; have hcz25_2 := bc_2 BK177; have hcz25_3 := bc_3 BK177; have hcz25_4 := bc_4 BK177; have hcz25_5 := bc_5 BK177; have hcz25_6 := bc_6 BK177; have hcz25_7 := bc_7 BK177; have hcz25_8 : w23.cell? ⟨gb177, 8, none⟩ = some (.slice none 0 0) := (blk_cell BK177.out 8).trans rfl; have hfz25_0 := blk_frozen BK177.out 0; have hfz25_1 := blk_frozen BK177.out 1; have hfz25_2 := blk_frozen BK177.out 2; have hfz25_3 := blk_frozen BK177.out 3; have hfz25_4 := blk_frozen BK177.out 4; have hfz25_5 := blk_frozen BK177.out 5; have hfz25_6 := blk_frozen BK177.out 6; have hfz25_7 := blk_frozen BK177.out 7; have hfz25_8 := blk_frozen BK177.out 8; obtain ⟨Ao26, co26, eo26⟩ := Kd.R_slice HO176.out; subst eo26)))
   (try simp only [Act.put, l_1, l_2, l_3])
   go_cut [] (fun wc => ∃ (kq : Nat) (x178001_19 : Int) (x178002_19 : Int) (x178003_19 : Int) (x178004_19 : Int) (x178005_19 : Int) (x178006_19 : Int) (x178007_19 : Int), Aside0 (pelotonlaw15_MsgForms.j1 kq a2 (⟨#[101, 114, 112, 108, 115, 116, 107]⟩ : ByteArray) (Int.tmod (wrap64 ((Int.tmod a1 7) + 7)) 7) a0_0 a0_1 a0_2 a0_3 a0_4 a0_5 a0_6 a0_7 l0_8 t166 x178001_19 x178002_19 x178003_19 x178004_19 x178005_19 x178006_19 x178007_19 t174 = some r) ∧ Aside0 (kq ≤ kj3) ∧ Aside0 (Kd.R (Kd.int .i32) 21 wc w.heap.size (fun _ => True) (.slice Ao26 t174.length co26) t174) ∧ Aside0 (wc.heap[gb162]? = some (.cells #[.int .i64 a0_0, .int .i64 a0_1, .int .i64 a0_2, .int .i64 a0_3, .int .i64 a0_4, .int .i64 a0_5, .int .i64 a0_6, .int .i64 a0_7, (.slice A0_8 l0_8.length c0_8)] 24 (0, 0))) ∧ Aside0 (wc.heap[gb177]? = some (.cells #[.int .i64 t166, .int .i64 x178001_19, .int .i64 x178002_19, .int .i64 x178003_19, .int .i64 x178004_19, .int .i64 x178005_19, .int .i64 x178006_19, .int .i64 x178007_19, (.slice Ao26 t174.length co26)] 24 (0, 0))) ∧ Aside0 (Below w.heap.size w wc))
   case first =>
    have H := HC20.out
    clear HC20
    by_cases c27 : (Int.tmod (wrap64 ((Int.tmod a1 7) + 7)) 7) = 0
    ·
     rw [if_pos c27] at H
     have c27b0 : ((Int.tmod (wrap64 ((Int.tmod a1 7) + 7)) 7) == 0) = true := beq_iff_eq.mpr c27
     have c27b1 : ((Int.tmod (wrap64 ((Int.tmod a1 7) + 7)) 7) != 0) = false := bne_eq_false_iff_eq.mpr c27
     clear c27
     (first | rw [c27b0] | (simp only [i64_w, i32_w]; rw [c27b0]) | skip)
     have H' := Aside0.mk H
     clear H
     have hnb28 := NB177_162.out
     have hnc28 := NB162_177.out
     have hcz29_0 := bc_0 BK177
     have hcz29_1 := bc_1 BK177
     have hcz29_2 := bc_2 BK177
     have hcz29_3 := bc_3 BK177
     have hcz29_4 := bc_4 BK177
     have hcz29_5 := bc_5 BK177
     have hcz29_6 := bc_6 BK177
     have hcz29_7 := bc_7 BK177
     have hcz29_8 : w23.cell? ⟨gb177, 8, none⟩ = some (.slice none 0 0) := (blk_cell BK177.out 8).trans rfl
     have hfz29_0 := blk_frozen BK177.out 0
     have hfz29_1 := blk_frozen BK177.out 1
     have hfz29_2 := blk_frozen BK177.out 2
     have hfz29_3 := blk_frozen BK177.out 3
     have hfz29_4 := blk_frozen BK177.out 4
     have hfz29_5 := blk_frozen BK177.out 5
     have hfz29_6 := blk_frozen BK177.out 6
     have hfz29_7 := blk_frozen BK177.out 7
     have hfz29_8 := blk_frozen BK177.out 8
     go_wp2_with (first | ((with_reducible refine gate_store_ rfl ?_); refine st1_ rfl rfl rfl rfl rfl (by with_reducible assumption) (by simp) (by kernel_rfl) ?_))
     repeat (go_quiet (fail); try go_wp2)
     go_meet
     case rel => exact ⟨_, (a2), (t168), (t169), (t170), (t171), (t172), (t173), H', ⟨by have := HJ3.out; first | exact Nat.le_refl _ | omega⟩, ⟨by (with_reducible repeat (first | apply Kd.R_alloc | apply Kd.R_drewN | apply Kd.R_drew)); exact Kd.R_mono (Kd.R_far (p := ⟨gb177, 1, none⟩) (Kd.R_far (p := ⟨gb177, 8, none⟩) (Kd.R_far (p := ⟨gb177, 7, none⟩) (Kd.R_far (p := ⟨gb177, 6, none⟩) (Kd.R_far (p := ⟨gb177, 5, none⟩) (Kd.R_far (p := ⟨gb177, 4, none⟩) (Kd.R_far (p := ⟨gb177, 3, none⟩) (Kd.R_far (p := ⟨gb177, 2, none⟩) (Kd.R_far (p := ⟨gb177, 1, none⟩) (Kd.R_far (p := ⟨gb177, 0, none⟩) (Kd.R_types HO176.out BK177.out (by decide)) (fun _ hk => hk.2) (.int .i64 t166)) (fun _ hk => hk.2) (.int .i64 t167)) (fun _ hk => hk.2) (.int .i64 t168)) (fun _ hk => hk.2) (.int .i64 t169)) (fun _ hk => hk.2) (.int .i64 t170)) (fun _ hk => hk.2) (.int .i64 t171)) (fun _ hk => hk.2) (.int .i64 t172)) (fun _ hk => hk.2) (.int .i64 t173)) (fun _ hk => hk.2) (.slice Ao26 t174.length co26)) (fun _ hk => hk.2) (.int .i64 a2)) (fun _ hk => trivial)⟩, ⟨by (with_reducible repeat (first | refine k_n ?_ _ | refine k_d ?_ | refine k_a ?_ _)); refine blk_far ?_ NB162_177.out _; (with_reducible repeat (first | refine k_n ?_ _ | refine k_d ?_ | refine k_a ?_ _)); refine blk_far ?_ NB162_177.out _; (with_reducible repeat (first | refine k_n ?_ _ | refine k_d ?_ | refine k_a ?_ _)); refine blk_far ?_ NB162_177.out _; (with_reducible repeat (first | refine k_n ?_ _ | refine k_d ?_ | refine k_a ?_ _)); refine blk_far ?_ NB162_177.out _; (with_reducible repeat (first | refine k_n ?_ _ | refine k_d ?_ | refine k_a ?_ _)); refine blk_far ?_ NB162_177.out _; (with_reducible repeat (first | refine k_n ?_ _ | refine k_d ?_ | refine k_a ?_ _)); refine blk_far ?_ NB162_177.out _; (with_reducible repeat (first | refine k_n ?_ _ | refine k_d ?_ | refine k_a ?_ _)); refine blk_far ?_ NB162_177.out _; (with_reducible repeat (first | refine k_n ?_ _ | refine k_d ?_ | refine k_a ?_ _)); refine blk_far ?_ NB162_177.out _; (with_reducible repeat (first | refine k_n ?_ _ | refine k_d ?_ | refine k_a ?_ _)); refine blk_far ?_ NB162_177.out _; (with_reducible repeat (first | refine k_n ?_ _ | refine k_d ?_ | refine k_a ?_ _)); refine blk_far ?_ NB162_177.out _; (with_reducible repeat (first | refine k_n ?_ _ | refine k_d ?_ | refine k_a ?_ _)); exact BK162.out⟩, ⟨by (with_reducible repeat (first | refine k_n ?_ _ | refine k_d ?_ | refine k_a ?_ _)); refine blk_put (cs := #[.int .i64 t166, .int .i64 t167, .int .i64 t168, .int .i64 t169, .int .i64 t170, .int .i64 t171, .int .i64 t172, .int .i64 t173, .slice Ao26 t174.length co26]) ?_ 1 _ rfl; (with_reducible repeat (first | refine k_n ?_ _ | refine k_d ?_ | refine k_a ?_ _)); refine blk_put (cs := #[.int .i64 t166, .int .i64 t167, .int .i64 t168, .int .i64 t169, .int .i64 t170, .int .i64 t171, .int .i64 t172, .int .i64 t173, .slice none 0 0]) ?_ 8 _ rfl; (with_reducible repeat (first | refine k_n ?_ _ | refine k_d ?_ | refine k_a ?_ _)); refine blk_put (cs := #[.int .i64 t166, .int .i64 t167, .int .i64 t168, .int .i64 t169, .int .i64 t170, .int .i64 t171, .int .i64 t172, .int .i64 0, .slice none 0 0]) ?_ 7 _ rfl; (with_reducible repeat (first | refine k_n ?_ _ | refine k_d ?_ | refine k_a ?_ _)); refine blk_put (cs := #[.int .i64 t166, .int .i64 t167, .int .i64 t168, .int .i64 t169, .int .i64 t170, .int .i64 t171, .int .i64 0, .int .i64 0, .slice none 0 0]) ?_ 6 _ rfl; (with_reducible repeat (first | refine k_n ?_ _ | refine k_d ?_ | refine k_a ?_ _)); refine blk_put (cs := #[.int .i64 t166, .int .i64 t167, .int .i64 t168, .int .i64 t169, .int .i64 t170, .int .i64 0, .int .i64 0, .int .i64 0, .slice none 0 0]) ?_ 5 _ rfl; (with_reducible repeat (first | refine k_n ?_ _ | refine k_d ?_ | refine k_a ?_ _)); refine blk_put (cs := #[.int .i64 t166, .int .i64 t167, .int .i64 t168, .int .i64 t169, .int .i64 0, .int .i64 0, .int .i64 0, .int .i64 0, .slice none 0 0]) ?_ 4 _ rfl; (with_reducible repeat (first | refine k_n ?_ _ | refine k_d ?_ | refine k_a ?_ _)); refine blk_put (cs := #[.int .i64 t166, .int .i64 t167, .int .i64 t168, .int .i64 0, .int .i64 0, .int .i64 0, .int .i64 0, .int .i64 0, .slice none 0 0]) ?_ 3 _ rfl; (with_reducible repeat (first | refine k_n ?_ _ | refine k_d ?_ | refine k_a ?_ _)); refine blk_put (cs := #[.int .i64 t166, .int .i64 t167, .int .i64 0, .int .i64 0, .int .i64 0, .int .i64 0, .int .i64 0, .int .i64 0, .slice none 0 0]) ?_ 2 _ rfl; (with_reducible repeat (first | refine k_n ?_ _ | refine k_d ?_ | refine k_a ?_ _)); refine blk_put (cs := #[.int .i64 t166, .int .i64 0, .int .i64 0, .int .i64 0, .int .i64 0, .int .i64 0, .int .i64 0, .int .i64 0, .slice none 0 0]) ?_ 1 _ rfl; (with_reducible repeat (first | refine k_n ?_ _ | refine k_d ?_ | refine k_a ?_ _)); refine blk_put (cs := #[.int .i64 0, .int .i64 0, .int .i64 0, .int .i64 0, .int .i64 0, .int .i64 0, .int .i64 0, .int .i64 0, .slice none 0 0]) ?_ 0 _ rfl; (with_reducible repeat (first | refine k_n ?_ _ | refine k_d ?_ | refine k_a ?_ _)); exact BK177.out⟩, ⟨by repeat (first | (with_reducible first | exact HB.out | apply b_a | apply b_n | apply b_d | refine b_s ?_ GE162.out | refine b_s ?_ GE177.out) | exact HB.out)⟩⟩
    rw [if_neg c27] at H
    have c27b0 : ((Int.tmod (wrap64 ((Int.tmod a1 7) + 7)) 7) == 0) = false := beq_eq_false_iff_ne.mpr c27
    have c27b1 : ((Int.tmod (wrap64 ((Int.tmod a1 7) + 7)) 7) != 0) = true := bne_iff_ne.mpr c27
    (first | rw [c27b0] | (simp only [i64_w, i32_w]; rw [c27b0]) | skip)
    by_cases c30 : (Int.tmod (wrap64 ((Int.tmod a1 7) + 7)) 7) = 1
    ·
     rw [if_pos c30] at H
     have c30b0 : ((Int.tmod (wrap64 ((Int.tmod a1 7) + 7)) 7) == 1) = true := beq_iff_eq.mpr c30
     have c30b1 : ((Int.tmod (wrap64 ((Int.tmod a1 7) + 7)) 7) != 1) = false := bne_eq_false_iff_eq.mpr c30
     clear c30
     have H' := Aside0.mk H
     clear H
     have hnb31 := NB177_162.out
     have hnc31 := NB162_177.out
     have hcz32_0 := bc_0 BK177
     have hcz32_1 := bc_1 BK177
     have hcz32_2 := bc_2 BK177
     have hcz32_3 := bc_3 BK177
     have hcz32_4 := bc_4 BK177
     have hcz32_5 := bc_5 BK177
     have hcz32_6 := bc_6 BK177
     have hcz32_7 := bc_7 BK177
     have hcz32_8 : w23.cell? ⟨gb177, 8, none⟩ = some (.slice none 0 0) := (blk_cell BK177.out 8).trans rfl
     have hfz32_0 := blk_frozen BK177.out 0
     have hfz32_1 := blk_frozen BK177.out 1
     have hfz32_2 := blk_frozen BK177.out 2
     have hfz32_3 := blk_frozen BK177.out 3
     have hfz32_4 := blk_frozen BK177.out 4
     have hfz32_5 := blk_frozen BK177.out 5
     have hfz32_6 := blk_frozen BK177.out 6
     have hfz32_7 := blk_frozen BK177.out 7
     have hfz32_8 := blk_frozen BK177.out 8
     go_wp2_with (first | ((with_reducible refine gate_store_ rfl ?_); refine st1_ rfl rfl rfl rfl rfl (by with_reducible assumption) (by simp) (by kernel_rfl) ?_))
     repeat (go_quiet (fail); try go_wp2)
     go_meet
     case rel => exact ⟨_, (t167), (a2), (t169), (t170), (t171), (t172), (t173), H', ⟨by have := HJ3.out; first | exact Nat.le_refl _ | omega⟩, ⟨by (with_reducible repeat (first | apply Kd.R_alloc | apply Kd.R_drewN | apply Kd.R_drew)); exact Kd.R_mono (Kd.R_far (p := ⟨gb177, 2, none⟩) (Kd.R_far (p := ⟨gb177, 8, none⟩) (Kd.R_far (p := ⟨gb177, 7, none⟩) (Kd.R_far (p := ⟨gb177, 6, none⟩) (Kd.R_far (p := ⟨gb177, 5, none⟩) (Kd.R_far (p := ⟨gb177, 4, none⟩) (Kd.R_far (p := ⟨gb177, 3, none⟩) (Kd.R_far (p := ⟨gb177, 2, none⟩) (Kd.R_far (p := ⟨gb177, 1, none⟩) (Kd.R_far (p := ⟨gb177, 0, none⟩) (Kd.R_types HO176.out BK177.out (by decide)) (fun _ hk => hk.2) (.int .i64 t166)) (fun _ hk => hk.2) (.int .i64 t167)) (fun _ hk => hk.2) (.int .i64 t168)) (fun _ hk => hk.2) (.int .i64 t169)) (fun _ hk => hk.2) (.int .i64 t170)) (fun _ hk => hk.2) (.int .i64 t171)) (fun _ hk => hk.2) (.int .i64 t172)) (fun _ hk => hk.2) (.int .i64 t173)) (fun _ hk => hk.2) (.slice Ao26 t174.length co26)) (fun _ hk => hk.2) (.int .i64 a2)) (fun _ hk => trivial)⟩, ⟨by (with_reducible repeat (first | refine k_n ?_ _ | refine k_d ?_ | refine k_a ?_ _)); refine blk_far ?_ NB162_177.out _; (with_reducible repeat (first | refine k_n ?_ _ | refine k_d ?_ | refine k_a ?_ _)); refine blk_far ?_ NB162_177.out _; (with_reducible repeat (first | refine k_n ?_ _ | refine k_d ?_ | refine k_a ?_ _)); refine blk_far ?_ NB162_177.out _; (with_reducible repeat (first | refine k_n ?_ _ | refine k_d ?_ | refine k_a ?_ _)); refine blk_far ?_ NB162_177.out _; (with_reducible repeat (first | refine k_n ?_ _ | refine k_d ?_ | refine k_a ?_ _)); refine blk_far ?_ NB162_177.out _; (with_reducible repeat (first | refine k_n ?_ _ | refine k_d ?_ | refine k_a ?_ _)); refine blk_far ?_ NB162_177.out _; (with_reducible repeat (first | refine k_n ?_ _ | refine k_d ?_ | refine k_a ?_ _)); refine blk_far ?_ NB162_177.out _; (with_reducible repeat (first | refine k_n ?_ _ | refine k_d ?_ | refine k_a ?_ _)); refine blk_far ?_ NB162_177.out _; (with_reducible repeat (first | refine k_n ?_ _ | refine k_d ?_ | refine k_a ?_ _)); refine blk_far ?_ NB162_177.out _; (with_reducible repeat (first | refine k_n ?_ _ | refine k_d ?_ | refine k_a ?_ _)); refine blk_far ?_ NB162_177.out _; (with_reducible repeat (first | refine k_n ?_ _ | refine k_d ?_ | refine k_a ?_ _)); exact BK162.out⟩, ⟨by (with_reducible repeat (first | refine k_n ?_ _ | refine k_d ?_ | refine k_a ?_ _)); refine blk_put (cs := #[.int .i64 t166, .int .i64 t167, .int .i64 t168, .int .i64 t169, .int .i64 t170, .int .i64 t171, .int .i64 t172, .int .i64 t173, .slice Ao26 t174.length co26]) ?_ 2 _ rfl; (with_reducible repeat (first | refine k_n ?_ _ | refine k_d ?_ | refine k_a ?_ _)); refine blk_put (cs := #[.int .i64 t166, .int .i64 t167, .int .i64 t168, .int .i64 t169, .int .i64 t170, .int .i64 t171, .int .i64 t172, .int .i64 t173, .slice none 0 0]) ?_ 8 _ rfl; (with_reducible repeat (first | refine k_n ?_ _ | refine k_d ?_ | refine k_a ?_ _)); refine blk_put (cs := #[.int .i64 t166, .int .i64 t167, .int .i64 t168, .int .i64 t169, .int .i64 t170, .int .i64 t171, .int .i64 t172, .int .i64 0, .slice none 0 0]) ?_ 7 _ rfl; (with_reducible repeat (first | refine k_n ?_ _ | refine k_d ?_ | refine k_a ?_ _)); refine blk_put (cs := #[.int .i64 t166, .int .i64 t167, .int .i64 t168, .int .i64 t169, .int .i64 t170, .int .i64 t171, .int .i64 0, .int .i64 0, .slice none 0 0]) ?_ 6 _ rfl; (with_reducible repeat (first | refine k_n ?_ _ | refine k_d ?_ | refine k_a ?_ _)); refine blk_put (cs := #[.int .i64 t166, .int .i64 t167, .int .i64 t168, .int .i64 t169, .int .i64 t170, .int .i64 0, .int .i64 0, .int .i64 0, .slice none 0 0]) ?_ 5 _ rfl; (with_reducible repeat (first | refine k_n ?_ _ | refine k_d ?_ | refine k_a ?_ _)); refine blk_put (cs := #[.int .i64 t166, .int .i64 t167, .int .i64 t168, .int .i64 t169, .int .i64 0, .int .i64 0, .int .i64 0, .int .i64 0, .slice none 0 0]) ?_ 4 _ rfl; (with_reducible repeat (first | refine k_n ?_ _ | refine k_d ?_ | refine k_a ?_ _)); refine blk_put (cs := #[.int .i64 t166, .int .i64 t167, .int .i64 t168, .int .i64 0, .int .i64 0, .int .i64 0, .int .i64 0, .int .i64 0, .slice none 0 0]) ?_ 3 _ rfl; (with_reducible repeat (first | refine k_n ?_ _ | refine k_d ?_ | refine k_a ?_ _)); refine blk_put (cs := #[.int .i64 t166, .int .i64 t167, .int .i64 0, .int .i64 0, .int .i64 0, .int .i64 0, .int .i64 0, .int .i64 0, .slice none 0 0]) ?_ 2 _ rfl; (with_reducible repeat (first | refine k_n ?_ _ | refine k_d ?_ | refine k_a ?_ _)); refine blk_put (cs := #[.int .i64 t166, .int .i64 0, .int .i64 0, .int .i64 0, .int .i64 0, .int .i64 0, .int .i64 0, .int .i64 0, .slice none 0 0]) ?_ 1 _ rfl; (with_reducible repeat (first | refine k_n ?_ _ | refine k_d ?_ | refine k_a ?_ _)); refine blk_put (cs := #[.int .i64 0, .int .i64 0, .int .i64 0, .int .i64 0, .int .i64 0, .int .i64 0, .int .i64 0, .int .i64 0, .slice none 0 0]) ?_ 0 _ rfl; (with_reducible repeat (first | refine k_n ?_ _ | refine k_d ?_ | refine k_a ?_ _)); exact BK177.out⟩, ⟨by repeat (first | (with_reducible first | exact HB.out | apply b_a | apply b_n | apply b_d | refine b_s ?_ GE162.out | refine b_s ?_ GE177.out) | exact HB.out)⟩⟩
    rw [if_neg c30] at H
    have c30b0 : ((Int.tmod (wrap64 ((Int.tmod a1 7) + 7)) 7) == 1) = false := beq_eq_false_iff_ne.mpr c30
    have c30b1 : ((Int.tmod (wrap64 ((Int.tmod a1 7) + 7)) 7) != 1) = true := bne_iff_ne.mpr c30
    by_cases c33 : (Int.tmod (wrap64 ((Int.tmod a1 7) + 7)) 7) = 2
    ·
     rw [if_pos c33] at H
     have c33b0 : ((Int.tmod (wrap64 ((Int.tmod a1 7) + 7)) 7) == 2) = true := beq_iff_eq.mpr c33
     have c33b1 : ((Int.tmod (wrap64 ((Int.tmod a1 7) + 7)) 7) != 2) = false := bne_eq_false_iff_eq.mpr c33
     clear c33
     have H' := Aside0.mk H
     clear H
     have hnb34 := NB177_162.out
     have hnc34 := NB162_177.out
     have hcz35_0 := bc_0 BK177
     have hcz35_1 := bc_1 BK177
     have hcz35_2 := bc_2 BK177
     have hcz35_3 := bc_3 BK177
     have hcz35_4 := bc_4 BK177
     have hcz35_5 := bc_5 BK177
     have hcz35_6 := bc_6 BK177
     have hcz35_7 := bc_7 BK177
     have hcz35_8 : w23.cell? ⟨gb177, 8, none⟩ = some (.slice none 0 0) := (blk_cell BK177.out 8).trans rfl
     have hfz35_0 := blk_frozen BK177.out 0
     have hfz35_1 := blk_frozen BK177.out 1
     have hfz35_2 := blk_frozen BK177.out 2
     have hfz35_3 := blk_frozen BK177.out 3
     have hfz35_4 := blk_frozen BK177.out 4
     have hfz35_5 := blk_frozen BK177.out 5
     have hfz35_6 := blk_frozen BK177.out 6
     have hfz35_7 := blk_frozen BK177.out 7
     have hfz35_8 := blk_frozen BK177.out 8
     go_wp2_with (first | ((with_reducible refine gate_store_ rfl ?_); refine st1_ rfl rfl rfl rfl rfl (by with_reducible assumption) (by simp) (by kernel_rfl) ?_))
     repeat (go_quiet (fail); try go_wp2)
     go_meet
     case rel => exact ⟨_, (t167), (t168), (a2), (t170), (t171), (t172), (t173), H', ⟨by have := HJ3.out; first | exact Nat.le_refl _ | omega⟩, ⟨by (with_reducible repeat (first | apply Kd.R_alloc | apply Kd.R_drewN | apply Kd.R_drew)); exact Kd.R_mono (Kd.R_far (p := ⟨gb177, 3, none⟩) (Kd.R_far (p := ⟨gb177, 8, none⟩) (Kd.R_far (p := ⟨gb177, 7, none⟩) (Kd.R_far (p := ⟨gb177, 6, none⟩) (Kd.R_far (p := ⟨gb177, 5, none⟩) (Kd.R_far (p := ⟨gb177, 4, none⟩) (Kd.R_far (p := ⟨gb177, 3, none⟩) (Kd.R_far (p := ⟨gb177, 2, none⟩) (Kd.R_far (p := ⟨gb177, 1, none⟩) (Kd.R_far (p := ⟨gb177, 0, none⟩) (Kd.R_types HO176.out BK177.out (by decide)) (fun _ hk => hk.2) (.int .i64 t166)) (fun _ hk => hk.2) (.int .i64 t167)) (fun _ hk => hk.2) (.int .i64 t168)) (fun _ hk => hk.2) (.int .i64 t169)) (fun _ hk => hk.2) (.int .i64 t170)) (fun _ hk => hk.2) (.int .i64 t171)) (fun _ hk => hk.2) (.int .i64 t172)) (fun _ hk => hk.2) (.int .i64 t173)) (fun _ hk => hk.2) (.slice Ao26 t174.length co26)) (fun _ hk => hk.2) (.int .i64 a2)) (fun _ hk => trivial)⟩, ⟨by (with_reducible repeat (first | refine k_n ?_ _ | refine k_d ?_ | refine k_a ?_ _)); refine blk_far ?_ NB162_177.out _; (with_reducible repeat (first | refine k_n ?_ _ | refine k_d ?_ | refine k_a ?_ _)); refine blk_far ?_ NB162_177.out _; (with_reducible repeat (first | refine k_n ?_ _ | refine k_d ?_ | refine k_a ?_ _)); refine blk_far ?_ NB162_177.out _; (with_reducible repeat (first | refine k_n ?_ _ | refine k_d ?_ | refine k_a ?_ _)); refine blk_far ?_ NB162_177.out _; (with_reducible repeat (first | refine k_n ?_ _ | refine k_d ?_ | refine k_a ?_ _)); refine blk_far ?_ NB162_177.out _; (with_reducible repeat (first | refine k_n ?_ _ | refine k_d ?_ | refine k_a ?_ _)); refine blk_far ?_ NB162_177.out _; (with_reducible repeat (first | refine k_n ?_ _ | refine k_d ?_ | refine k_a ?_ _)); refine blk_far ?_ NB162_177.out _; (with_reducible repeat (first | refine k_n ?_ _ | refine k_d ?_ | refine k_a ?_ _)); refine blk_far ?_ NB162_177.out _; (with_reducible repeat (first | refine k_n ?_ _ | refine k_d ?_ | refine k_a ?_ _)); refine blk_far ?_ NB162_177.out _; (with_reducible repeat (first | refine k_n ?_ _ | refine k_d ?_ | refine k_a ?_ _)); refine blk_far ?_ NB162_177.out _; (with_reducible repeat (first | refine k_n ?_ _ | refine k_d ?_ | refine k_a ?_ _)); exact BK162.out⟩, ⟨by (with_reducible repeat (first | refine k_n ?_ _ | refine k_d ?_ | refine k_a ?_ _)); refine blk_put (cs := #[.int .i64 t166, .int .i64 t167, .int .i64 t168, .int .i64 t169, .int .i64 t170, .int .i64 t171, .int .i64 t172, .int .i64 t173, .slice Ao26 t174.length co26]) ?_ 3 _ rfl; (with_reducible repeat (first | refine k_n ?_ _ | refine k_d ?_ | refine k_a ?_ _)); refine blk_put (cs := #[.int .i64 t166, .int .i64 t167, .int .i64 t168, .int .i64 t169, .int .i64 t170, .int .i64 t171, .int .i64 t172, .int .i64 t173, .slice none 0 0]) ?_ 8 _ rfl; (with_reducible repeat (first | refine k_n ?_ _ | refine k_d ?_ | refine k_a ?_ _)); refine blk_put (cs := #[.int .i64 t166, .int .i64 t167, .int .i64 t168, .int .i64 t169, .int .i64 t170, .int .i64 t171, .int .i64 t172, .int .i64 0, .slice none 0 0]) ?_ 7 _ rfl; (with_reducible repeat (first | refine k_n ?_ _ | refine k_d ?_ | refine k_a ?_ _)); refine blk_put (cs := #[.int .i64 t166, .int .i64 t167, .int .i64 t168, .int .i64 t169, .int .i64 t170, .int .i64 t171, .int .i64 0, .int .i64 0, .slice none 0 0]) ?_ 6 _ rfl; (with_reducible repeat (first | refine k_n ?_ _ | refine k_d ?_ | refine k_a ?_ _)); refine blk_put (cs := #[.int .i64 t166, .int .i64 t167, .int .i64 t168, .int .i64 t169, .int .i64 t170, .int .i64 0, .int .i64 0, .int .i64 0, .slice none 0 0]) ?_ 5 _ rfl; (with_reducible repeat (first | refine k_n ?_ _ | refine k_d ?_ | refine k_a ?_ _)); refine blk_put (cs := #[.int .i64 t166, .int .i64 t167, .int .i64 t168, .int .i64 t169, .int .i64 0, .int .i64 0, .int .i64 0, .int .i64 0, .slice none 0 0]) ?_ 4 _ rfl; (with_reducible repeat (first | refine k_n ?_ _ | refine k_d ?_ | refine k_a ?_ _)); refine blk_put (cs := #[.int .i64 t166, .int .i64 t167, .int .i64 t168, .int .i64 0, .int .i64 0, .int .i64 0, .int .i64 0, .int .i64 0, .slice none 0 0]) ?_ 3 _ rfl; (with_reducible repeat (first | refine k_n ?_ _ | refine k_d ?_ | refine k_a ?_ _)); refine blk_put (cs := #[.int .i64 t166, .int .i64 t167, .int .i64 0, .int .i64 0, .int .i64 0, .int .i64 0, .int .i64 0, .int .i64 0, .slice none 0 0]) ?_ 2 _ rfl; (with_reducible repeat (first | refine k_n ?_ _ | refine k_d ?_ | refine k_a ?_ _)); refine blk_put (cs := #[.int .i64 t166, .int .i64 0, .int .i64 0, .int .i64 0, .int .i64 0, .int .i64 0, .int .i64 0, .int .i64 0, .slice none 0 0]) ?_ 1 _ rfl; (with_reducible repeat (first | refine k_n ?_ _ | refine k_d ?_ | refine k_a ?_ _)); refine blk_put (cs := #[.int .i64 0, .int .i64 0, .int .i64 0, .int .i64 0, .int .i64 0, .int .i64 0, .int .i64 0, .int .i64 0, .slice none 0 0]) ?_ 0 _ rfl; (with_reducible repeat (first | refine k_n ?_ _ | refine k_d ?_ | refine k_a ?_ _)); exact BK177.out⟩, ⟨by repeat (first | (with_reducible first | exact HB.out | apply b_a | apply b_n | apply b_d | refine b_s ?_ GE162.out | refine b_s ?_ GE177.out) | exact HB.out)⟩⟩
    rw [if_neg c33] at H
    have c33b0 : ((Int.tmod (wrap64 ((Int.tmod a1 7) + 7)) 7) == 2) = false := beq_eq_false_iff_ne.mpr c33
    have c33b1 : ((Int.tmod (wrap64 ((Int.tmod a1 7) + 7)) 7) != 2) = true := bne_iff_ne.mpr c33
    by_cases c36 : (Int.tmod (wrap64 ((Int.tmod a1 7) + 7)) 7) = 3
    ·
     rw [if_pos c36] at H
     have c36b0 : ((Int.tmod (wrap64 ((Int.tmod a1 7) + 7)) 7) == 3) = true := beq_iff_eq.mpr c36
     have c36b1 : ((Int.tmod (wrap64 ((Int.tmod a1 7) + 7)) 7) != 3) = false := bne_eq_false_iff_eq.mpr c36
     clear c36
     have H' := Aside0.mk H
     clear H
     have hnb37 := NB177_162.out
     have hnc37 := NB162_177.out
     have hcz38_0 := bc_0 BK177
     have hcz38_1 := bc_1 BK177
     have hcz38_2 := bc_2 BK177
     have hcz38_3 := bc_3 BK177
     have hcz38_4 := bc_4 BK177
     have hcz38_5 := bc_5 BK177
     have hcz38_6 := bc_6 BK177
     have hcz38_7 := bc_7 BK177
     have hcz38_8 : w23.cell? ⟨gb177, 8, none⟩ = some (.slice none 0 0) := (blk_cell BK177.out 8).trans rfl
     have hfz38_0 := blk_frozen BK177.out 0
     have hfz38_1 := blk_frozen BK177.out 1
     have hfz38_2 := blk_frozen BK177.out 2
     have hfz38_3 := blk_frozen BK177.out 3
     have hfz38_4 := blk_frozen BK177.out 4
     have hfz38_5 := blk_frozen BK177.out 5
     have hfz38_6 := blk_frozen BK177.out 6
     have hfz38_7 := blk_frozen BK177.out 7
     have hfz38_8 := blk_frozen BK177.out 8
     go_wp2_with (first | ((with_reducible refine gate_store_ rfl ?_); refine st1_ rfl rfl rfl rfl rfl (by with_reducible assumption) (by simp) (by kernel_rfl) ?_))
     repeat (go_quiet (fail); try go_wp2)
     go_meet
     case rel => exact ⟨_, (t167), (t168), (t169), (a2), (t171), (t172), (t173), H', ⟨by have := HJ3.out; first | exact Nat.le_refl _ | omega⟩, ⟨by (with_reducible repeat (first | apply Kd.R_alloc | apply Kd.R_drewN | apply Kd.R_drew)); exact Kd.R_mono (Kd.R_far (p := ⟨gb177, 4, none⟩) (Kd.R_far (p := ⟨gb177, 8, none⟩) (Kd.R_far (p := ⟨gb177, 7, none⟩) (Kd.R_far (p := ⟨gb177, 6, none⟩) (Kd.R_far (p := ⟨gb177, 5, none⟩) (Kd.R_far (p := ⟨gb177, 4, none⟩) (Kd.R_far (p := ⟨gb177, 3, none⟩) (Kd.R_far (p := ⟨gb177, 2, none⟩) (Kd.R_far (p := ⟨gb177, 1, none⟩) (Kd.R_far (p := ⟨gb177, 0, none⟩) (Kd.R_types HO176.out BK177.out (by decide)) (fun _ hk => hk.2) (.int .i64 t166)) (fun _ hk => hk.2) (.int .i64 t167)) (fun _ hk => hk.2) (.int .i64 t168)) (fun _ hk => hk.2) (.int .i64 t169)) (fun _ hk => hk.2) (.int .i64 t170)) (fun _ hk => hk.2) (.int .i64 t171)) (fun _ hk => hk.2) (.int .i64 t172)) (fun _ hk => hk.2) (.int .i64 t173)) (fun _ hk => hk.2) (.slice Ao26 t174.length co26)) (fun _ hk => hk.2) (.int .i64 a2)) (fun _ hk => trivial)⟩, ⟨by (with_reducible repeat (first | refine k_n ?_ _ | refine k_d ?_ | refine k_a ?_ _)); refine blk_far ?_ NB162_177.out _; (with_reducible repeat (first | refine k_n ?_ _ | refine k_d ?_ | refine k_a ?_ _)); refine blk_far ?_ NB162_177.out _; (with_reducible repeat (first | refine k_n ?_ _ | refine k_d ?_ | refine k_a ?_ _)); refine blk_far ?_ NB162_177.out _; (with_reducible repeat (first | refine k_n ?_ _ | refine k_d ?_ | refine k_a ?_ _)); refine blk_far ?_ NB162_177.out _; (with_reducible repeat (first | refine k_n ?_ _ | refine k_d ?_ | refine k_a ?_ _)); refine blk_far ?_ NB162_177.out _; (with_reducible repeat (first | refine k_n ?_ _ | refine k_d ?_ | refine k_a ?_ _)); refine blk_far ?_ NB162_177.out _; (with_reducible repeat (first | refine k_n ?_ _ | refine k_d ?_ | refine k_a ?_ _)); refine blk_far ?_ NB162_177.out _; (with_reducible repeat (first | refine k_n ?_ _ | refine k_d ?_ | refine k_a ?_ _)); refine blk_far ?_ NB162_177.out _; (with_reducible repeat (first | refine k_n ?_ _ | refine k_d ?_ | refine k_a ?_ _)); refine blk_far ?_ NB162_177.out _; (with_reducible repeat (first | refine k_n ?_ _ | refine k_d ?_ | refine k_a ?_ _)); refine blk_far ?_ NB162_177.out _; (with_reducible repeat (first | refine k_n ?_ _ | refine k_d ?_ | refine k_a ?_ _)); exact BK162.out⟩, ⟨by (with_reducible repeat (first | refine k_n ?_ _ | refine k_d ?_ | refine k_a ?_ _)); refine blk_put (cs := #[.int .i64 t166, .int .i64 t167, .int .i64 t168, .int .i64 t169, .int .i64 t170, .int .i64 t171, .int .i64 t172, .int .i64 t173, .slice Ao26 t174.length co26]) ?_ 4 _ rfl; (with_reducible repeat (first | refine k_n ?_ _ | refine k_d ?_ | refine k_a ?_ _)); refine blk_put (cs := #[.int .i64 t166, .int .i64 t167, .int .i64 t168, .int .i64 t169, .int .i64 t170, .int .i64 t171, .int .i64 t172, .int .i64 t173, .slice none 0 0]) ?_ 8 _ rfl; (with_reducible repeat (first | refine k_n ?_ _ | refine k_d ?_ | refine k_a ?_ _)); refine blk_put (cs := #[.int .i64 t166, .int .i64 t167, .int .i64 t168, .int .i64 t169, .int .i64 t170, .int .i64 t171, .int .i64 t172, .int .i64 0, .slice none 0 0]) ?_ 7 _ rfl; (with_reducible repeat (first | refine k_n ?_ _ | refine k_d ?_ | refine k_a ?_ _)); refine blk_put (cs := #[.int .i64 t166, .int .i64 t167, .int .i64 t168, .int .i64 t169, .int .i64 t170, .int .i64 t171, .int .i64 0, .int .i64 0, .slice none 0 0]) ?_ 6 _ rfl; (with_reducible repeat (first | refine k_n ?_ _ | refine k_d ?_ | refine k_a ?_ _)); refine blk_put (cs := #[.int .i64 t166, .int .i64 t167, .int .i64 t168, .int .i64 t169, .int .i64 t170, .int .i64 0, .int .i64 0, .int .i64 0, .slice none 0 0]) ?_ 5 _ rfl; (with_reducible repeat (first | refine k_n ?_ _ | refine k_d ?_ | refine k_a ?_ _)); refine blk_put (cs := #[.int .i64 t166, .int .i64 t167, .int .i64 t168, .int .i64 t169, .int .i64 0, .int .i64 0, .int .i64 0, .int .i64 0, .slice none 0 0]) ?_ 4 _ rfl; (with_reducible repeat (first | refine k_n ?_ _ | refine k_d ?_ | refine k_a ?_ _)); refine blk_put (cs := #[.int .i64 t166, .int .i64 t167, .int .i64 t168, .int .i64 0, .int .i64 0, .int .i64 0, .int .i64 0, .int .i64 0, .slice none 0 0]) ?_ 3 _ rfl; (with_reducible repeat (first | refine k_n ?_ _ | refine k_d ?_ | refine k_a ?_ _)); refine blk_put (cs := #[.int .i64 t166, .int .i64 t167, .int .i64 0, .int .i64 0, .int .i64 0, .int .i64 0, .int .i64 0, .int .i64 0, .slice none 0 0]) ?_ 2 _ rfl; (with_reducible repeat (first | refine k_n ?_ _ | refine k_d ?_ | refine k_a ?_ _)); refine blk_put (cs := #[.int .i64 t166, .int .i64 0, .int .i64 0, .int .i64 0, .int .i64 0, .int .i64 0, .int .i64 0, .int .i64 0, .slice none 0 0]) ?_ 1 _ rfl; (with_reducible repeat (first | refine k_n ?_ _ | refine k_d ?_ | refine k_a ?_ _)); refine blk_put (cs := #[.int .i64 0, .int .i64 0, .int .i64 0, .int .i64 0, .int .i64 0, .int .i64 0, .int .i64 0, .int .i64 0, .slice none 0 0]) ?_ 0 _ rfl; (with_reducible repeat (first | refine k_n ?_ _ | refine k_d ?_ | refine k_a ?_ _)); exact BK177.out⟩, ⟨by repeat (first | (with_reducible first | exact HB.out | apply b_a | apply b_n | apply b_d | refine b_s ?_ GE162.out | refine b_s ?_ GE177.out) | exact HB.out)⟩⟩
    rw [if_neg c36] at H
    have c36b0 : ((Int.tmod (wrap64 ((Int.tmod a1 7) + 7)) 7) == 3) = false := beq_eq_false_iff_ne.mpr c36
    have c36b1 : ((Int.tmod (wrap64 ((Int.tmod a1 7) + 7)) 7) != 3) = true := bne_iff_ne.mpr c36
    by_cases c39 : (Int.tmod (wrap64 ((Int.tmod a1 7) + 7)) 7) = 4
    ·
     rw [if_pos c39] at H
     have c39b0 : ((Int.tmod (wrap64 ((Int.tmod a1 7) + 7)) 7) == 4) = true := beq_iff_eq.mpr c39
     have c39b1 : ((Int.tmod (wrap64 ((Int.tmod a1 7) + 7)) 7) != 4) = false := bne_eq_false_iff_eq.mpr c39
     clear c39
     have H' := Aside0.mk H
     clear H
     have hnb40 := NB177_162.out
     have hnc40 := NB162_177.out
     have hcz41_0 := bc_0 BK177
     have hcz41_1 := bc_1 BK177
     have hcz41_2 := bc_2 BK177
     have hcz41_3 := bc_3 BK177
     have hcz41_4 := bc_4 BK177
     have hcz41_5 := bc_5 BK177
     have hcz41_6 := bc_6 BK177
     have hcz41_7 := bc_7 BK177
     have hcz41_8 : w23.cell? ⟨gb177, 8, none⟩ = some (.slice none 0 0) := (blk_cell BK177.out 8).trans rfl
     have hfz41_0 := blk_frozen BK177.out 0
     have hfz41_1 := blk_frozen BK177.out 1
     have hfz41_2 := blk_frozen BK177.out 2
     have hfz41_3 := blk_frozen BK177.out 3
     have hfz41_4 := blk_frozen BK177.out 4
     have hfz41_5 := blk_frozen BK177.out 5
     have hfz41_6 := blk_frozen BK177.out 6
     have hfz41_7 := blk_frozen BK177.out 7
     have hfz41_8 := blk_frozen BK177.out 8
     go_wp2_with (first | ((with_reducible refine gate_store_ rfl ?_); refine st1_ rfl rfl rfl rfl rfl (by with_reducible assumption) (by simp) (by kernel_rfl) ?_))
     repeat (go_quiet (fail); try go_wp2)
     go_meet
     case rel => exact ⟨_, (t167), (t168), (t169), (t170), (a2), (t172), (t173), H', ⟨by have := HJ3.out; first | exact Nat.le_refl _ | omega⟩, ⟨by (with_reducible repeat (first | apply Kd.R_alloc | apply Kd.R_drewN | apply Kd.R_drew)); exact Kd.R_mono (Kd.R_far (p := ⟨gb177, 5, none⟩) (Kd.R_far (p := ⟨gb177, 8, none⟩) (Kd.R_far (p := ⟨gb177, 7, none⟩) (Kd.R_far (p := ⟨gb177, 6, none⟩) (Kd.R_far (p := ⟨gb177, 5, none⟩) (Kd.R_far (p := ⟨gb177, 4, none⟩) (Kd.R_far (p := ⟨gb177, 3, none⟩) (Kd.R_far (p := ⟨gb177, 2, none⟩) (Kd.R_far (p := ⟨gb177, 1, none⟩) (Kd.R_far (p := ⟨gb177, 0, none⟩) (Kd.R_types HO176.out BK177.out (by decide)) (fun _ hk => hk.2) (.int .i64 t166)) (fun _ hk => hk.2) (.int .i64 t167)) (fun _ hk => hk.2) (.int .i64 t168)) (fun _ hk => hk.2) (.int .i64 t169)) (fun _ hk => hk.2) (.int .i64 t170)) (fun _ hk => hk.2) (.int .i64 t171)) (fun _ hk => hk.2) (.int .i64 t172)) (fun _ hk => hk.2) (.int .i64 t173)) (fun _ hk => hk.2) (.slice Ao26 t174.length co26)) (fun _ hk => hk.2) (.int .i64 a2)) (fun _ hk => trivial)⟩, ⟨by (with_reducible repeat (first | refine k_n ?_ _ | refine k_d ?_ | refine k_a ?_ _)); refine blk_far ?_ NB162_177.out _; (with_reducible repeat (first | refine k_n ?_ _ | refine k_d ?_ | refine k_a ?_ _)); refine blk_far ?_ NB162_177.out _; (with_reducible repeat (first | refine k_n ?_ _ | refine k_d ?_ | refine k_a ?_ _)); refine blk_far ?_ NB162_177.out _; (with_reducible repeat (first | refine k_n ?_ _ | refine k_d ?_ | refine k_a ?_ _)); refine blk_far ?_ NB162_177.out _; (with_reducible repeat (first | refine k_n ?_ _ | refine k_d ?_ | refine k_a ?_ _)); refine blk_far ?_ NB162_177.out _; (with_reducible repeat (first | refine k_n ?_ _ | refine k_d ?_ | refine k_a ?_ _)); refine blk_far ?_ NB162_177.out _; (with_reducible repeat (first | refine k_n ?_ _ | refine k_d ?_ | refine k_a ?_ _)); refine blk_far ?_ NB162_177.out _; (with_reducible repeat (first | refine k_n ?_ _ | refine k_d ?_ | refine k_a ?_ _)); refine blk_far ?_ NB162_177.out _; (with_reducible repeat (first | refine k_n ?_ _ | refine k_d ?_ | refine k_a ?_ _)); refine blk_far ?_ NB162_177.out _; (with_reducible repeat (first | refine k_n ?_ _ | refine k_d ?_ | refine k_a ?_ _)); refine blk_far ?_ NB162_177.out _; (with_reducible repeat (first | refine k_n ?_ _ | refine k_d ?_ | refine k_a ?_ _)); exact BK162.out⟩, ⟨by (with_reducible repeat (first | refine k_n ?_ _ | refine k_d ?_ | refine k_a ?_ _)); refine blk_put (cs := #[.int .i64 t166, .int .i64 t167, .int .i64 t168, .int .i64 t169, .int .i64 t170, .int .i64 t171, .int .i64 t172, .int .i64 t173, .slice Ao26 t174.length co26]) ?_ 5 _ rfl; (with_reducible repeat (first | refine k_n ?_ _ | refine k_d ?_ | refine k_a ?_ _)); refine blk_put (cs := #[.int .i64 t166, .int .i64 t167, .int .i64 t168, .int .i64 t169, .int .i64 t170, .int .i64 t171, .int .i64 t172, .int .i64 t173, .slice none 0 0]) ?_ 8 _ rfl; (with_reducible repeat (first | refine k_n ?_ _ | refine k_d ?_ | refine k_a ?_ _)); refine blk_put (cs := #[.int .i64 t166, .int .i64 t167, .int .i64 t168, .int .i64 t169, .int .i64 t170, .int .i64 t171, .int .i64 t172, .int .i64 0, .slice none 0 0]) ?_ 7 _ rfl; (with_reducible repeat (first | refine k_n ?_ _ | refine k_d ?_ | refine k_a ?_ _)); refine blk_put (cs := #[.int .i64 t166, .int .i64 t167, .int .i64 t168, .int .i64 t169, .int .i64 t170, .int .i64 t171, .int .i64 0, .int .i64 0, .slice none 0 0]) ?_ 6 _ rfl; (with_reducible repeat (first | refine k_n ?_ _ | refine k_d ?_ | refine k_a ?_ _)); refine blk_put (cs := #[.int .i64 t166, .int .i64 t167, .int .i64 t168, .int .i64 t169, .int .i64 t170, .int .i64 0, .int .i64 0, .int .i64 0, .slice none 0 0]) ?_ 5 _ rfl; (with_reducible repeat (first | refine k_n ?_ _ | refine k_d ?_ | refine k_a ?_ _)); refine blk_put (cs := #[.int .i64 t166, .int .i64 t167, .int .i64 t168, .int .i64 t169, .int .i64 0, .int .i64 0, .int .i64 0, .int .i64 0, .slice none 0 0]) ?_ 4 _ rfl; (with_reducible repeat (first | refine k_n ?_ _ | refine k_d ?_ | refine k_a ?_ _)); refine blk_put (cs := #[.int .i64 t166, .int .i64 t167, .int .i64 t168, .int .i64 0, .int .i64 0, .int .i64 0, .int .i64 0, .int .i64 0, .slice none 0 0]) ?_ 3 _ rfl; (with_reducible repeat (first | refine k_n ?_ _ | refine k_d ?_ | refine k_a ?_ _)); refine blk_put (cs := #[.int .i64 t166, .int .i64 t167, .int .i64 0, .int .i64 0, .int .i64 0, .int .i64 0, .int .i64 0, .int .i64 0, .slice none 0 0]) ?_ 2 _ rfl; (with_reducible repeat (first | refine k_n ?_ _ | refine k_d ?_ | refine k_a ?_ _)); refine blk_put (cs := #[.int .i64 t166, .int .i64 0, .int .i64 0, .int .i64 0, .int .i64 0, .int .i64 0, .int .i64 0, .int .i64 0, .slice none 0 0]) ?_ 1 _ rfl; (with_reducible repeat (first | refine k_n ?_ _ | refine k_d ?_ | refine k_a ?_ _)); refine blk_put (cs := #[.int .i64 0, .int .i64 0, .int .i64 0, .int .i64 0, .int .i64 0, .int .i64 0, .int .i64 0, .int .i64 0, .slice none 0 0]) ?_ 0 _ rfl; (with_reducible repeat (first | refine k_n ?_ _ | refine k_d ?_ | refine k_a ?_ _)); exact BK177.out⟩, ⟨by repeat (first | (with_reducible first | exact HB.out | apply b_a | apply b_n | apply b_d | refine b_s ?_ GE162.out | refine b_s ?_ GE177.out) | exact HB.out)⟩⟩
    rw [if_neg c39] at H
    have c39b0 : ((Int.tmod (wrap64 ((Int.tmod a1 7) + 7)) 7) == 4) = false := beq_eq_false_iff_ne.mpr c39
    have c39b1 : ((Int.tmod (wrap64 ((Int.tmod a1 7) + 7)) 7) != 4) = true := bne_iff_ne.mpr c39
    by_cases c42 : (Int.tmod (wrap64 ((Int.tmod a1 7) + 7)) 7) = 5
    ·
     rw [if_pos c42] at H
     have c42b0 : ((Int.tmod (wrap64 ((Int.tmod a1 7) + 7)) 7) == 5) = true := beq_iff_eq.mpr c42
     have c42b1 : ((Int.tmod (wrap64 ((Int.tmod a1 7) + 7)) 7) != 5) = false := bne_eq_false_iff_eq.mpr c42
     clear c42
     have H' := Aside0.mk H
     clear H
     have hnb43 := NB177_162.out
     have hnc43 := NB162_177.out
     have hcz44_0 := bc_0 BK177
     have hcz44_1 := bc_1 BK177
     have hcz44_2 := bc_2 BK177
     have hcz44_3 := bc_3 BK177
     have hcz44_4 := bc_4 BK177
     have hcz44_5 := bc_5 BK177
     have hcz44_6 := bc_6 BK177
     have hcz44_7 := bc_7 BK177
     have hcz44_8 : w23.cell? ⟨gb177, 8, none⟩ = some (.slice none 0 0) := (blk_cell BK177.out 8).trans rfl
     have hfz44_0 := blk_frozen BK177.out 0
     have hfz44_1 := blk_frozen BK177.out 1
     have hfz44_2 := blk_frozen BK177.out 2
     have hfz44_3 := blk_frozen BK177.out 3
     have hfz44_4 := blk_frozen BK177.out 4
     have hfz44_5 := blk_frozen BK177.out 5
     have hfz44_6 := blk_frozen BK177.out 6
     have hfz44_7 := blk_frozen BK177.out 7
     have hfz44_8 := blk_frozen BK177.out 8
     go_wp2_with (first | ((with_reducible refine gate_store_ rfl ?_); refine st1_ rfl rfl rfl rfl rfl (by with_reducible assumption) (by simp) (by kernel_rfl) ?_))
     repeat (go_quiet (fail); try go_wp2)
     go_meet
     case rel => exact ⟨_, (t167), (t168), (t169), (t170), (t171), (a2), (t173), H', ⟨by have := HJ3.out; first | exact Nat.le_refl _ | omega⟩, ⟨by (with_reducible repeat (first | apply Kd.R_alloc | apply Kd.R_drewN | apply Kd.R_drew)); exact Kd.R_mono (Kd.R_far (p := ⟨gb177, 6, none⟩) (Kd.R_far (p := ⟨gb177, 8, none⟩) (Kd.R_far (p := ⟨gb177, 7, none⟩) (Kd.R_far (p := ⟨gb177, 6, none⟩) (Kd.R_far (p := ⟨gb177, 5, none⟩) (Kd.R_far (p := ⟨gb177, 4, none⟩) (Kd.R_far (p := ⟨gb177, 3, none⟩) (Kd.R_far (p := ⟨gb177, 2, none⟩) (Kd.R_far (p := ⟨gb177, 1, none⟩) (Kd.R_far (p := ⟨gb177, 0, none⟩) (Kd.R_types HO176.out BK177.out (by decide)) (fun _ hk => hk.2) (.int .i64 t166)) (fun _ hk => hk.2) (.int .i64 t167)) (fun _ hk => hk.2) (.int .i64 t168)) (fun _ hk => hk.2) (.int .i64 t169)) (fun _ hk => hk.2) (.int .i64 t170)) (fun _ hk => hk.2) (.int .i64 t171)) (fun _ hk => hk.2) (.int .i64 t172)) (fun _ hk => hk.2) (.int .i64 t173)) (fun _ hk => hk.2) (.slice Ao26 t174.length co26)) (fun _ hk => hk.2) (.int .i64 a2)) (fun _ hk => trivial)⟩, ⟨by (with_reducible repeat (first | refine k_n ?_ _ | refine k_d ?_ | refine k_a ?_ _)); refine blk_far ?_ NB162_177.out _; (with_reducible repeat (first | refine k_n ?_ _ | refine k_d ?_ | refine k_a ?_ _)); refine blk_far ?_ NB162_177.out _; (with_reducible repeat (first | refine k_n ?_ _ | refine k_d ?_ | refine k_a ?_ _)); refine blk_far ?_ NB162_177.out _; (with_reducible repeat (first | refine k_n ?_ _ | refine k_d ?_ | refine k_a ?_ _)); refine blk_far ?_ NB162_177.out _; (with_reducible repeat (first | refine k_n ?_ _ | refine k_d ?_ | refine k_a ?_ _)); refine blk_far ?_ NB162_177.out _; (with_reducible repeat (first | refine k_n ?_ _ | refine k_d ?_ | refine k_a ?_ _)); refine blk_far ?_ NB162_177.out _; (with_reducible repeat (first | refine k_n ?_ _ | refine k_d ?_ | refine k_a ?_ _)); refine blk_far ?_ NB162_177.out _; (with_reducible repeat (first | refine k_n ?_ _ | refine k_d ?_ | refine k_a ?_ _)); refine blk_far ?_ NB162_177.out _; (with_reducible repeat (first | refine k_n ?_ _ | refine k_d ?_ | refine k_a ?_ _)); refine blk_far ?_ NB162_177.out _; (with_reducible repeat (first | refine k_n ?_ _ | refine k_d ?_ | refine k_a ?_ _)); refine blk_far ?_ NB162_177.out _; (with_reducible repeat (first | refine k_n ?_ _ | refine k_d ?_ | refine k_a ?_ _)); exact BK162.out⟩, ⟨by (with_reducible repeat (first | refine k_n ?_ _ | refine k_d ?_ | refine k_a ?_ _)); refine blk_put (cs := #[.int .i64 t166, .int .i64 t167, .int .i64 t168, .int .i64 t169, .int .i64 t170, .int .i64 t171, .int .i64 t172, .int .i64 t173, .slice Ao26 t174.length co26]) ?_ 6 _ rfl; (with_reducible repeat (first | refine k_n ?_ _ | refine k_d ?_ | refine k_a ?_ _)); refine blk_put (cs := #[.int .i64 t166, .int .i64 t167, .int .i64 t168, .int .i64 t169, .int .i64 t170, .int .i64 t171, .int .i64 t172, .int .i64 t173, .slice none 0 0]) ?_ 8 _ rfl; (with_reducible repeat (first | refine k_n ?_ _ | refine k_d ?_ | refine k_a ?_ _)); refine blk_put (cs := #[.int .i64 t166, .int .i64 t167, .int .i64 t168, .int .i64 t169, .int .i64 t170, .int .i64 t171, .int .i64 t172, .int .i64 0, .slice none 0 0]) ?_ 7 _ rfl; (with_reducible repeat (first | refine k_n ?_ _ | refine k_d ?_ | refine k_a ?_ _)); refine blk_put (cs := #[.int .i64 t166, .int .i64 t167, .int .i64 t168, .int .i64 t169, .int .i64 t170, .int .i64 t171, .int .i64 0, .int .i64 0, .slice none 0 0]) ?_ 6 _ rfl; (with_reducible repeat (first | refine k_n ?_ _ | refine k_d ?_ | refine k_a ?_ _)); refine blk_put (cs := #[.int .i64 t166, .int .i64 t167, .int .i64 t168, .int .i64 t169, .int .i64 t170, .int .i64 0, .int .i64 0, .int .i64 0, .slice none 0 0]) ?_ 5 _ rfl; (with_reducible repeat (first | refine k_n ?_ _ | refine k_d ?_ | refine k_a ?_ _)); refine blk_put (cs := #[.int .i64 t166, .int .i64 t167, .int .i64 t168, .int .i64 t169, .int .i64 0, .int .i64 0, .int .i64 0, .int .i64 0, .slice none 0 0]) ?_ 4 _ rfl; (with_reducible repeat (first | refine k_n ?_ _ | refine k_d ?_ | refine k_a ?_ _)); refine blk_put (cs := #[.int .i64 t166, .int .i64 t167, .int .i64 t168, .int .i64 0, .int .i64 0, .int .i64 0, .int .i64 0, .int .i64 0, .slice none 0 0]) ?_ 3 _ rfl; (with_reducible repeat (first | refine k_n ?_ _ | refine k_d ?_ | refine k_a ?_ _)); refine blk_put (cs := #[.int .i64 t166, .int .i64 t167, .int .i64 0, .int .i64 0, .int .i64 0, .int .i64 0, .int .i64 0, .int .i64 0, .slice none 0 0]) ?_ 2 _ rfl; (with_reducible repeat (first | refine k_n ?_ _ | refine k_d ?_ | refine k_a ?_ _)); refine blk_put (cs := #[.int .i64 t166, .int .i64 0, .int .i64 0, .int .i64 0, .int .i64 0, .int .i64 0, .int .i64 0, .int .i64 0, .slice none 0 0]) ?_ 1 _ rfl; (with_reducible repeat (first | refine k_n ?_ _ | refine k_d ?_ | refine k_a ?_ _)); refine blk_put (cs := #[.int .i64 0, .int .i64 0, .int .i64 0, .int .i64 0, .int .i64 0, .int .i64 0, .int .i64 0, .int .i64 0, .slice none 0 0]) ?_ 0 _ rfl; (with_reducible repeat (first | refine k_n ?_ _ | refine k_d ?_ | refine k_a ?_ _)); exact BK177.out⟩, ⟨by repeat (first | (with_reducible first | exact HB.out | apply b_a | apply b_n | apply b_d | refine b_s ?_ GE162.out | refine b_s ?_ GE177.out) | exact HB.out)⟩⟩
    rw [if_neg c42] at H
    have c42b0 : ((Int.tmod (wrap64 ((Int.tmod a1 7) + 7)) 7) == 5) = false := beq_eq_false_iff_ne.mpr c42
    have c42b1 : ((Int.tmod (wrap64 ((Int.tmod a1 7) + 7)) 7) != 5) = true := bne_iff_ne.mpr c42
    by_cases c45 : (Int.tmod (wrap64 ((Int.tmod a1 7) + 7)) 7) = 6
    rotate_left
    ·
     rw [if_neg c45] at H
     have c45b0 : ((Int.tmod (wrap64 ((Int.tmod a1 7) + 7)) 7) == 6) = false := beq_eq_false_iff_ne.mpr c45
     have c45b1 : ((Int.tmod (wrap64 ((Int.tmod a1 7) + 7)) 7) != 6) = true := bne_iff_ne.mpr c45
     have H' := Aside0.mk H
     clear H
     go_wp2_with (first | ((with_reducible refine gate_store_ rfl ?_); refine st1_ rfl rfl rfl rfl rfl (by with_reducible assumption) (by simp) (by kernel_rfl) ?_))
     repeat (go_quiet (fail); try go_wp2)
     go_meet
     case rel => exact ⟨_, (t167), (t168), (t169), (t170), (t171), (t172), (t173), H', ⟨by have := HJ3.out; first | exact Nat.le_refl _ | omega⟩, ⟨by (with_reducible repeat (first | apply Kd.R_alloc | apply Kd.R_drewN | apply Kd.R_drew)); exact Kd.R_mono (Kd.R_far (p := ⟨gb177, 8, none⟩) (Kd.R_far (p := ⟨gb177, 7, none⟩) (Kd.R_far (p := ⟨gb177, 6, none⟩) (Kd.R_far (p := ⟨gb177, 5, none⟩) (Kd.R_far (p := ⟨gb177, 4, none⟩) (Kd.R_far (p := ⟨gb177, 3, none⟩) (Kd.R_far (p := ⟨gb177, 2, none⟩) (Kd.R_far (p := ⟨gb177, 1, none⟩) (Kd.R_far (p := ⟨gb177, 0, none⟩) (Kd.R_types HO176.out BK177.out (by decide)) (fun _ hk => hk.2) (.int .i64 t166)) (fun _ hk => hk.2) (.int .i64 t167)) (fun _ hk => hk.2) (.int .i64 t168)) (fun _ hk => hk.2) (.int .i64 t169)) (fun _ hk => hk.2) (.int .i64 t170)) (fun _ hk => hk.2) (.int .i64 t171)) (fun _ hk => hk.2) (.int .i64 t172)) (fun _ hk => hk.2) (.int .i64 t173)) (fun _ hk => hk.2) (.slice Ao26 t174.length co26)) (fun _ hk => trivial)⟩, ⟨by (with_reducible repeat (first | refine k_n ?_ _ | refine k_d ?_ | refine k_a ?_ _)); refine blk_far ?_ NB162_177.out _; (with_reducible repeat (first | refine k_n ?_ _ | refine k_d ?_ | refine k_a ?_ _)); refine blk_far ?_ NB162_177.out _; (with_reducible repeat (first | refine k_n ?_ _ | refine k_d ?_ | refine k_a ?_ _)); refine blk_far ?_ NB162_177.out _; (with_reducible repeat (first | refine k_n ?_ _ | refine k_d ?_ | refine k_a ?_ _)); refine blk_far ?_ NB162_177.out _; (with_reducible repeat (first | refine k_n ?_ _ | refine k_d ?_ | refine k_a ?_ _)); refine blk_far ?_ NB162_177.out _; (with_reducible repeat (first | refine k_n ?_ _ | refine k_d ?_ | refine k_a ?_ _)); refine blk_far ?_ NB162_177.out _; (with_reducible repeat (first | refine k_n ?_ _ | refine k_d ?_ | refine k_a ?_ _)); refine blk_far ?_ NB162_177.out _; (with_reducible repeat (first | refine k_n ?_ _ | refine k_d ?_ | refine k_a ?_ _)); refine blk_far ?_ NB162_177.out _; (with_reducible repeat (first | refine k_n ?_ _ | refine k_d ?_ | refine k_a ?_ _)); refine blk_far ?_ NB162_177.out _; (with_reducible repeat (first | refine k_n ?_ _ | refine k_d ?_ | refine k_a ?_ _)); exact BK162.out⟩, ⟨by (with_reducible repeat (first | refine k_n ?_ _ | refine k_d ?_ | refine k_a ?_ _)); refine blk_put (cs := #[.int .i64 t166, .int .i64 t167, .int .i64 t168, .int .i64 t169, .int .i64 t170, .int .i64 t171, .int .i64 t172, .int .i64 t173, .slice none 0 0]) ?_ 8 _ rfl; (with_reducible repeat (first | refine k_n ?_ _ | refine k_d ?_ | refine k_a ?_ _)); refine blk_put (cs := #[.int .i64 t166, .int .i64 t167, .int .i64 t168, .int .i64 t169, .int .i64 t170, .int .i64 t171, .int .i64 t172, .int .i64 0, .slice none 0 0]) ?_ 7 _ rfl; (with_reducible repeat (first | refine k_n ?_ _ | refine k_d ?_ | refine k_a ?_ _)); refine blk_put (cs := #[.int .i64 t166, .int .i64 t167, .int .i64 t168, .int .i64 t169, .int .i64 t170, .int .i64 t171, .int .i64 0, .int .i64 0, .slice none 0 0]) ?_ 6 _ rfl; (with_reducible repeat (first | refine k_n ?_ _ | refine k_d ?_ | refine k_a ?_ _)); refine blk_put (cs := #[.int .i64 t166, .int .i64 t167, .int .i64 t168, .int .i64 t169, .int .i64 t170, .int .i64 0, .int .i64 0, .int .i64 0, .slice none 0 0]) ?_ 5 _ rfl; (with_reducible repeat (first | refine k_n ?_ _ | refine k_d ?_ | refine k_a ?_ _)); refine blk_put (cs := #[.int .i64 t166, .int .i64 t167, .int .i64 t168, .int .i64 t169, .int .i64 0, .int .i64 0, .int .i64 0, .int .i64 0, .slice none 0 0]) ?_ 4 _ rfl; (with_reducible repeat (first | refine k_n ?_ _ | refine k_d ?_ | refine k_a ?_ _)); refine blk_put (cs := #[.int .i64 t166, .int .i64 t167, .int .i64 t168, .int .i64 0, .int .i64 0, .int .i64 0, .int .i64 0, .int .i64 0, .slice none 0 0]) ?_ 3 _ rfl; (with_reducible repeat (first | refine k_n ?_ _ | refine k_d ?_ | refine k_a ?_ _)); refine blk_put (cs := #[.int .i64 t166, .int .i64 t167, .int .i64 0, .int .i64 0, .int .i64 0, .int .i64 0, .int .i64 0, .int .i64 0, .slice none 0 0]) ?_ 2 _ rfl; (with_reducible repeat (first | refine k_n ?_ _ | refine k_d ?_ | refine k_a ?_ _)); refine blk_put (cs := #[.int .i64 t166, .int .i64 0, .int .i64 0, .int .i64 0, .int .i64 0, .int .i64 0, .int .i64 0, .int .i64 0, .slice none 0 0]) ?_ 1 _ rfl; (with_reducible repeat (first | refine k_n ?_ _ | refine k_d ?_ | refine k_a ?_ _)); refine blk_put (cs := #[.int .i64 0, .int .i64 0, .int .i64 0, .int .i64 0, .int .i64 0, .int .i64 0, .int .i64 0, .int .i64 0, .slice none 0 0]) ?_ 0 _ rfl; (with_reducible repeat (first | refine k_n ?_ _ | refine k_d ?_ | refine k_a ?_ _)); exact BK177.out⟩, ⟨by repeat (first | (with_reducible first | exact HB.out | apply b_a | apply b_n | apply b_d | refine b_s ?_ GE162.out | refine b_s ?_ GE177.out) | exact HB.out)⟩⟩
    rw [if_pos c45] at H
    have c45b0 : ((Int.tmod (wrap64 ((Int.tmod a1 7) + 7)) 7) == 6) = true := beq_iff_eq.mpr c45
    have c45b1 : ((Int.tmod (wrap64 ((Int.tmod a1 7) + 7)) 7) != 6) = false := bne_eq_false_iff_eq.mpr c45
    clear c45
    have H' := Aside0.mk H
    clear H
    have hnb46 := NB177_162.out
    have hnc46 := NB162_177.out
    have hcz47_0 := bc_0 BK177
    have hcz47_1 := bc_1 BK177
    have hcz47_2 := bc_2 BK177
    have hcz47_3 := bc_3 BK177
    have hcz47_4 := bc_4 BK177
    have hcz47_5 := bc_5 BK177
    have hcz47_6 := bc_6 BK177
    have hcz47_7 := bc_7 BK177
    have hcz47_8 : w23.cell? ⟨gb177, 8, none⟩ = some (.slice none 0 0) := (blk_cell BK177.out 8).trans rfl
    have hfz47_0 := blk_frozen BK177.out 0
    have hfz47_1 := blk_frozen BK177.out 1
    have hfz47_2 := blk_frozen BK177.out 2
    have hfz47_3 := blk_frozen BK177.out 3
    have hfz47_4 := blk_frozen BK177.out 4
    have hfz47_5 := blk_frozen BK177.out 5
    have hfz47_6 := blk_frozen BK177.out 6
    have hfz47_7 := blk_frozen BK177.out 7
    have hfz47_8 := blk_frozen BK177.out 8
    go_wp2_with (first | ((with_reducible refine gate_store_ rfl ?_); refine st1_ rfl rfl rfl rfl rfl (by with_reducible assumption) (by simp) (by kernel_rfl) ?_))
    repeat (go_quiet (fail); try go_wp2)
    go_meet
    case rel => exact ⟨_, (t167), (t168), (t169), (t170), (t171), (t172), (a2), H', ⟨by have := HJ3.out; first | exact Nat.le_refl _ | omega⟩, ⟨by (with_reducible repeat (first | apply Kd.R_alloc | apply Kd.R_drewN | apply Kd.R_drew)); exact Kd.R_mono (Kd.R_far (p := ⟨gb177, 7, none⟩) (Kd.R_far (p := ⟨gb177, 8, none⟩) (Kd.R_far (p := ⟨gb177, 7, none⟩) (Kd.R_far (p := ⟨gb177, 6, none⟩) (Kd.R_far (p := ⟨gb177, 5, none⟩) (Kd.R_far (p := ⟨gb177, 4, none⟩) (Kd.R_far (p := ⟨gb177, 3, none⟩) (Kd.R_far (p := ⟨gb177, 2, none⟩) (Kd.R_far (p := ⟨gb177, 1, none⟩) (Kd.R_far (p := ⟨gb177, 0, none⟩) (Kd.R_types HO176.out BK177.out (by decide)) (fun _ hk => hk.2) (.int .i64 t166)) (fun _ hk => hk.2) (.int .i64 t167)) (fun _ hk => hk.2) (.int .i64 t168)) (fun _ hk => hk.2) (.int .i64 t169)) (fun _ hk => hk.2) (.int .i64 t170)) (fun _ hk => hk.2) (.int .i64 t171)) (fun _ hk => hk.2) (.int .i64 t172)) (fun _ hk => hk.2) (.int .i64 t173)) (fun _ hk => hk.2) (.slice Ao26 t174.length co26)) (fun _ hk => hk.2) (.int .i64 a2)) (fun _ hk => trivial)⟩, ⟨by (with_reducible repeat (first | refine k_n ?_ _ | refine k_d ?_ | refine k_a ?_ _)); refine blk_far ?_ NB162_177.out _; (with_reducible repeat (first | refine k_n ?_ _ | refine k_d ?_ | refine k_a ?_ _)); refine blk_far ?_ NB162_177.out _; (with_reducible repeat (first | refine k_n ?_ _ | refine k_d ?_ | refine k_a ?_ _)); refine blk_far ?_ NB162_177.out _; (with_reducible repeat (first | refine k_n ?_ _ | refine k_d ?_ | refine k_a ?_ _)); refine blk_far ?_ NB162_177.out _; (with_reducible repeat (first | refine k_n ?_ _ | refine k_d ?_ | refine k_a ?_ _)); refine blk_far ?_ NB162_177.out _; (with_reducible repeat (first | refine k_n ?_ _ | refine k_d ?_ | refine k_a ?_ _)); refine blk_far ?_ NB162_177.out _; (with_reducible repeat (first | refine k_n ?_ _ | refine k_d ?_ | refine k_a ?_ _)); refine blk_far ?_ NB162_177.out _; (with_reducible repeat (first | refine k_n ?_ _ | refine k_d ?_ | refine k_a ?_ _)); refine blk_far ?_ NB162_177.out _; (with_reducible repeat (first | refine k_n ?_ _ | refine k_d ?_ | refine k_a ?_ _)); refine blk_far ?_ NB162_177.out _; (with_reducible repeat (first | refine k_n ?_ _ | refine k_d ?_ | refine k_a ?_ _)); refine blk_far ?_ NB162_177.out _; (with_reducible repeat (first | refine k_n ?_ _ | refine k_d ?_ | refine k_a ?_ _)); exact BK162.out⟩, ⟨by (with_reducible repeat (first | refine k_n ?_ _ | refine k_d ?_ | refine k_a ?_ _)); refine blk_put (cs := #[.int .i64 t166, .int .i64 t167, .int .i64 t168, .int .i64 t169, .int .i64 t170, .int .i64 t171, .int .i64 t172, .int .i64 t173, .slice Ao26 t174.length co26]) ?_ 7 _ rfl; (with_reducible repeat (first | refine k_n ?_ _ | refine k_d ?_ | refine k_a ?_ _)); refine blk_put (cs := #[.int .i64 t166, .int .i64 t167, .int .i64 t168, .int .i64 t169, .int .i64 t170, .int .i64 t171, .int .i64 t172, .int .i64 t173, .slice none 0 0]) ?_ 8 _ rfl; (with_reducible repeat (first | refine k_n ?_ _ | refine k_d ?_ | refine k_a ?_ _)); refine blk_put (cs := #[.int .i64 t166, .int .i64 t167, .int .i64 t168, .int .i64 t169, .int .i64 t170, .int .i64 t171, .int .i64 t172, .int .i64 0, .slice none 0 0]) ?_ 7 _ rfl; (with_reducible repeat (first | refine k_n ?_ _ | refine k_d ?_ | refine k_a ?_ _)); refine blk_put (cs := #[.int .i64 t166, .int .i64 t167, .int .i64 t168, .int .i64 t169, .int .i64 t170, .int .i64 t171, .int .i64 0, .int .i64 0, .slice none 0 0]) ?_ 6 _ rfl; (with_reducible repeat (first | refine k_n ?_ _ | refine k_d ?_ | refine k_a ?_ _)); refine blk_put (cs := #[.int .i64 t166, .int .i64 t167, .int .i64 t168, .int .i64 t169, .int .i64 t170, .int .i64 0, .int .i64 0, .int .i64 0, .slice none 0 0]) ?_ 5 _ rfl; (with_reducible repeat (first | refine k_n ?_ _ | refine k_d ?_ | refine k_a ?_ _)); refine blk_put (cs := #[.int .i64 t166, .int .i64 t167, .int .i64 t168, .int .i64 t169, .int .i64 0, .int .i64 0, .int .i64 0, .int .i64 0, .slice none 0 0]) ?_ 4 _ rfl; (with_reducible repeat (first | refine k_n ?_ _ | refine k_d ?_ | refine k_a ?_ _)); refine blk_put (cs := #[.int .i64 t166, .int .i64 t167, .int .i64 t168, .int .i64 0, .int .i64 0, .int .i64 0, .int .i64 0, .int .i64 0, .slice none 0 0]) ?_ 3 _ rfl; (with_reducible repeat (first | refine k_n ?_ _ | refine k_d ?_ | refine k_a ?_ _)); refine blk_put (cs := #[.int .i64 t166, .int .i64 t167, .int .i64 0, .int .i64 0, .int .i64 0, .int .i64 0, .int .i64 0, .int .i64 0, .slice none 0 0]) ?_ 2 _ rfl; (with_reducible repeat (first | refine k_n ?_ _ | refine k_d ?_ | refine k_a ?_ _)); refine blk_put (cs := #[.int .i64 t166, .int .i64 0, .int .i64 0, .int .i64 0, .int .i64 0, .int .i64 0, .int .i64 0, .int .i64 0, .slice none 0 0]) ?_ 1 _ rfl; (with_reducible repeat (first | refine k_n ?_ _ | refine k_d ?_ | refine k_a ?_ _)); refine blk_put (cs := #[.int .i64 0, .int .i64 0, .int .i64 0, .int .i64 0, .int .i64 0, .int .i64 0, .int .i64 0, .int .i64 0, .slice none 0 0]) ?_ 0 _ rfl; (with_reducible repeat (first | refine k_n ?_ _ | refine k_d ?_ | refine k_a ?_ _)); exact BK177.out⟩, ⟨by repeat (first | (with_reducible first | exact HB.out | apply b_a | apply b_n | apply b_d | refine b_s ?_ GE162.out | refine b_s ?_ GE177.out) | exact HB.out)⟩⟩
   case rest => as_aux_lemma =>
    clear HC20
    try clear c1
    try clear c2
    try clear p2
    try clear c3
    try clear c4
    try clear p6
    try clear c7
    try clear c8
    try clear c8b0
    try clear c8b1
    try clear c16
    try clear c24
    try clear c27
    try clear c27b0
    try clear c27b1
    try clear c28
    try clear c30
    try clear c30b0
    try clear c30b1
    try clear c31
    try clear c33
    try clear c33b0
    try clear c33b1
    try clear c34
    try clear c36
    try clear c36b0
    try clear c36b1
    try clear c37
    try clear c39
    try clear c39b0
    try clear c39b1
    try clear c40
    try clear c42
    try clear c42b0
    try clear c42b1
    try clear c43
    try clear c45
    try clear c45b0
    try clear c45b1
    try clear c46
    try clear hcz10_0
    try clear hcz10_1
    try clear hcz10_2
    try clear hcz10_3
    try clear hcz10_4
    try clear hcz10_5
    try clear hcz10_6
    try clear hcz10_7
    try clear hcz10_8
    try clear hcz13_0
    try clear hcz13_1
    try clear hcz13_2
    try clear hcz13_3
    try clear hcz13_4
    try clear hcz13_5
    try clear hcz13_6
    try clear hcz13_7
    try clear hcz13_8
    try clear hcz21_0
    try clear hcz21_1
    try clear hcz21_2
    try clear hcz21_3
    try clear hcz21_4
    try clear hcz21_5
    try clear hcz21_6
    try clear hcz21_7
    try clear hcz21_8
    try clear hcz25_0
    try clear hcz25_1
    try clear hcz25_2
    try clear hcz25_3
    try clear hcz25_4
    try clear hcz25_5
    try clear hcz25_6
    try clear hcz25_7
    try clear hcz25_8
    try clear hcz29_0
    try clear hcz29_1
    try clear hcz29_2
    try clear hcz29_3
    try clear hcz29_4
    try clear hcz29_5
    try clear hcz29_6
    try clear hcz29_7
    try clear hcz29_8
    try clear hcz32_0
    try clear hcz32_1
    try clear hcz32_2
    try clear hcz32_3
    try clear hcz32_4
    try clear hcz32_5
    try clear hcz32_6
    try clear hcz32_7
    try clear hcz32_8
    try clear hcz35_0
    try clear hcz35_1
    try clear hcz35_2
    try clear hcz35_3
    try clear hcz35_4
    try clear hcz35_5
    try clear hcz35_6
    try clear hcz35_7
    try clear hcz35_8
    try clear hcz38_0
    try clear hcz38_1
    try clear hcz38_2
    try clear hcz38_3
    try clear hcz38_4
    try clear hcz38_5
    try clear hcz38_6
    try clear hcz38_7
    try clear hcz38_8
    try clear hcz41_0
    try clear hcz41_1
    try clear hcz41_2
    try clear hcz41_3
    try clear hcz41_4
    try clear hcz41_5
    try clear hcz41_6
    try clear hcz41_7
    try clear hcz41_8
    try clear hcz44_0
    try clear hcz44_1
    try clear hcz44_2
    try clear hcz44_3
    try clear hcz44_4
    try clear hcz44_5
    try clear hcz44_6
    try clear hcz44_7
    try clear hcz44_8
    try clear hcz47_0
    try clear hcz47_1
    try clear hcz47_2
    try clear hcz47_3
    try clear hcz47_4
    try clear hcz47_5
    try clear hcz47_6
    try clear hcz47_7
    try clear hcz47_8
    try clear hfz10_0
    try clear hfz10_1
    try clear hfz10_2
    try clear hfz10_3
    try clear hfz10_4
    try clear hfz10_5
    try clear hfz10_6
    try clear hfz10_7
    try clear hfz10_8
    try clear hfz13_0
    try clear hfz13_1
    try clear hfz13_2
    try clear hfz13_3
    try clear hfz13_4
    try clear hfz13_5
    try clear hfz13_6
    try clear hfz13_7
    try clear hfz13_8
    try clear hfz21_0
    try clear hfz21_1
    try clear hfz21_2
    try clear hfz21_3
    try clear hfz21_4
    try clear hfz21_5
    try clear hfz21_6
    try clear hfz21_7
    try clear hfz21_8
    try clear hfz25_0
    try clear hfz25_1
    try clear hfz25_2
    try clear hfz25_3
    try clear hfz25_4
    try clear hfz25_5
    try clear hfz25_6
    try clear hfz25_7
    try clear hfz25_8
    try clear hfz29_0
    try clear hfz29_1
    try clear hfz29_2
    try clear hfz29_3
    try clear hfz29_4
    try clear hfz29_5
    try clear hfz29_6
    try clear hfz29_7
    try clear hfz29_8
    try clear hfz32_0
    try clear hfz32_1
    try clear hfz32_2
    try clear hfz32_3
    try clear hfz32_4
    try clear hfz32_5
    try clear hfz32_6
    try clear hfz32_7
    try clear hfz32_8
    try clear hfz35_0
    try clear hfz35_1
    try clear hfz35_2
    try clear hfz35_3
    try clear hfz35_4
    try clear hfz35_5
    try clear hfz35_6
    try clear hfz35_7
    try clear hfz35_8
    try clear hfz38_0
    try clear hfz38_1
    try clear hfz38_2
    try clear hfz38_3
    try clear hfz38_4
    try clear hfz38_5
    try clear hfz38_6
    try clear hfz38_7
    try clear hfz38_8
    try clear hfz41_0
    try clear hfz41_1
    try clear hfz41_2
    try clear hfz41_3
    try clear hfz41_4
    try clear hfz41_5
    try clear hfz41_6
    try clear hfz41_7
    try clear hfz41_8
    try clear hfz44_0
    try clear hfz44_1
    try clear hfz44_2
    try clear hfz44_3
    try clear hfz44_4
    try clear hfz44_5
    try clear hfz44_6
    try clear hfz44_7
    try clear hfz44_8
    try clear hfz47_0
    try clear hfz47_1
    try clear hfz47_2
    try clear hfz47_3
    try clear hfz47_4
    try clear hfz47_5
    try clear hfz47_6
    try clear hfz47_7
    try clear hfz47_8
    try clear p2
    obtain ⟨kq, x178001_19, x178002_19, x178003_19, x178004_19, x178005_19, x178006_19, x178007_19, HA, HJ19, HO_178008, BK162, BK177, HB⟩ := hcut
    cases kq with
    | zero => exact absurd HA.out (by simp [pelotonlaw15_MsgForms.j1])
    | succ kj19 =>
     have H := HA.out
     clear HA
     simp only [pelotonlaw15_MsgForms.j1] at H
     replace H := Option.bind_eq_some_iff.mp H
     obtain ⟨t178, A480, H⟩ := H
     replace H : (pelotonlaw15_MsgForms.l0 kj19 a2 (⟨#[101, 114, 112, 108, 115, 116, 107]⟩ : ByteArray) (Int.tmod (wrap64 ((Int.tmod a1 7) + 7)) 7) false t178 0 t166 x178001_19 x178002_19 x178003_19 x178004_19 x178005_19 x178006_19 x178007_19 t174) = some r := H
     have A48 := Aside0.mk A480
     clear A480
     have H' := Aside0.mk H
     clear H
     have hnb49 := NB162_177.out
     have hnc49 := NB177_162.out
     have hcz50_0 := bc_0 BK162
     have hcz50_1 := bc_1 BK162
     have hcz50_2 := bc_2 BK162
     have hcz50_3 := bc_3 BK162
     have hcz50_4 := bc_4 BK162
     have hcz50_5 := bc_5 BK162
     have hcz50_6 := bc_6 BK162
     have hcz50_7 := bc_7 BK162
     have hcz50_8 : wc.cell? ⟨gb162, 8, none⟩ = some (.slice A0_8 l0_8.length c0_8) := (blk_cell BK162.out 8).trans rfl
     have hfz50_0 := blk_frozen BK162.out 0
     have hfz50_1 := blk_frozen BK162.out 1
     have hfz50_2 := blk_frozen BK162.out 2
     have hfz50_3 := blk_frozen BK162.out 3
     have hfz50_4 := blk_frozen BK162.out 4
     have hfz50_5 := blk_frozen BK162.out 5
     have hfz50_6 := blk_frozen BK162.out 6
     have hfz50_7 := blk_frozen BK162.out 7
     have hfz50_8 := blk_frozen BK162.out 8
     go_wp2_with (first | (go_at_call 10; (with_reducible refine (pelotonref15_Form.calls kj19 a0_0 t178 _ A48.out).mono ?_); rintro e w' ⟨rfl, ⟨nd, rfl⟩⟩; (try first | exact ⟨rfl, _, World.drewN_drewN _ _ _⟩ | exact ⟨rfl, _, Eq.trans (World.drewN_drewN _ _ _) (congrArg (World.drewN _) (Nat.add_assoc _ _ _))⟩)))
     repeat (go_quiet (first | (go_at_call 10; (with_reducible refine (pelotonref15_Form.calls kj19 a0_0 t178 _ A48.out).mono ?_); rintro e w' ⟨rfl, ⟨nd, rfl⟩⟩; (try first | exact ⟨rfl, _, World.drewN_drewN _ _ _⟩ | exact ⟨rfl, _, Eq.trans (World.drewN_drewN _ _ _) (congrArg (World.drewN _) (Nat.add_assoc _ _ _))⟩))); try go_wp2_with (first | (go_at_call 10; (with_reducible refine (pelotonref15_Form.calls kj19 a0_0 t178 _ A48.out).mono ?_); rintro e w' ⟨rfl, ⟨nd, rfl⟩⟩; (try first | exact ⟨rfl, _, World.drewN_drewN _ _ _⟩ | exact ⟨rfl, _, Eq.trans (World.drewN_drewN _ _ _) (congrArg (World.drewN _) (Nat.add_assoc _ _ _))⟩))))
     go_loopg [10, 12] kj19 (fun kq v10 v12 w' => ∃ (x10_3 : Bool) (x12_3 : Int), v10 = .bool x10_3 ∧ v12 = .int .i64 x12_3 ∧ Aside0 (pelotonlaw15_MsgForms.l0 kq a2 (⟨#[101, 114, 112, 108, 115, 116, 107]⟩ : ByteArray) (Int.tmod (wrap64 ((Int.tmod a1 7) + 7)) 7) x10_3 t178 x12_3 t166 x178001_19 x178002_19 x178003_19 x178004_19 x178005_19 x178006_19 x178007_19 t174 = some r) ∧ Aside0 (kq ≤ kj19) ∧ Aside0 (Kd.R (Kd.int .i32) 21 w' w.heap.size (fun _ => True) (.slice Ao26 t174.length co26) t174) ∧ Aside0 (w'.heap[gb162]? = some (.cells #[.int .i64 a0_0, .int .i64 a0_1, .int .i64 a0_2, .int .i64 a0_3, .int .i64 a0_4, .int .i64 a0_5, .int .i64 a0_6, .int .i64 a0_7, (.slice A0_8 l0_8.length c0_8)] 24 (0, 0))) ∧ Aside0 (w'.heap[gb177]? = some (.cells #[.int .i64 t166, .int .i64 x178001_19, .int .i64 x178002_19, .int .i64 x178003_19, .int .i64 x178004_19, .int .i64 x178005_19, .int .i64 x178006_19, .int .i64 x178007_19, (.slice Ao26 t174.length co26)] 24 (0, 0))) ∧ Aside0 (Below w.heap.size w w'))
     case atStart => exact ⟨(false), (0), (by first | rfl | (simp; done) | (simp [*]; done)), (by first | rfl | (simp; done) | (simp [*]; done)), H', ⟨Nat.le_refl _⟩, ⟨tR_ HO_178008⟩, ⟨tk_ BK162⟩, ⟨tk_ BK177⟩, ⟨by repeat (first | (with_reducible first | exact HB.out | apply b_a | apply b_n | apply b_d | refine b_s ?_ GE162.out | refine b_s ?_ GE177.out) | exact HB.out)⟩⟩
     case round =>
      clear H'
      try clear c1
      try clear c2
      try clear p2
      try clear c3
      try clear c4
      try clear p6
      try clear c7
      try clear c8
      try clear c8b0
      try clear c8b1
      try clear c16
      try clear c24
      try clear c27
      try clear c27b0
      try clear c27b1
      try clear c28
      try clear c30
      try clear c30b0
      try clear c30b1
      try clear c31
      try clear c33
      try clear c33b0
      try clear c33b1
      try clear c34
      try clear c36
      try clear c36b0
      try clear c36b1
      try clear c37
      try clear c39
      try clear c39b0
      try clear c39b1
      try clear c40
      try clear c42
      try clear c42b0
      try clear c42b1
      try clear c43
      try clear c45
      try clear c45b0
      try clear c45b1
      try clear c46
      try clear c49
      try clear hcz10_0
      try clear hcz10_1
      try clear hcz10_2
      try clear hcz10_3
      try clear hcz10_4
      try clear hcz10_5
      try clear hcz10_6
      try clear hcz10_7
      try clear hcz10_8
      try clear hcz13_0
      try clear hcz13_1
      try clear hcz13_2
      try clear hcz13_3
      try clear hcz13_4
      try clear hcz13_5
      try clear hcz13_6
      try clear hcz13_7
      try clear hcz13_8
      try clear hcz21_0
      try clear hcz21_1
      try clear hcz21_2
      try clear hcz21_3
      try clear hcz21_4
      try clear hcz21_5
      try clear hcz21_6
      try clear hcz21_7
      try clear hcz21_8
      try clear hcz25_0
      try clear hcz25_1
      try clear hcz25_2
      try clear hcz25_3
      try clear hcz25_4
      try clear hcz25_5
      try clear hcz25_6
      try clear hcz25_7
      try clear hcz25_8
      try clear hcz29_0
      try clear hcz29_1
      try clear hcz29_2
      try clear hcz29_3
      try clear hcz29_4
      try clear hcz29_5
      try clear hcz29_6
      try clear hcz29_7
      try clear hcz29_8
      try clear hcz32_0
      try clear hcz32_1
      try clear hcz32_2
      try clear hcz32_3
      try clear hcz32_4
      try clear hcz32_5
      try clear hcz32_6
      try clear hcz32_7
      try clear hcz32_8
      try clear hcz35_0
      try clear hcz35_1
      try clear hcz35_2
      try clear hcz35_3
      try clear hcz35_4
      try clear hcz35_5
      try clear hcz35_6
      try clear hcz35_7
      try clear hcz35_8
      try clear hcz38_0
      try clear hcz38_1
      try clear hcz38_2
      try clear hcz38_3
      try clear hcz38_4
      try clear hcz38_5
      try clear hcz38_6
      try clear hcz38_7
      try clear hcz38_8
      try clear hcz41_0
      try clear hcz41_1
      try clear hcz41_2
      try clear hcz41_3
      try clear hcz41_4
      try clear hcz41_5
      try clear hcz41_6
      try clear hcz41_7
      try clear hcz41_8
      try clear hcz44_0
      try clear hcz44_1
      try clear hcz44_2
      try clear hcz44_3
      try clear hcz44_4
      try clear hcz44_5
      try clear hcz44_6
      try clear hcz44_7
      try clear hcz44_8
      try clear hcz47_0
      try clear hcz47_1
      try clear hcz47_2
      try clear hcz47_3
      try clear hcz47_4
      try clear hcz47_5
      try clear hcz47_6
      try clear hcz47_7
      try clear hcz47_8
      try clear hcz50_0
      try clear hcz50_1
      try clear hcz50_2
      try clear hcz50_3
      try clear hcz50_4
      try clear hcz50_5
      try clear hcz50_6
      try clear hcz50_7
      try clear hcz50_8
      try clear hfz10_0
      try clear hfz10_1
      try clear hfz10_2
      try clear hfz10_3
      try clear hfz10_4
      try clear hfz10_5
      try clear hfz10_6
      try clear hfz10_7
      try clear hfz10_8
      try clear hfz13_0
      try clear hfz13_1
      try clear hfz13_2
      try clear hfz13_3
      try clear hfz13_4
      try clear hfz13_5
      try clear hfz13_6
      try clear hfz13_7
      try clear hfz13_8
      try clear hfz21_0
      try clear hfz21_1
      try clear hfz21_2
      try clear hfz21_3
      try clear hfz21_4
      try clear hfz21_5
      try clear hfz21_6
      try clear hfz21_7
      try clear hfz21_8
      try clear hfz25_0
      try clear hfz25_1
      try clear hfz25_2
      try clear hfz25_3
      try clear hfz25_4
      try clear hfz25_5
      try clear hfz25_6
      try clear hfz25_7
      try clear hfz25_8
      try clear hfz29_0
      try clear hfz29_1
      try clear hfz29_2
      try clear hfz29_3
      try clear hfz29_4
      try clear hfz29_5
      try clear hfz29_6
      try clear hfz29_7
      try clear hfz29_8
      try clear hfz32_0
      try clear hfz32_1
      try clear hfz32_2
      try clear hfz32_3
      try clear hfz32_4
      try clear hfz32_5
      try clear hfz32_6
      try clear hfz32_7
      try clear hfz32_8
      try clear hfz35_0
      try clear hfz35_1
      try clear hfz35_2
      try clear hfz35_3
      try clear hfz35_4
      try clear hfz35_5
      try clear hfz35_6
      try clear hfz35_7
      try clear hfz35_8
      try clear hfz38_0
      try clear hfz38_1
      try clear hfz38_2
      try clear hfz38_3
      try clear hfz38_4
      try clear hfz38_5
      try clear hfz38_6
      try clear hfz38_7
      try clear hfz38_8
      try clear hfz41_0
      try clear hfz41_1
      try clear hfz41_2
      try clear hfz41_3
      try clear hfz41_4
      try clear hfz41_5
      try clear hfz41_6
      try clear hfz41_7
      try clear hfz41_8
      try clear hfz44_0
      try clear hfz44_1
      try clear hfz44_2
      try clear hfz44_3
      try clear hfz44_4
      try clear hfz44_5
      try clear hfz44_6
      try clear hfz44_7
      try clear hfz44_8
      try clear hfz47_0
      try clear hfz47_1
      try clear hfz47_2
      try clear hfz47_3
      try clear hfz47_4
      try clear hfz47_5
      try clear hfz47_6
      try clear hfz47_7
      try clear hfz47_8
      try clear hfz50_0
      try clear hfz50_1
      try clear hfz50_2
      try clear hfz50_3
      try clear hfz50_4
      try clear hfz50_5
      try clear hfz50_6
      try clear hfz50_7
      try clear hfz50_8
      try clear p2
      try clear p6
      obtain ⟨x10_3, x12_3, rfl, rfl, HA, HK3, HO_178008, BK162, BK177, HB⟩ := hrel
      cases gk with
      | zero => exact absurd HA.out (by simp [pelotonlaw15_MsgForms.l0])
      | succ k3 =>
       have H := HA.out
       clear HA
       simp only [pelotonlaw15_MsgForms.l0] at H
       by_cases c51 : x12_3 < (t178.size : Int)
       ·
        rw [if_pos c51] at H
        have c51b0 : decide (x12_3 < (t178.size : Int)) = true := decide_eq_true c51
        clear c51
        by_cases c52 : x10_3 = true
        ·
         subst c52
         have H1 : (pelotonlaw15_MsgForms.l0 k3 a2 (⟨#[101, 114, 112, 108, 115, 116, 107]⟩ : ByteArray) (Int.tmod (wrap64 ((Int.tmod a1 7) + 7)) 7) true t178 (wrap64 (x12_3 + 1)) t166 x178001_19 x178002_19 x178003_19 x178004_19 x178005_19 x178006_19 x178007_19 t174) = some r := by rw [if_pos rfl] at H; exact H
         clear H
         have H := H1
         clear H1
         have H' := Aside0.mk H
         clear H
         go_wp2_with (first | ((with_reducible refine gate_store_ rfl ?_); refine st1_ rfl rfl rfl rfl rfl (by with_reducible assumption) (by simp) (by kernel_rfl) ?_))
         repeat (go_quiet (fail); try go_wp2)
         go_roundg k3
         case measure => have := HJ3.out; have := HJ19.out; have := HK3.out; omega
         case rel => exact ⟨(true), (wrap64 (x12_3 + 1)), (by first | rfl | (simp; done) | (simp [*]; done)), (by first | rfl | (simp; done) | (simp [*]; done)), H', ⟨by have := HJ3.out; have := HJ19.out; have := HK3.out; omega⟩, ⟨tR_ HO_178008⟩, ⟨tk_ BK162⟩, ⟨tk_ BK177⟩, ⟨by repeat (first | (with_reducible first | exact HB.out | apply b_a | apply b_n | apply b_d | refine b_s ?_ GE162.out | refine b_s ?_ GE177.out) | exact HB.out)⟩⟩
        replace c52 := Bool.eq_false_iff.mpr c52
        subst c52
        have H1 : (if 0 ≤ x12_3 then (if 0 ≤ (Int.tmod (wrap64 ((Int.tmod a1 7) + 7)) 7) then (if (Int.tmod (wrap64 ((Int.tmod a1 7) + 7)) 7) < ((⟨#[101, 114, 112, 108, 115, 116, 107]⟩ : ByteArray).size : Int) then (pelotonlaw15_MsgForms.l0 k3 a2 (⟨#[101, 114, 112, 108, 115, 116, 107]⟩ : ByteArray) (Int.tmod (wrap64 ((Int.tmod a1 7) + 7)) 7) ((bt t178 x12_3) == (bt (⟨#[101, 114, 112, 108, 115, 116, 107]⟩ : ByteArray) (Int.tmod (wrap64 ((Int.tmod a1 7) + 7)) 7))) t178 (wrap64 (x12_3 + 1)) t166 x178001_19 x178002_19 x178003_19 x178004_19 x178005_19 x178006_19 x178007_19 t174) else (none)) else (none)) else (none)) = some r := by rw [if_neg (show ¬ (false = true) by decide)] at H; exact H
        clear H
        have H := H1
        clear H1
        by_cases c53 : 0 ≤ x12_3
        rotate_left
        ·
         rw [if_neg c53] at H
         exact absurd H (by simp)
        rw [if_pos c53] at H
        have c53b0 : decide (0 ≤ x12_3) = true := decide_eq_true c53
        clear c53
        obtain ⟨ji55, hji55⟩ : ∃ j_ : Int, (Int.tmod (wrap64 ((Int.tmod a1 7) + 7)) 7) = j_ := ⟨_, rfl⟩
        replace H : (if 0 ≤ (ji55) then (if (ji55) < ((⟨#[101, 114, 112, 108, 115, 116, 107]⟩ : ByteArray).size : Int) then (pelotonlaw15_MsgForms.l0 k3 a2 (⟨#[101, 114, 112, 108, 115, 116, 107]⟩ : ByteArray) (ji55) ((bt t178 x12_3) == (bt (⟨#[101, 114, 112, 108, 115, 116, 107]⟩ : ByteArray) (ji55))) t178 (wrap64 (x12_3 + 1)) t166 x178001_19 x178002_19 x178003_19 x178004_19 x178005_19 x178006_19 x178007_19 t174) else (none)) else (none)) = some r := by first | (rw [hji55] at H; exact H) | (simp only [hji55] at H ⊢; exact H)
        by_cases c56 : 0 ≤ (ji55)
        rotate_left
        ·
         rw [if_neg c56] at H
         exact absurd H (by simp)
        rw [if_pos c56] at H
        have c56b0 : decide (0 ≤ (ji55)) = true := decide_eq_true c56
        clear c56
        by_cases c57 : (ji55) < ((⟨#[101, 114, 112, 108, 115, 116, 107]⟩ : ByteArray).size : Int)
        rotate_left
        ·
         rw [if_neg c57] at H
         exact absurd H (by simp)
        rw [if_pos c57] at H
        have c57b0 : decide ((ji55) < ((⟨#[101, 114, 112, 108, 115, 116, 107]⟩ : ByteArray).size : Int)) = true := decide_eq_true c57
        have c57b0n : decide ((ji55) < (7 : Int)) = true := decide_eq_true (show (ji55) < (7 : Int) from of_decide_eq_true c57b0)
        clear c57
        have H' := Aside0.mk H
        clear H
        have p54 : 0 ≤ (x12_3 : Int) := of_decide_eq_true (by first | (with_reducible assumption) | assumption)
        have q54 : x12_3 < (t178.size : Int) := of_decide_eq_true (by first | (with_reducible assumption) | assumption)
        have hx54 := bt_at t178 x12_3
        replace p54 := eq_true p54
        replace q54 := eq_true q54
        have p58 : 0 ≤ ((ji55) : Int) := of_decide_eq_true (by first | (with_reducible assumption) | assumption)
        have q58 : (ji55) < (7 : Int) := of_decide_eq_true (by first | (with_reducible assumption) | assumption)
        have hx58 := bt_at (⟨#[101, 114, 112, 108, 115, 116, 107]⟩ : ByteArray) (ji55)
        replace p58 := eq_true p58
        replace q58 := eq_true q58
        go_wp2_with (first | ((with_reducible refine gate_store_ rfl ?_); refine st1_ rfl rfl rfl rfl rfl (by with_reducible assumption) (by simp) (by kernel_rfl) ?_))
        repeat (go_quiet (fail); try go_wp2)
        go_roundg k3
        case measure => have := HJ3.out; have := HJ19.out; have := HK3.out; omega
        case rel => exact ⟨(((bt t178 x12_3) == (bt (⟨#[101, 114, 112, 108, 115, 116, 107]⟩ : ByteArray) (ji55)))), (wrap64 (x12_3 + 1)), (by first | rfl | (simp; done) | (simp only [← hji55] <;> (first | rfl | simp)) | (simp [*]; done)), (by first | rfl | (simp; done) | (simp [*]; done)), (by first | exact H' | (have h_ := H'.out; simp only [← hji55] at h_; exact ⟨h_⟩) | exact ⟨by (first | rw [hji55] | simp only [hji55]); exact H'.out⟩), ⟨by have := HJ3.out; have := HJ19.out; have := HK3.out; omega⟩, ⟨tR_ HO_178008⟩, ⟨tk_ BK162⟩, ⟨tk_ BK177⟩, ⟨by repeat (first | (with_reducible first | exact HB.out | apply b_a | apply b_n | apply b_d | refine b_s ?_ GE162.out | refine b_s ?_ GE177.out) | exact HB.out)⟩⟩
       rw [if_neg c51] at H
       have c51b0 : decide (x12_3 < (t178.size : Int)) = false := decide_eq_false c51
       clear c51
       by_cases c59 : a2 = 0
       ·
        rw [if_pos c59] at H
        have c59b0 : (a2 == 0) = true := beq_iff_eq.mpr c59
        have c59b1 : (a2 != 0) = false := bne_eq_false_iff_eq.mpr c59
        clear c59
        replace H := Option.bind_eq_some_iff.mp H
        obtain ⟨⟨t179, t182⟩, A600, H⟩ := H
        replace H : ((msg_Right.f k3 (([(⟨t166, x178001_19, x178002_19, x178003_19, x178004_19, x178005_19, x178006_19, x178007_19, t174⟩ : S24)] : List (S24)))).bind fun t186 => (if (t186 == true) = true then (some ((t182 == 0) == true)) else (some false))) = some r := H
        have A60 := Aside0.mk A600
        clear A600
        obtain ⟨y183, hy183⟩ : ∃ y_ : List (S24), y_ = (([(⟨t166, x178001_19, x178002_19, x178003_19, x178004_19, x178005_19, x178006_19, x178007_19, t174⟩ : S24)] : List (S24))) := ⟨_, rfl⟩
        replace H : ((msg_Right.f k3 y183).bind fun t186 => (if (t186 == true) = true then (some ((t182 == 0) == true)) else (some false))) = some r := by first | (rw [hy183]; with_reducible exact H) | (have H2_ := (Option.bind_some _ _).symm.trans H; rw [hy183]; with_reducible exact H2_) | (have H2_ := (Option.bind_some _ _).symm.trans H; with_reducible exact H2_) | with_reducible exact H | (rw [hy183]; exact H) | exact H
        have Ny183 := Aside0.mk hy183
        clear hy183
        replace H := Option.bind_eq_some_iff.mp H
        obtain ⟨t186, A610, H⟩ := H
        replace H : (if (t186 == true) = true then (some ((t182 == 0) == true)) else (some false)) = some r := H
        have A61 := Aside0.mk A610
        clear A610
        by_cases c62 : (t186 == true) = true
        ·
         rw [if_pos c62] at H
         have c62b0 : (t186 == true) = true := c62
         (try (have c62b1 : decide (t186 = true) = true := by simpa using c62))
         (try (have c62b2 : (t186 == true) = true := by simpa using c62))
         clear c62
         obtain rfl := Option.some.inj H
         have hnb63 := NB177_162.out
         have hnc63 := NB162_177.out
         have hcz64_0 := bc_0 BK177
         have hcz64_1 := bc_1 BK177
         have hcz64_2 := bc_2 BK177
         have hcz64_3 := bc_3 BK177
         have hcz64_4 := bc_4 BK177
         have hcz64_5 := bc_5 BK177
         have hcz64_6 := bc_6 BK177
         have hcz64_7 := bc_7 BK177
         have hcz64_8 : wr.cell? ⟨gb177, 8, none⟩ = some (.slice Ao26 t174.length co26) := (blk_cell BK177.out 8).trans rfl
         have hfz64_0 := blk_frozen BK177.out 0
         have hfz64_1 := blk_frozen BK177.out 1
         have hfz64_2 := blk_frozen BK177.out 2
         have hfz64_3 := blk_frozen BK177.out 3
         have hfz64_4 := blk_frozen BK177.out 4
         have hfz64_5 := blk_frozen BK177.out 5
         have hfz64_6 := blk_frozen BK177.out 6
         have hfz64_7 := blk_frozen BK177.out 7
         have hfz64_8 := blk_frozen BK177.out 8
         go_wp2_with (first | (go_at_call 11; (with_reducible refine (msg_Bytes.calls t166 x178001_19 x178002_19 x178003_19 x178004_19 x178005_19 x178006_19 x178007_19 _ _ t174 t179 t182 _ ?side1 ?side2 A60.out).mono ?_); (case side1 => repeat (first | exact (Kd.R_reads' HO_178008.out).2.2 | (with_reducible refine Kd.C_alloc ?_ _) | (with_reducible refine Kd.C_drewN ?_ _) | (with_reducible refine Kd.C_drew ?_))); (case side2 => exact (Kd.R_reads' HO_178008.out).2.1); rintro e w65 ⟨v180, rfl, ho0, hb⟩; (try clear A60); have HO181 := Aside0.mk (Kd.R_lower ho0 (below_size (bw_ HB))); replace HO_178008 := Aside0.mk (Kd.R_below (tR_ HO_178008) hb); replace BK162 := Aside0.mk (blk_below (tk_ BK162) hb); replace BK177 := Aside0.mk (blk_below (tk_ BK177) hb); replace HB := Aside0.mk (below_step (bw_ HB) hb); (try clear hb); (try clear hb2); (try clear hk); (try clear hi); (try clear ho0); have hcz66_0 := bc_0 BK177; have hcz66_1 := bc_1 BK177; have hcz66_2 := bc_2 BK177; have hcz66_3 := bc_3 BK177; have hcz66_4 := bc_4 BK177; have hcz66_5 := bc_5 BK177; have hcz66_6 := bc_6 BK177; have hcz66_7 := bc_7 BK177; have hcz66_8 : w65.cell? ⟨gb177, 8, none⟩ = some (.slice Ao26 t174.length co26) := (blk_cell BK177.out 8).trans rfl; have hfz66_0 := blk_frozen BK177.out 0; have hfz66_1 := blk_frozen BK177.out 1; have hfz66_2 := blk_frozen BK177.out 2; have hfz66_3 := blk_frozen BK177.out 3; have hfz66_4 := blk_frozen BK177.out 4; have hfz66_5 := blk_frozen BK177.out 5; have hfz66_6 := blk_frozen BK177.out 6; have hfz66_7 := blk_frozen BK177.out 7; have hfz66_8 := blk_frozen BK177.out 8; (first | ((with_reducible refine gate_store_ rfl ?_); refine st9_ rfl rfl rfl rfl rfl (by with_reducible assumption) (by kernel_rfl) (by simp [Value.oneCell']) ?_; clear hcz66_0 hfz66_0 hcz66_1 hfz66_1 hcz66_2 hfz66_2 hcz66_3 hfz66_3 hcz66_4 hfz66_4 hcz66_5 hfz66_5 hcz66_6 hfz66_6 hcz66_7 hfz66_7 hcz66_8 hfz66_8; intro hb9_; have BN66 := Aside0.mk hb9_; clear hb9_) | skip)) | ((with_reducible refine gate_dst (N := 103) rfl ?_); (try (refine gate_guard (by rfl) ?_; dsimp only)); refine Kd.N_lit k24 _ 24 ?hg (N' := 103) ?hd (xs := ([(⟨t166, x178001_19, x178002_19, x178003_19, x178004_19, x178005_19, x178006_19, x178007_19, t174⟩ : S24)] : List (S24))) (inner := [.int .i64 t166, .int .i64 x178001_19, .int .i64 x178002_19, .int .i64 x178003_19, .int .i64 x178004_19, .int .i64 x178005_19, .int .i64 x178006_19, .int .i64 x178007_19, .slice Ao26 t174.length co26]) (ok := (fun k_ => some k_ ≠ (v180 : Value).ownBlock ∧ k_ ≠ gb162 ∧ k_ ≠ gb177)) (okp := (fun k_ => some k_ ≠ (v180 : Value).ownBlock ∧ k_ ≠ gb162 ∧ k_ ≠ gb177)) ?hr ?hp (fun _ hk => hk) ((show ∀ k_, (_ : Nat) ≤ k_ → (fun k_ => some k_ ≠ (v180 : Value).ownBlock ∧ k_ ≠ gb162 ∧ k_ ≠ gb177) k_ from fun k_ hk => ⟨Kd.fresh' (Kd.R_lt (tR_ HO181)) k_ hk, Kd.freshB (tk_ BK162) k_ hk, Kd.freshB (tk_ BK177) k_ hk⟩) _ (Nat.le_refl _)) (Below.refl _ _) (Nat.le_refl _) (by simp) ?_; (case hd => rfl); (case hg => rfl); (case hr => exact bld9_ ((.int .i64 0)) ((.int .i64 0)) ((.int .i64 0)) ((.int .i64 0)) ((.int .i64 0)) ((.int .i64 0)) ((.int .i64 0)) ((.int .i64 0)) ((.slice none 0 0)) rfl rfl); (case hp => exact (Reps.c9 (show Kd.FK k24 _ _ (⟨t166, x178001_19, x178002_19, x178003_19, x178004_19, x178005_19, x178006_19, x178007_19, t174⟩ : S24) [.int .i64 t166, .int .i64 x178001_19, .int .i64 x178002_19, .int .i64 x178003_19, .int .i64 x178004_19, .int .i64 x178005_19, .int .i64 x178006_19, .int .i64 x178007_19, .slice Ao26 t174.length co26] from (k24_mkF _ _ (⟨t166, x178001_19, x178002_19, x178003_19, x178004_19, x178005_19, x178006_19, x178007_19, t174⟩ : S24) (Kd.R_reads' (Kd.R_mono (ok' := (fun k_ => some k_ ≠ (v180 : Value).ownBlock ∧ k_ ≠ gb162 ∧ k_ ≠ gb177)) (Kd.R_types (Kd.R_types (Kd.R_apart' (HO_178008.out) (Kd.R_typed HO181.out) (by decide)) BK162.out (by decide)) BK177.out (by decide)) (fun k_ hk => ⟨hk.1.1.2, ⟨hk.1.2, hk.2⟩⟩))).2.1 (Kd.R_F (Kd.R_mono (ok' := (fun k_ => some k_ ≠ (v180 : Value).ownBlock ∧ k_ ≠ gb162 ∧ k_ ≠ gb177)) (Kd.R_types (Kd.R_types (Kd.R_apart' (HO_178008.out) (Kd.R_typed HO181.out) (by decide)) BK162.out (by decide)) BK177.out (by decide)) (fun k_ hk => ⟨hk.1.1.2, ⟨hk.1.2, hk.2⟩⟩))))) (Reps.none _ _))); intro v184 w67 ho68 hb hg_ hnew_; clear hg_ hnew_; (first | rw [← Ny183.out] at ho68 | (simp only [Int.reduceToNat] at ho68; rw [← Ny183.out] at ho68)); have n0_ := Aside0.mk (Kd.R_below (tR_ HO181) hb); have n1_ := Aside0.mk (Kd.N_lower ho68 (below_size (bw_ HB))); have n2_ := Aside0.mk (blk_below (tk_ BK162) hb); have n3_ := Aside0.mk (blk_below (tk_ BK177) hb); have n4_ := Aside0.mk (below_step (bw_ HB) hb); clear HO181; clear BK162; clear BK177; clear HB; clear HO_178008; have HO181 := n0_; have HO185 := n1_; have BK162 := n2_; have BK177 := n3_; have HB := n4_; clear n0_ n1_ n2_ n3_ n4_; clear hb ho68; obtain ⟨Ao69, co69, eo69⟩ := Kd.N_slice HO185.out; subst eo69) | (go_at_call 12; (with_reducible refine (msg_Right.calls k3 _ _ y183 t186 _ ?side1 ?side2 A61.out).mono ?_); (case side1 => repeat (first | exact (Kd.N_reads' HO185.out).2.2 | (with_reducible refine Kd.C_alloc ?_ _) | (with_reducible refine Kd.C_drewN ?_ _) | (with_reducible refine Kd.C_drew ?_))); (case side2 => exact (Kd.N_reads' HO185.out).2.1); rintro e w70 ⟨rfl, hb⟩; (try clear A61); replace HO181 := Aside0.mk (Kd.R_below (tR_ HO181) hb); replace HO185 := Aside0.mk (Kd.N_below (tN_ HO185) hb); replace BK162 := Aside0.mk (blk_below (tk_ BK162) hb); replace BK177 := Aside0.mk (blk_below (tk_ BK177) hb); replace HB := Aside0.mk (below_step (bw_ HB) hb); (try clear hb); (try clear hb2); (try clear hk); (try clear hi)))
         repeat (go_quiet (first | (go_at_call 11; (with_reducible refine (msg_Bytes.calls t166 x178001_19 x178002_19 x178003_19 x178004_19 x178005_19 x178006_19 x178007_19 _ _ t174 t179 t182 _ ?side1 ?side2 A60.out).mono ?_); (case side1 => repeat (first | exact (Kd.R_reads' HO_178008.out).2.2 | (with_reducible refine Kd.C_alloc ?_ _) | (with_reducible refine Kd.C_drewN ?_ _) | (with_reducible refine Kd.C_drew ?_))); (case side2 => exact (Kd.R_reads' HO_178008.out).2.1); rintro e w65 ⟨v180, rfl, ho0, hb⟩; (try clear A60); have HO181 := Aside0.mk (Kd.R_lower ho0 (below_size (bw_ HB))); replace HO_178008 := Aside0.mk (Kd.R_below (tR_ HO_178008) hb); replace BK162 := Aside0.mk (blk_below (tk_ BK162) hb); replace BK177 := Aside0.mk (blk_below (tk_ BK177) hb); replace HB := Aside0.mk (below_step (bw_ HB) hb); (try clear hb); (try clear hb2); (try clear hk); (try clear hi); (try clear ho0); have hcz66_0 := bc_0 BK177; have hcz66_1 := bc_1 BK177; have hcz66_2 := bc_2 BK177; have hcz66_3 := bc_3 BK177; have hcz66_4 := bc_4 BK177; have hcz66_5 := bc_5 BK177; have hcz66_6 := bc_6 BK177; have hcz66_7 := bc_7 BK177; have hcz66_8 : w65.cell? ⟨gb177, 8, none⟩ = some (.slice Ao26 t174.length co26) := (blk_cell BK177.out 8).trans rfl; have hfz66_0 := blk_frozen BK177.out 0; have hfz66_1 := blk_frozen BK177.out 1; have hfz66_2 := blk_frozen BK177.out 2; have hfz66_3 := blk_frozen BK177.out 3; have hfz66_4 := blk_frozen BK177.out 4; have hfz66_5 := blk_frozen BK177.out 5; have hfz66_6 := blk_frozen BK177.out 6; have hfz66_7 := blk_frozen BK177.out 7; have hfz66_8 := blk_frozen BK177.out 8) | ((with_reducible refine gate_dst (N := 103) rfl ?_); (try (refine gate_guard (by rfl) ?_; dsimp only)); refine Kd.N_lit k24 _ 24 ?hg (N' := 103) ?hd (xs := ([(⟨t166, x178001_19, x178002_19, x178003_19, x178004_19, x178005_19, x178006_19, x178007_19, t174⟩ : S24)] : List (S24))) (inner := [.int .i64 t166, .int .i64 x178001_19, .int .i64 x178002_19, .int .i64 x178003_19, .int .i64 x178004_19, .int .i64 x178005_19, .int .i64 x178006_19, .int .i64 x178007_19, .slice Ao26 t174.length co26]) (ok := (fun k_ => some k_ ≠ (v180 : Value).ownBlock ∧ k_ ≠ gb162 ∧ k_ ≠ gb177)) (okp := (fun k_ => some k_ ≠ (v180 : Value).ownBlock ∧ k_ ≠ gb162 ∧ k_ ≠ gb177)) ?hr ?hp (fun _ hk => hk) ((show ∀ k_, (_ : Nat) ≤ k_ → (fun k_ => some k_ ≠ (v180 : Value).ownBlock ∧ k_ ≠ gb162 ∧ k_ ≠ gb177) k_ from fun k_ hk => ⟨Kd.fresh' (Kd.R_lt (tR_ HO181)) k_ hk, Kd.freshB (tk_ BK162) k_ hk, Kd.freshB (tk_ BK177) k_ hk⟩) _ (Nat.le_refl _)) (Below.refl _ _) (Nat.le_refl _) (by simp) ?_; (case hd => rfl); (case hg => rfl); (case hr => exact bld9_ ((.int .i64 0)) ((.int .i64 0)) ((.int .i64 0)) ((.int .i64 0)) ((.int .i64 0)) ((.int .i64 0)) ((.int .i64 0)) ((.int .i64 0)) ((.slice none 0 0)) rfl rfl); (case hp => exact (Reps.c9 (show Kd.FK k24 _ _ (⟨t166, x178001_19, x178002_19, x178003_19, x178004_19, x178005_19, x178006_19, x178007_19, t174⟩ : S24) [.int .i64 t166, .int .i64 x178001_19, .int .i64 x178002_19, .int .i64 x178003_19, .int .i64 x178004_19, .int .i64 x178005_19, .int .i64 x178006_19, .int .i64 x178007_19, .slice Ao26 t174.length co26] from (k24_mkF _ _ (⟨t166, x178001_19, x178002_19, x178003_19, x178004_19, x178005_19, x178006_19, x178007_19, t174⟩ : S24) (Kd.R_reads' (Kd.R_mono (ok' := (fun k_ => some k_ ≠ (v180 : Value).ownBlock ∧ k_ ≠ gb162 ∧ k_ ≠ gb177)) (Kd.R_types (Kd.R_types (Kd.R_apart' (HO_178008.out) (Kd.R_typed HO181.out) (by decide)) BK162.out (by decide)) BK177.out (by decide)) (fun k_ hk => ⟨hk.1.1.2, ⟨hk.1.2, hk.2⟩⟩))).2.1 (Kd.R_F (Kd.R_mono (ok' := (fun k_ => some k_ ≠ (v180 : Value).ownBlock ∧ k_ ≠ gb162 ∧ k_ ≠ gb177)) (Kd.R_types (Kd.R_types (Kd.R_apart' (HO_178008.out) (Kd.R_typed HO181.out) (by decide)) BK162.out (by decide)) BK177.out (by decide)) (fun k_ hk => ⟨hk.1.1.2, ⟨hk.1.2, hk.2⟩⟩))))) (Reps.none _ _))); intro v184 w67 ho68 hb hg_ hnew_; clear hg_ hnew_; (first | rw [← Ny183.out] at ho68 | (simp only [Int.reduceToNat] at ho68; rw [← Ny183.out] at ho68)); have n0_ := Aside0.mk (Kd.R_below (tR_ HO181) hb); have n1_ := Aside0.mk (Kd.N_lower ho68 (below_size (bw_ HB))); have n2_ := Aside0.mk (blk_below (tk_ BK162) hb); have n3_ := Aside0.mk (blk_below (tk_ BK177) hb); have n4_ := Aside0.mk (below_step (bw_ HB) hb); clear HO181; clear BK162; clear BK177; clear HB; clear HO_178008; have HO181 := n0_; have HO185 := n1_; have BK162 := n2_; have BK177 := n3_; have HB := n4_; clear n0_ n1_ n2_ n3_ n4_; clear hb ho68; obtain ⟨Ao69, co69, eo69⟩ := Kd.N_slice HO185.out; subst eo69) | (go_at_call 12; (with_reducible refine (msg_Right.calls k3 _ _ y183 t186 _ ?side1 ?side2 A61.out).mono ?_); (case side1 => repeat (first | exact (Kd.N_reads' HO185.out).2.2 | (with_reducible refine Kd.C_alloc ?_ _) | (with_reducible refine Kd.C_drewN ?_ _) | (with_reducible refine Kd.C_drew ?_))); (case side2 => exact (Kd.N_reads' HO185.out).2.1); rintro e w70 ⟨rfl, hb⟩; (try clear A61); replace HO181 := Aside0.mk (Kd.R_below (tR_ HO181) hb); replace HO185 := Aside0.mk (Kd.N_below (tN_ HO185) hb); replace BK162 := Aside0.mk (blk_below (tk_ BK162) hb); replace BK177 := Aside0.mk (blk_below (tk_ BK177) hb); replace HB := Aside0.mk (below_step (bw_ HB) hb); (try clear hb); (try clear hb2); (try clear hk); (try clear hi))); try go_wp2_with (first | (go_at_call 11; (with_reducible refine (msg_Bytes.calls t166 x178001_19 x178002_19 x178003_19 x178004_19 x178005_19 x178006_19 x178007_19 _ _ t174 t179 t182 _ ?side1 ?side2 A60.out).mono ?_); (case side1 => repeat (first | exact (Kd.R_reads' HO_178008.out).2.2 | (with_reducible refine Kd.C_alloc ?_ _) | (with_reducible refine Kd.C_drewN ?_ _) | (with_reducible refine Kd.C_drew ?_))); (case side2 => exact (Kd.R_reads' HO_178008.out).2.1); rintro e w65 ⟨v180, rfl, ho0, hb⟩; (try clear A60); have HO181 := Aside0.mk (Kd.R_lower ho0 (below_size (bw_ HB))); replace HO_178008 := Aside0.mk (Kd.R_below (tR_ HO_178008) hb); replace BK162 := Aside0.mk (blk_below (tk_ BK162) hb); replace BK177 := Aside0.mk (blk_below (tk_ BK177) hb); replace HB := Aside0.mk (below_step (bw_ HB) hb); (try clear hb); (try clear hb2); (try clear hk); (try clear hi); (try clear ho0); have hcz66_0 := bc_0 BK177; have hcz66_1 := bc_1 BK177; have hcz66_2 := bc_2 BK177; have hcz66_3 := bc_3 BK177; have hcz66_4 := bc_4 BK177; have hcz66_5 := bc_5 BK177; have hcz66_6 := bc_6 BK177; have hcz66_7 := bc_7 BK177; have hcz66_8 : w65.cell? ⟨gb177, 8, none⟩ = some (.slice Ao26 t174.length co26) := (blk_cell BK177.out 8).trans rfl; have hfz66_0 := blk_frozen BK177.out 0; have hfz66_1 := blk_frozen BK177.out 1; have hfz66_2 := blk_frozen BK177.out 2; have hfz66_3 := blk_frozen BK177.out 3; have hfz66_4 := blk_frozen BK177.out 4; have hfz66_5 := blk_frozen BK177.out 5; have hfz66_6 := blk_frozen BK177.out 6; have hfz66_7 := blk_frozen BK177.out 7; have hfz66_8 := blk_frozen BK177.out 8) | ((with_reducible refine gate_dst (N := 103) rfl ?_); (try (refine gate_guard (by rfl) ?_; dsimp only)); refine Kd.N_lit k24 _ 24 ?hg (N' := 103) ?hd (xs := ([(⟨t166, x178001_19, x178002_19, x178003_19, x178004_19, x178005_19, x178006_19, x178007_19, t174⟩ : S24)] : List (S24))) (inner := [.int .i64 t166, .int .i64 x178001_19, .int .i64 x178002_19, .int .i64 x178003_19, .int .i64 x178004_19, .int .i64 x178005_19, .int .i64 x178006_19, .int .i64 x178007_19, .slice Ao26 t174.length co26]) (ok := (fun k_ => some k_ ≠ (v180 : Value).ownBlock ∧ k_ ≠ gb162 ∧ k_ ≠ gb177)) (okp := (fun k_ => some k_ ≠ (v180 : Value).ownBlock ∧ k_ ≠ gb162 ∧ k_ ≠ gb177)) ?hr ?hp (fun _ hk => hk) ((show ∀ k_, (_ : Nat) ≤ k_ → (fun k_ => some k_ ≠ (v180 : Value).ownBlock ∧ k_ ≠ gb162 ∧ k_ ≠ gb177) k_ from fun k_ hk => ⟨Kd.fresh' (Kd.R_lt (tR_ HO181)) k_ hk, Kd.freshB (tk_ BK162) k_ hk, Kd.freshB (tk_ BK177) k_ hk⟩) _ (Nat.le_refl _)) (Below.refl _ _) (Nat.le_refl _) (by simp) ?_; (case hd => rfl); (case hg => rfl); (case hr => exact bld9_ ((.int .i64 0)) ((.int .i64 0)) ((.int .i64 0)) ((.int .i64 0)) ((.int .i64 0)) ((.int .i64 0)) ((.int .i64 0)) ((.int .i64 0)) ((.slice none 0 0)) rfl rfl); (case hp => exact (Reps.c9 (show Kd.FK k24 _ _ (⟨t166, x178001_19, x178002_19, x178003_19, x178004_19, x178005_19, x178006_19, x178007_19, t174⟩ : S24) [.int .i64 t166, .int .i64 x178001_19, .int .i64 x178002_19, .int .i64 x178003_19, .int .i64 x178004_19, .int .i64 x178005_19, .int .i64 x178006_19, .int .i64 x178007_19, .slice Ao26 t174.length co26] from (k24_mkF _ _ (⟨t166, x178001_19, x178002_19, x178003_19, x178004_19, x178005_19, x178006_19, x178007_19, t174⟩ : S24) (Kd.R_reads' (Kd.R_mono (ok' := (fun k_ => some k_ ≠ (v180 : Value).ownBlock ∧ k_ ≠ gb162 ∧ k_ ≠ gb177)) (Kd.R_types (Kd.R_types (Kd.R_apart' (HO_178008.out) (Kd.R_typed HO181.out) (by decide)) BK162.out (by decide)) BK177.out (by decide)) (fun k_ hk => ⟨hk.1.1.2, ⟨hk.1.2, hk.2⟩⟩))).2.1 (Kd.R_F (Kd.R_mono (ok' := (fun k_ => some k_ ≠ (v180 : Value).ownBlock ∧ k_ ≠ gb162 ∧ k_ ≠ gb177)) (Kd.R_types (Kd.R_types (Kd.R_apart' (HO_178008.out) (Kd.R_typed HO181.out) (by decide)) BK162.out (by decide)) BK177.out (by decide)) (fun k_ hk => ⟨hk.1.1.2, ⟨hk.1.2, hk.2⟩⟩))))) (Reps.none _ _))); intro v184 w67 ho68 hb hg_ hnew_; clear hg_ hnew_; (first | rw [← Ny183.out] at ho68 | (simp only [Int.reduceToNat] at ho68; rw [← Ny183.out] at ho68)); have n0_ := Aside0.mk (Kd.R_below (tR_ HO181) hb); have n1_ := Aside0.mk (Kd.N_lower ho68 (below_size (bw_ HB))); have n2_ := Aside0.mk (blk_below (tk_ BK162) hb); have n3_ := Aside0.mk (blk_below (tk_ BK177) hb); have n4_ := Aside0.mk (below_step (bw_ HB) hb); clear HO181; clear BK162; clear BK177; clear HB; clear HO_178008; have HO181 := n0_; have HO185 := n1_; have BK162 := n2_; have BK177 := n3_; have HB := n4_; clear n0_ n1_ n2_ n3_ n4_; clear hb ho68; obtain ⟨Ao69, co69, eo69⟩ := Kd.N_slice HO185.out; subst eo69) | (go_at_call 12; (with_reducible refine (msg_Right.calls k3 _ _ y183 t186 _ ?side1 ?side2 A61.out).mono ?_); (case side1 => repeat (first | exact (Kd.N_reads' HO185.out).2.2 | (with_reducible refine Kd.C_alloc ?_ _) | (with_reducible refine Kd.C_drewN ?_ _) | (with_reducible refine Kd.C_drew ?_))); (case side2 => exact (Kd.N_reads' HO185.out).2.1); rintro e w70 ⟨rfl, hb⟩; (try clear A61); replace HO181 := Aside0.mk (Kd.R_below (tR_ HO181) hb); replace HO185 := Aside0.mk (Kd.N_below (tN_ HO185) hb); replace BK162 := Aside0.mk (blk_below (tk_ BK162) hb); replace BK177 := Aside0.mk (blk_below (tk_ BK177) hb); replace HB := Aside0.mk (below_step (bw_ HB) hb); (try clear hb); (try clear hb2); (try clear hk); (try clear hi))))
         go_ret
         exact ⟨by first | rfl | (simp [errW_none, errW_some] <;> rfl) | (simp [*, errW_none, errW_some] <;> rfl), by repeat (first | (with_reducible first | exact HB.out | apply b_a | apply b_n | apply b_d | refine b_s ?_ GE162.out | refine b_s ?_ GE177.out) | exact HB.out)⟩
        rw [if_neg c62] at H
        have c62b0 : (t186 == true) = false := by simpa using c62
        (try (have c62b1 : decide (t186 = true) = false := by simpa using c62))
        (try (have c62b2 : (t186 == true) = false := by simpa using c62))
        (try (have c62b3 : ¬ (t186 = true) := by simpa using c62))
        clear c62
        obtain rfl := Option.some.inj H
        have hnb71 := NB177_162.out
        have hnc71 := NB162_177.out
        have hcz72_0 := bc_0 BK177
        have hcz72_1 := bc_1 BK177
        have hcz72_2 := bc_2 BK177
        have hcz72_3 := bc_3 BK177
        have hcz72_4 := bc_4 BK177
        have hcz72_5 := bc_5 BK177
        have hcz72_6 := bc_6 BK177
        have hcz72_7 := bc_7 BK177
        have hcz72_8 : wr.cell? ⟨gb177, 8, none⟩ = some (.slice Ao26 t174.length co26) := (blk_cell BK177.out 8).trans rfl
        have hfz72_0 := blk_frozen BK177.out 0
        have hfz72_1 := blk_frozen BK177.out 1
        have hfz72_2 := blk_frozen BK177.out 2
        have hfz72_3 := blk_frozen BK177.out 3
        have hfz72_4 := blk_frozen BK177.out 4
        have hfz72_5 := blk_frozen BK177.out 5
        have hfz72_6 := blk_frozen BK177.out 6
        have hfz72_7 := blk_frozen BK177.out 7
        have hfz72_8 := blk_frozen BK177.out 8
        go_wp2_with (first | (go_at_call 11; (with_reducible refine (msg_Bytes.calls t166 x178001_19 x178002_19 x178003_19 x178004_19 x178005_19 x178006_19 x178007_19 _ _ t174 t179 t182 _ ?side1 ?side2 A60.out).mono ?_); (case side1 => repeat (first | exact (Kd.R_reads' HO_178008.out).2.2 | (with_reducible refine Kd.C_alloc ?_ _) | (with_reducible refine Kd.C_drewN ?_ _) | (with_reducible refine Kd.C_drew ?_))); (case side2 => exact (Kd.R_reads' HO_178008.out).2.1); rintro e w73 ⟨v180, rfl, ho0, hb⟩; (try clear A60); have HO181 := Aside0.mk (Kd.R_lower ho0 (below_size (bw_ HB))); replace HO_178008 := Aside0.mk (Kd.R_below (tR_ HO_178008) hb); replace BK162 := Aside0.mk (blk_below (tk_ BK162) hb); replace BK177 := Aside0.mk (blk_below (tk_ BK177) hb); replace HB := Aside0.mk (below_step (bw_ HB) hb); (try clear hb); (try clear hb2); (try clear hk); (try clear hi); (try clear ho0); have hcz74_0 := bc_0 BK177; have hcz74_1 := bc_1 BK177; have hcz74_2 := bc_2 BK177; have hcz74_3 := bc_3 BK177; have hcz74_4 := bc_4 BK177; have hcz74_5 := bc_5 BK177; have hcz74_6 := bc_6 BK177; have hcz74_7 := bc_7 BK177; have hcz74_8 : w73.cell? ⟨gb177, 8, none⟩ = some (.slice Ao26 t174.length co26) := (blk_cell BK177.out 8).trans rfl; have hfz74_0 := blk_frozen BK177.out 0; have hfz74_1 := blk_frozen BK177.out 1; have hfz74_2 := blk_frozen BK177.out 2; have hfz74_3 := blk_frozen BK177.out 3; have hfz74_4 := blk_frozen BK177.out 4; have hfz74_5 := blk_frozen BK177.out 5; have hfz74_6 := blk_frozen BK177.out 6; have hfz74_7 := blk_frozen BK177.out 7; have hfz74_8 := blk_frozen BK177.out 8; (first | ((with_reducible refine gate_store_ rfl ?_); refine st9_ rfl rfl rfl rfl rfl (by with_reducible assumption) (by kernel_rfl) (by simp [Value.oneCell']) ?_; clear hcz74_0 hfz74_0 hcz74_1 hfz74_1 hcz74_2 hfz74_2 hcz74_3 hfz74_3 hcz74_4 hfz74_4 hcz74_5 hfz74_5 hcz74_6 hfz74_6 hcz74_7 hfz74_7 hcz74_8 hfz74_8; intro hb9_; have BN74 := Aside0.mk hb9_; clear hb9_) | skip)) | ((with_reducible refine gate_dst (N := 103) rfl ?_); (try (refine gate_guard (by rfl) ?_; dsimp only)); refine Kd.N_lit k24 _ 24 ?hg (N' := 103) ?hd (xs := ([(⟨t166, x178001_19, x178002_19, x178003_19, x178004_19, x178005_19, x178006_19, x178007_19, t174⟩ : S24)] : List (S24))) (inner := [.int .i64 t166, .int .i64 x178001_19, .int .i64 x178002_19, .int .i64 x178003_19, .int .i64 x178004_19, .int .i64 x178005_19, .int .i64 x178006_19, .int .i64 x178007_19, .slice Ao26 t174.length co26]) (ok := (fun k_ => some k_ ≠ (v180 : Value).ownBlock ∧ k_ ≠ gb162 ∧ k_ ≠ gb177)) (okp := (fun k_ => some k_ ≠ (v180 : Value).ownBlock ∧ k_ ≠ gb162 ∧ k_ ≠ gb177)) ?hr ?hp (fun _ hk => hk) ((show ∀ k_, (_ : Nat) ≤ k_ → (fun k_ => some k_ ≠ (v180 : Value).ownBlock ∧ k_ ≠ gb162 ∧ k_ ≠ gb177) k_ from fun k_ hk => ⟨Kd.fresh' (Kd.R_lt (tR_ HO181)) k_ hk, Kd.freshB (tk_ BK162) k_ hk, Kd.freshB (tk_ BK177) k_ hk⟩) _ (Nat.le_refl _)) (Below.refl _ _) (Nat.le_refl _) (by simp) ?_; (case hd => rfl); (case hg => rfl); (case hr => exact bld9_ ((.int .i64 0)) ((.int .i64 0)) ((.int .i64 0)) ((.int .i64 0)) ((.int .i64 0)) ((.int .i64 0)) ((.int .i64 0)) ((.int .i64 0)) ((.slice none 0 0)) rfl rfl); (case hp => exact (Reps.c9 (show Kd.FK k24 _ _ (⟨t166, x178001_19, x178002_19, x178003_19, x178004_19, x178005_19, x178006_19, x178007_19, t174⟩ : S24) [.int .i64 t166, .int .i64 x178001_19, .int .i64 x178002_19, .int .i64 x178003_19, .int .i64 x178004_19, .int .i64 x178005_19, .int .i64 x178006_19, .int .i64 x178007_19, .slice Ao26 t174.length co26] from (k24_mkF _ _ (⟨t166, x178001_19, x178002_19, x178003_19, x178004_19, x178005_19, x178006_19, x178007_19, t174⟩ : S24) (Kd.R_reads' (Kd.R_mono (ok' := (fun k_ => some k_ ≠ (v180 : Value).ownBlock ∧ k_ ≠ gb162 ∧ k_ ≠ gb177)) (Kd.R_types (Kd.R_types (Kd.R_apart' (HO_178008.out) (Kd.R_typed HO181.out) (by decide)) BK162.out (by decide)) BK177.out (by decide)) (fun k_ hk => ⟨hk.1.1.2, ⟨hk.1.2, hk.2⟩⟩))).2.1 (Kd.R_F (Kd.R_mono (ok' := (fun k_ => some k_ ≠ (v180 : Value).ownBlock ∧ k_ ≠ gb162 ∧ k_ ≠ gb177)) (Kd.R_types (Kd.R_types (Kd.R_apart' (HO_178008.out) (Kd.R_typed HO181.out) (by decide)) BK162.out (by decide)) BK177.out (by decide)) (fun k_ hk => ⟨hk.1.1.2, ⟨hk.1.2, hk.2⟩⟩))))) (Reps.none _ _))); intro v184 w75 ho76 hb hg_ hnew_; clear hg_ hnew_; (first | rw [← Ny183.out] at ho76 | (simp only [Int.reduceToNat] at ho76; rw [← Ny183.out] at ho76)); have n0_ := Aside0.mk (Kd.R_below (tR_ HO181) hb); have n1_ := Aside0.mk (Kd.N_lower ho76 (below_size (bw_ HB))); have n2_ := Aside0.mk (blk_below (tk_ BK162) hb); have n3_ := Aside0.mk (blk_below (tk_ BK177) hb); have n4_ := Aside0.mk (below_step (bw_ HB) hb); clear HO181; clear BK162; clear BK177; clear HB; clear HO_178008; have HO181 := n0_; have HO185 := n1_; have BK162 := n2_; have BK177 := n3_; have HB := n4_; clear n0_ n1_ n2_ n3_ n4_; clear hb ho76; obtain ⟨Ao77, co77, eo77⟩ := Kd.N_slice HO185.out; subst eo77) | (go_at_call 12; (with_reducible refine (msg_Right.calls k3 _ _ y183 t186 _ ?side1 ?side2 A61.out).mono ?_); (case side1 => repeat (first | exact (Kd.N_reads' HO185.out).2.2 | (with_reducible refine Kd.C_alloc ?_ _) | (with_reducible refine Kd.C_drewN ?_ _) | (with_reducible refine Kd.C_drew ?_))); (case side2 => exact (Kd.N_reads' HO185.out).2.1); rintro e w78 ⟨rfl, hb⟩; (try clear A61); replace HO181 := Aside0.mk (Kd.R_below (tR_ HO181) hb); replace HO185 := Aside0.mk (Kd.N_below (tN_ HO185) hb); replace BK162 := Aside0.mk (blk_below (tk_ BK162) hb); replace BK177 := Aside0.mk (blk_below (tk_ BK177) hb); replace HB := Aside0.mk (below_step (bw_ HB) hb); (try clear hb); (try clear hb2); (try clear hk); (try clear hi)))
        repeat (go_quiet (first | (go_at_call 11; (with_reducible refine (msg_Bytes.calls t166 x178001_19 x178002_19 x178003_19 x178004_19 x178005_19 x178006_19 x178007_19 _ _ t174 t179 t182 _ ?side1 ?side2 A60.out).mono ?_); (case side1 => repeat (first | exact (Kd.R_reads' HO_178008.out).2.2 | (with_reducible refine Kd.C_alloc ?_ _) | (with_reducible refine Kd.C_drewN ?_ _) | (with_reducible refine Kd.C_drew ?_))); (case side2 => exact (Kd.R_reads' HO_178008.out).2.1); rintro e w73 ⟨v180, rfl, ho0, hb⟩; (try clear A60); have HO181 := Aside0.mk (Kd.R_lower ho0 (below_size (bw_ HB))); replace HO_178008 := Aside0.mk (Kd.R_below (tR_ HO_178008) hb); replace BK162 := Aside0.mk (blk_below (tk_ BK162) hb); replace BK177 := Aside0.mk (blk_below (tk_ BK177) hb); replace HB := Aside0.mk (below_step (bw_ HB) hb); (try clear hb); (try clear hb2); (try clear hk); (try clear hi); (try clear ho0); have hcz74_0 := bc_0 BK177; have hcz74_1 := bc_1 BK177; have hcz74_2 := bc_2 BK177; have hcz74_3 := bc_3 BK177; have hcz74_4 := bc_4 BK177; have hcz74_5 := bc_5 BK177; have hcz74_6 := bc_6 BK177; have hcz74_7 := bc_7 BK177; have hcz74_8 : w73.cell? ⟨gb177, 8, none⟩ = some (.slice Ao26 t174.length co26) := (blk_cell BK177.out 8).trans rfl; have hfz74_0 := blk_frozen BK177.out 0; have hfz74_1 := blk_frozen BK177.out 1; have hfz74_2 := blk_frozen BK177.out 2; have hfz74_3 := blk_frozen BK177.out 3; have hfz74_4 := blk_frozen BK177.out 4; have hfz74_5 := blk_frozen BK177.out 5; have hfz74_6 := blk_frozen BK177.out 6; have hfz74_7 := blk_frozen BK177.out 7; have hfz74_8 := blk_frozen BK177.out 8) | ((with_reducible refine gate_dst (N := 103) rfl ?_); (try (refine gate_guard (by rfl) ?_; dsimp only)); refine Kd.N_lit k24 _ 24 ?hg (N' := 103) ?hd (xs := ([(⟨t166, x178001_19, x178002_19, x178003_19, x178004_19, x178005_19, x178006_19, x178007_19, t174⟩ : S24)] : List (S24))) (inner := [.int .i64 t166, .int .i64 x178001_19, .int .i64 x178002_19, .int .i64 x178003_19, .int .i64 x178004_19, .int .i64 x178005_19, .int .i64 x178006_19, .int .i64 x178007_19, .slice Ao26 t174.length co26]) (ok := (fun k_ => some k_ ≠ (v180 : Value).ownBlock ∧ k_ ≠ gb162 ∧ k_ ≠ gb177)) (okp := (fun k_ => some k_ ≠ (v180 : Value).ownBlock ∧ k_ ≠ gb162 ∧ k_ ≠ gb177)) ?hr ?hp (fun _ hk => hk) ((show ∀ k_, (_ : Nat) ≤ k_ → (fun k_ => some k_ ≠ (v180 : Value).ownBlock ∧ k_ ≠ gb162 ∧ k_ ≠ gb177) k_ from fun k_ hk => ⟨Kd.fresh' (Kd.R_lt (tR_ HO181)) k_ hk, Kd.freshB (tk_ BK162) k_ hk, Kd.freshB (tk_ BK177) k_ hk⟩) _ (Nat.le_refl _)) (Below.refl _ _) (Nat.le_refl _) (by simp) ?_; (case hd => rfl); (case hg => rfl); (case hr => exact bld9_ ((.int .i64 0)) ((.int .i64 0)) ((.int .i64 0)) ((.int .i64 0)) ((.int .i64 0)) ((.int .i64 0)) ((.int .i64 0)) ((.int .i64 0)) ((.slice none 0 0)) rfl rfl); (case hp => exact (Reps.c9 (show Kd.FK k24 _ _ (⟨t166, x178001_19, x178002_19, x178003_19, x178004_19, x178005_19, x178006_19, x178007_19, t174⟩ : S24) [.int .i64 t166, .int .i64 x178001_19, .int .i64 x178002_19, .int .i64 x178003_19, .int .i64 x178004_19, .int .i64 x178005_19, .int .i64 x178006_19, .int .i64 x178007_19, .slice Ao26 t174.length co26] from (k24_mkF _ _ (⟨t166, x178001_19, x178002_19, x178003_19, x178004_19, x178005_19, x178006_19, x178007_19, t174⟩ : S24) (Kd.R_reads' (Kd.R_mono (ok' := (fun k_ => some k_ ≠ (v180 : Value).ownBlock ∧ k_ ≠ gb162 ∧ k_ ≠ gb177)) (Kd.R_types (Kd.R_types (Kd.R_apart' (HO_178008.out) (Kd.R_typed HO181.out) (by decide)) BK162.out (by decide)) BK177.out (by decide)) (fun k_ hk => ⟨hk.1.1.2, ⟨hk.1.2, hk.2⟩⟩))).2.1 (Kd.R_F (Kd.R_mono (ok' := (fun k_ => some k_ ≠ (v180 : Value).ownBlock ∧ k_ ≠ gb162 ∧ k_ ≠ gb177)) (Kd.R_types (Kd.R_types (Kd.R_apart' (HO_178008.out) (Kd.R_typed HO181.out) (by decide)) BK162.out (by decide)) BK177.out (by decide)) (fun k_ hk => ⟨hk.1.1.2, ⟨hk.1.2, hk.2⟩⟩))))) (Reps.none _ _))); intro v184 w75 ho76 hb hg_ hnew_; clear hg_ hnew_; (first | rw [← Ny183.out] at ho76 | (simp only [Int.reduceToNat] at ho76; rw [← Ny183.out] at ho76)); have n0_ := Aside0.mk (Kd.R_below (tR_ HO181) hb); have n1_ := Aside0.mk (Kd.N_lower ho76 (below_size (bw_ HB))); have n2_ := Aside0.mk (blk_below (tk_ BK162) hb); have n3_ := Aside0.mk (blk_below (tk_ BK177) hb); have n4_ := Aside0.mk (below_step (bw_ HB) hb); clear HO181; clear BK162; clear BK177; clear HB; clear HO_178008; have HO181 := n0_; have HO185 := n1_; have BK162 := n2_; have BK177 := n3_; have HB := n4_; clear n0_ n1_ n2_ n3_ n4_; clear hb ho76; obtain ⟨Ao77, co77, eo77⟩ := Kd.N_slice HO185.out; subst eo77) | (go_at_call 12; (with_reducible refine (msg_Right.calls k3 _ _ y183 t186 _ ?side1 ?side2 A61.out).mono ?_); (case side1 => repeat (first | exact (Kd.N_reads' HO185.out).2.2 | (with_reducible refine Kd.C_alloc ?_ _) | (with_reducible refine Kd.C_drewN ?_ _) | (with_reducible refine Kd.C_drew ?_))); (case side2 => exact (Kd.N_reads' HO185.out).2.1); rintro e w78 ⟨rfl, hb⟩; (try clear A61); replace HO181 := Aside0.mk (Kd.R_below (tR_ HO181) hb); replace HO185 := Aside0.mk (Kd.N_below (tN_ HO185) hb); replace BK162 := Aside0.mk (blk_below (tk_ BK162) hb); replace BK177 := Aside0.mk (blk_below (tk_ BK177) hb); replace HB := Aside0.mk (below_step (bw_ HB) hb); (try clear hb); (try clear hb2); (try clear hk); (try clear hi))); try go_wp2_with (first | (go_at_call 11; (with_reducible refine (msg_Bytes.calls t166 x178001_19 x178002_19 x178003_19 x178004_19 x178005_19 x178006_19 x178007_19 _ _ t174 t179 t182 _ ?side1 ?side2 A60.out).mono ?_); (case side1 => repeat (first | exact (Kd.R_reads' HO_178008.out).2.2 | (with_reducible refine Kd.C_alloc ?_ _) | (with_reducible refine Kd.C_drewN ?_ _) | (with_reducible refine Kd.C_drew ?_))); (case side2 => exact (Kd.R_reads' HO_178008.out).2.1); rintro e w73 ⟨v180, rfl, ho0, hb⟩; (try clear A60); have HO181 := Aside0.mk (Kd.R_lower ho0 (below_size (bw_ HB))); replace HO_178008 := Aside0.mk (Kd.R_below (tR_ HO_178008) hb); replace BK162 := Aside0.mk (blk_below (tk_ BK162) hb); replace BK177 := Aside0.mk (blk_below (tk_ BK177) hb); replace HB := Aside0.mk (below_step (bw_ HB) hb); (try clear hb); (try clear hb2); (try clear hk); (try clear hi); (try clear ho0); have hcz74_0 := bc_0 BK177; have hcz74_1 := bc_1 BK177; have hcz74_2 := bc_2 BK177; have hcz74_3 := bc_3 BK177; have hcz74_4 := bc_4 BK177; have hcz74_5 := bc_5 BK177; have hcz74_6 := bc_6 BK177; have hcz74_7 := bc_7 BK177; have hcz74_8 : w73.cell? ⟨gb177, 8, none⟩ = some (.slice Ao26 t174.length co26) := (blk_cell BK177.out 8).trans rfl; have hfz74_0 := blk_frozen BK177.out 0; have hfz74_1 := blk_frozen BK177.out 1; have hfz74_2 := blk_frozen BK177.out 2; have hfz74_3 := blk_frozen BK177.out 3; have hfz74_4 := blk_frozen BK177.out 4; have hfz74_5 := blk_frozen BK177.out 5; have hfz74_6 := blk_frozen BK177.out 6; have hfz74_7 := blk_frozen BK177.out 7; have hfz74_8 := blk_frozen BK177.out 8) | ((with_reducible refine gate_dst (N := 103) rfl ?_); (try (refine gate_guard (by rfl) ?_; dsimp only)); refine Kd.N_lit k24 _ 24 ?hg (N' := 103) ?hd (xs := ([(⟨t166, x178001_19, x178002_19, x178003_19, x178004_19, x178005_19, x178006_19, x178007_19, t174⟩ : S24)] : List (S24))) (inner := [.int .i64 t166, .int .i64 x178001_19, .int .i64 x178002_19, .int .i64 x178003_19, .int .i64 x178004_19, .int .i64 x178005_19, .int .i64 x178006_19, .int .i64 x178007_19, .slice Ao26 t174.length co26]) (ok := (fun k_ => some k_ ≠ (v180 : Value).ownBlock ∧ k_ ≠ gb162 ∧ k_ ≠ gb177)) (okp := (fun k_ => some k_ ≠ (v180 : Value).ownBlock ∧ k_ ≠ gb162 ∧ k_ ≠ gb177)) ?hr ?hp (fun _ hk => hk) ((show ∀ k_, (_ : Nat) ≤ k_ → (fun k_ => some k_ ≠ (v180 : Value).ownBlock ∧ k_ ≠ gb162 ∧ k_ ≠ gb177) k_ from fun k_ hk => ⟨Kd.fresh' (Kd.R_lt (tR_ HO181)) k_ hk, Kd.freshB (tk_ BK162) k_ hk, Kd.freshB (tk_ BK177) k_ hk⟩) _ (Nat.le_refl _)) (Below.refl _ _) (Nat.le_refl _) (by simp) ?_; (case hd => rfl); (case hg => rfl); (case hr => exact bld9_ ((.int .i64 0)) ((.int .i64 0)) ((.int .i64 0)) ((.int .i64 0)) ((.int .i64 0)) ((.int .i64 0)) ((.int .i64 0)) ((.int .i64 0)) ((.slice none 0 0)) rfl rfl); (case hp => exact (Reps.c9 (show Kd.FK k24 _ _ (⟨t166, x178001_19, x178002_19, x178003_19, x178004_19, x178005_19, x178006_19, x178007_19, t174⟩ : S24) [.int .i64 t166, .int .i64 x178001_19, .int .i64 x178002_19, .int .i64 x178003_19, .int .i64 x178004_19, .int .i64 x178005_19, .int .i64 x178006_19, .int .i64 x178007_19, .slice Ao26 t174.length co26] from (k24_mkF _ _ (⟨t166, x178001_19, x178002_19, x178003_19, x178004_19, x178005_19, x178006_19, x178007_19, t174⟩ : S24) (Kd.R_reads' (Kd.R_mono (ok' := (fun k_ => some k_ ≠ (v180 : Value).ownBlock ∧ k_ ≠ gb162 ∧ k_ ≠ gb177)) (Kd.R_types (Kd.R_types (Kd.R_apart' (HO_178008.out) (Kd.R_typed HO181.out) (by decide)) BK162.out (by decide)) BK177.out (by decide)) (fun k_ hk => ⟨hk.1.1.2, ⟨hk.1.2, hk.2⟩⟩))).2.1 (Kd.R_F (Kd.R_mono (ok' := (fun k_ => some k_ ≠ (v180 : Value).ownBlock ∧ k_ ≠ gb162 ∧ k_ ≠ gb177)) (Kd.R_types (Kd.R_types (Kd.R_apart' (HO_178008.out) (Kd.R_typed HO181.out) (by decide)) BK162.out (by decide)) BK177.out (by decide)) (fun k_ hk => ⟨hk.1.1.2, ⟨hk.1.2, hk.2⟩⟩))))) (Reps.none _ _))); intro v184 w75 ho76 hb hg_ hnew_; clear hg_ hnew_; (first | rw [← Ny183.out] at ho76 | (simp only [Int.reduceToNat] at ho76; rw [← Ny183.out] at ho76)); have n0_ := Aside0.mk (Kd.R_below (tR_ HO181) hb); have n1_ := Aside0.mk (Kd.N_lower ho76 (below_size (bw_ HB))); have n2_ := Aside0.mk (blk_below (tk_ BK162) hb); have n3_ := Aside0.mk (blk_below (tk_ BK177) hb); have n4_ := Aside0.mk (below_step (bw_ HB) hb); clear HO181; clear BK162; clear BK177; clear HB; clear HO_178008; have HO181 := n0_; have HO185 := n1_; have BK162 := n2_; have BK177 := n3_; have HB := n4_; clear n0_ n1_ n2_ n3_ n4_; clear hb ho76; obtain ⟨Ao77, co77, eo77⟩ := Kd.N_slice HO185.out; subst eo77) | (go_at_call 12; (with_reducible refine (msg_Right.calls k3 _ _ y183 t186 _ ?side1 ?side2 A61.out).mono ?_); (case side1 => repeat (first | exact (Kd.N_reads' HO185.out).2.2 | (with_reducible refine Kd.C_alloc ?_ _) | (with_reducible refine Kd.C_drewN ?_ _) | (with_reducible refine Kd.C_drew ?_))); (case side2 => exact (Kd.N_reads' HO185.out).2.1); rintro e w78 ⟨rfl, hb⟩; (try clear A61); replace HO181 := Aside0.mk (Kd.R_below (tR_ HO181) hb); replace HO185 := Aside0.mk (Kd.N_below (tN_ HO185) hb); replace BK162 := Aside0.mk (blk_below (tk_ BK162) hb); replace BK177 := Aside0.mk (blk_below (tk_ BK177) hb); replace HB := Aside0.mk (below_step (bw_ HB) hb); (try clear hb); (try clear hb2); (try clear hk); (try clear hi))))
        go_ret
        exact ⟨by first | rfl | (simp [errW_none, errW_some] <;> rfl) | (simp [*, errW_none, errW_some] <;> rfl), by repeat (first | (with_reducible first | exact HB.out | apply b_a | apply b_n | apply b_d | refine b_s ?_ GE162.out | refine b_s ?_ GE177.out) | exact HB.out)⟩
       rw [if_neg c59] at H
       have c59b0 : (a2 == 0) = false := beq_eq_false_iff_ne.mpr c59
       have c59b1 : (a2 != 0) = true := bne_iff_ne.mpr c59
       by_cases c79 : x10_3 = true
       rotate_left
       ·
        replace c79 := Bool.eq_false_iff.mpr c79
        subst c79
        have H1 : ((msg_Bytes.f t166 x178001_19 x178002_19 x178003_19 x178004_19 x178005_19 x178006_19 x178007_19 t174).bind fun bt203 => ((msg_Right.f k3 (([(⟨t166, x178001_19, x178002_19, x178003_19, x178004_19, x178005_19, x178006_19, x178007_19, t174⟩ : S24)] : List (S24)))).bind fun t210 => (if (t210 == false) = true then (some ((bt203.2 == 0) == false)) else (some false)))) = some r := by rw [if_neg (show ¬ (false = true) by decide)] at H; exact H
        clear H
        have H := H1
        clear H1
        replace H := Option.bind_eq_some_iff.mp H
        obtain ⟨⟨t203, t206⟩, A1190, H⟩ := H
        replace H : ((msg_Right.f k3 (([(⟨t166, x178001_19, x178002_19, x178003_19, x178004_19, x178005_19, x178006_19, x178007_19, t174⟩ : S24)] : List (S24)))).bind fun t210 => (if (t210 == false) = true then (some ((t206 == 0) == false)) else (some false))) = some r := H
        have A119 := Aside0.mk A1190
        clear A1190
        obtain ⟨y207, hy207⟩ : ∃ y_ : List (S24), y_ = (([(⟨t166, x178001_19, x178002_19, x178003_19, x178004_19, x178005_19, x178006_19, x178007_19, t174⟩ : S24)] : List (S24))) := ⟨_, rfl⟩
        replace H : ((msg_Right.f k3 y207).bind fun t210 => (if (t210 == false) = true then (some ((t206 == 0) == false)) else (some false))) = some r := by first | (rw [hy207]; with_reducible exact H) | (have H2_ := (Option.bind_some _ _).symm.trans H; rw [hy207]; with_reducible exact H2_) | (have H2_ := (Option.bind_some _ _).symm.trans H; with_reducible exact H2_) | with_reducible exact H | (rw [hy207]; exact H) | exact H
        have Ny207 := Aside0.mk hy207
        clear hy207
        replace H := Option.bind_eq_some_iff.mp H
        obtain ⟨t210, A1200, H⟩ := H
        replace H : (if (t210 == false) = true then (some ((t206 == 0) == false)) else (some false)) = some r := H
        have A120 := Aside0.mk A1200
        clear A1200
        by_cases c121 : (t210 == false) = true
        ·
         rw [if_pos c121] at H
         have c121b0 : (t210 == false) = true := c121
         (try (have c121b1 : decide (t210 = false) = true := by simpa using c121))
         (try (have c121b2 : (t210 == false) = true := by simpa using c121))
         clear c121
         obtain rfl := Option.some.inj H
         have hnb122 := NB177_162.out
         have hnc122 := NB162_177.out
         have hcz123_0 := bc_0 BK177
         have hcz123_1 := bc_1 BK177
         have hcz123_2 := bc_2 BK177
         have hcz123_3 := bc_3 BK177
         have hcz123_4 := bc_4 BK177
         have hcz123_5 := bc_5 BK177
         have hcz123_6 := bc_6 BK177
         have hcz123_7 := bc_7 BK177
         have hcz123_8 : wr.cell? ⟨gb177, 8, none⟩ = some (.slice Ao26 t174.length co26) := (blk_cell BK177.out 8).trans rfl
         have hfz123_0 := blk_frozen BK177.out 0
         have hfz123_1 := blk_frozen BK177.out 1
         have hfz123_2 := blk_frozen BK177.out 2
         have hfz123_3 := blk_frozen BK177.out 3
         have hfz123_4 := blk_frozen BK177.out 4
         have hfz123_5 := blk_frozen BK177.out 5
         have hfz123_6 := blk_frozen BK177.out 6
         have hfz123_7 := blk_frozen BK177.out 7
         have hfz123_8 := blk_frozen BK177.out 8
         go_wp2_with (first | (go_at_call 11; (with_reducible refine (msg_Bytes.calls t166 x178001_19 x178002_19 x178003_19 x178004_19 x178005_19 x178006_19 x178007_19 _ _ t174 t203 t206 _ ?side1 ?side2 A119.out).mono ?_); (case side1 => repeat (first | exact (Kd.R_reads' HO_178008.out).2.2 | (with_reducible refine Kd.C_alloc ?_ _) | (with_reducible refine Kd.C_drewN ?_ _) | (with_reducible refine Kd.C_drew ?_))); (case side2 => exact (Kd.R_reads' HO_178008.out).2.1); rintro e w124 ⟨v204, rfl, ho0, hb⟩; (try clear A119); have HO205 := Aside0.mk (Kd.R_lower ho0 (below_size (bw_ HB))); replace HO_178008 := Aside0.mk (Kd.R_below (tR_ HO_178008) hb); replace BK162 := Aside0.mk (blk_below (tk_ BK162) hb); replace BK177 := Aside0.mk (blk_below (tk_ BK177) hb); replace HB := Aside0.mk (below_step (bw_ HB) hb); (try clear hb); (try clear hb2); (try clear hk); (try clear hi); (try clear ho0); have hcz125_0 := bc_0 BK177; have hcz125_1 := bc_1 BK177; have hcz125_2 := bc_2 BK177; have hcz125_3 := bc_3 BK177; have hcz125_4 := bc_4 BK177; have hcz125_5 := bc_5 BK177; have hcz125_6 := bc_6 BK177; have hcz125_7 := bc_7 BK177; have hcz125_8 : w124.cell? ⟨gb177, 8, none⟩ = some (.slice Ao26 t174.length co26) := (blk_cell BK177.out 8).trans rfl; have hfz125_0 := blk_frozen BK177.out 0; have hfz125_1 := blk_frozen BK177.out 1; have hfz125_2 := blk_frozen BK177.out 2; have hfz125_3 := blk_frozen BK177.out 3; have hfz125_4 := blk_frozen BK177.out 4; have hfz125_5 := blk_frozen BK177.out 5; have hfz125_6 := blk_frozen BK177.out 6; have hfz125_7 := blk_frozen BK177.out 7; have hfz125_8 := blk_frozen BK177.out 8; (first | ((with_reducible refine gate_store_ rfl ?_); refine st9_ rfl rfl rfl rfl rfl (by with_reducible assumption) (by kernel_rfl) (by simp [Value.oneCell']) ?_; clear hcz125_0 hfz125_0 hcz125_1 hfz125_1 hcz125_2 hfz125_2 hcz125_3 hfz125_3 hcz125_4 hfz125_4 hcz125_5 hfz125_5 hcz125_6 hfz125_6 hcz125_7 hfz125_7 hcz125_8 hfz125_8; intro hb9_; have BN125 := Aside0.mk hb9_; clear hb9_) | skip)) | ((with_reducible refine gate_dst (N := 103) rfl ?_); (try (refine gate_guard (by rfl) ?_; dsimp only)); refine Kd.N_lit k24 _ 24 ?hg (N' := 103) ?hd (xs := ([(⟨t166, x178001_19, x178002_19, x178003_19, x178004_19, x178005_19, x178006_19, x178007_19, t174⟩ : S24)] : List (S24))) (inner := [.int .i64 t166, .int .i64 x178001_19, .int .i64 x178002_19, .int .i64 x178003_19, .int .i64 x178004_19, .int .i64 x178005_19, .int .i64 x178006_19, .int .i64 x178007_19, .slice Ao26 t174.length co26]) (ok := (fun k_ => some k_ ≠ (v204 : Value).ownBlock ∧ k_ ≠ gb162 ∧ k_ ≠ gb177)) (okp := (fun k_ => some k_ ≠ (v204 : Value).ownBlock ∧ k_ ≠ gb162 ∧ k_ ≠ gb177)) ?hr ?hp (fun _ hk => hk) ((show ∀ k_, (_ : Nat) ≤ k_ → (fun k_ => some k_ ≠ (v204 : Value).ownBlock ∧ k_ ≠ gb162 ∧ k_ ≠ gb177) k_ from fun k_ hk => ⟨Kd.fresh' (Kd.R_lt (tR_ HO205)) k_ hk, Kd.freshB (tk_ BK162) k_ hk, Kd.freshB (tk_ BK177) k_ hk⟩) _ (Nat.le_refl _)) (Below.refl _ _) (Nat.le_refl _) (by simp) ?_; (case hd => rfl); (case hg => rfl); (case hr => exact bld9_ ((.int .i64 0)) ((.int .i64 0)) ((.int .i64 0)) ((.int .i64 0)) ((.int .i64 0)) ((.int .i64 0)) ((.int .i64 0)) ((.int .i64 0)) ((.slice none 0 0)) rfl rfl); (case hp => exact (Reps.c9 (show Kd.FK k24 _ _ (⟨t166, x178001_19, x178002_19, x178003_19, x178004_19, x178005_19, x178006_19, x178007_19, t174⟩ : S24) [.int .i64 t166, .int .i64 x178001_19, .int .i64 x178002_19, .int .i64 x178003_19, .int .i64 x178004_19, .int .i64 x178005_19, .int .i64 x178006_19, .int .i64 x178007_19, .slice Ao26 t174.length co26] from (k24_mkF _ _ (⟨t166, x178001_19, x178002_19, x178003_19, x178004_19, x178005_19, x178006_19, x178007_19, t174⟩ : S24) (Kd.R_reads' (Kd.R_mono (ok' := (fun k_ => some k_ ≠ (v204 : Value).ownBlock ∧ k_ ≠ gb162 ∧ k_ ≠ gb177)) (Kd.R_types (Kd.R_types (Kd.R_apart' (HO_178008.out) (Kd.R_typed HO205.out) (by decide)) BK162.out (by decide)) BK177.out (by decide)) (fun k_ hk => ⟨hk.1.1.2, ⟨hk.1.2, hk.2⟩⟩))).2.1 (Kd.R_F (Kd.R_mono (ok' := (fun k_ => some k_ ≠ (v204 : Value).ownBlock ∧ k_ ≠ gb162 ∧ k_ ≠ gb177)) (Kd.R_types (Kd.R_types (Kd.R_apart' (HO_178008.out) (Kd.R_typed HO205.out) (by decide)) BK162.out (by decide)) BK177.out (by decide)) (fun k_ hk => ⟨hk.1.1.2, ⟨hk.1.2, hk.2⟩⟩))))) (Reps.none _ _))); intro v208 w126 ho127 hb hg_ hnew_; clear hg_ hnew_; (first | rw [← Ny207.out] at ho127 | (simp only [Int.reduceToNat] at ho127; rw [← Ny207.out] at ho127)); have n0_ := Aside0.mk (Kd.R_below (tR_ HO205) hb); have n1_ := Aside0.mk (Kd.N_lower ho127 (below_size (bw_ HB))); have n2_ := Aside0.mk (blk_below (tk_ BK162) hb); have n3_ := Aside0.mk (blk_below (tk_ BK177) hb); have n4_ := Aside0.mk (below_step (bw_ HB) hb); clear HO205; clear BK162; clear BK177; clear HB; clear HO_178008; have HO205 := n0_; have HO209 := n1_; have BK162 := n2_; have BK177 := n3_; have HB := n4_; clear n0_ n1_ n2_ n3_ n4_; clear hb ho127; obtain ⟨Ao128, co128, eo128⟩ := Kd.N_slice HO209.out; subst eo128) | (go_at_call 12; (with_reducible refine (msg_Right.calls k3 _ _ y207 t210 _ ?side1 ?side2 A120.out).mono ?_); (case side1 => repeat (first | exact (Kd.N_reads' HO209.out).2.2 | (with_reducible refine Kd.C_alloc ?_ _) | (with_reducible refine Kd.C_drewN ?_ _) | (with_reducible refine Kd.C_drew ?_))); (case side2 => exact (Kd.N_reads' HO209.out).2.1); rintro e w129 ⟨rfl, hb⟩; (try clear A120); replace HO205 := Aside0.mk (Kd.R_below (tR_ HO205) hb); replace HO209 := Aside0.mk (Kd.N_below (tN_ HO209) hb); replace BK162 := Aside0.mk (blk_below (tk_ BK162) hb); replace BK177 := Aside0.mk (blk_below (tk_ BK177) hb); replace HB := Aside0.mk (below_step (bw_ HB) hb); (try clear hb); (try clear hb2); (try clear hk); (try clear hi)))
         repeat (go_quiet (first | (go_at_call 11; (with_reducible refine (msg_Bytes.calls t166 x178001_19 x178002_19 x178003_19 x178004_19 x178005_19 x178006_19 x178007_19 _ _ t174 t203 t206 _ ?side1 ?side2 A119.out).mono ?_); (case side1 => repeat (first | exact (Kd.R_reads' HO_178008.out).2.2 | (with_reducible refine Kd.C_alloc ?_ _) | (with_reducible refine Kd.C_drewN ?_ _) | (with_reducible refine Kd.C_drew ?_))); (case side2 => exact (Kd.R_reads' HO_178008.out).2.1); rintro e w124 ⟨v204, rfl, ho0, hb⟩; (try clear A119); have HO205 := Aside0.mk (Kd.R_lower ho0 (below_size (bw_ HB))); replace HO_178008 := Aside0.mk (Kd.R_below (tR_ HO_178008) hb); replace BK162 := Aside0.mk (blk_below (tk_ BK162) hb); replace BK177 := Aside0.mk (blk_below (tk_ BK177) hb); replace HB := Aside0.mk (below_step (bw_ HB) hb); (try clear hb); (try clear hb2); (try clear hk); (try clear hi); (try clear ho0); have hcz125_0 := bc_0 BK177; have hcz125_1 := bc_1 BK177; have hcz125_2 := bc_2 BK177; have hcz125_3 := bc_3 BK177; have hcz125_4 := bc_4 BK177; have hcz125_5 := bc_5 BK177; have hcz125_6 := bc_6 BK177; have hcz125_7 := bc_7 BK177; have hcz125_8 : w124.cell? ⟨gb177, 8, none⟩ = some (.slice Ao26 t174.length co26) := (blk_cell BK177.out 8).trans rfl; have hfz125_0 := blk_frozen BK177.out 0; have hfz125_1 := blk_frozen BK177.out 1; have hfz125_2 := blk_frozen BK177.out 2; have hfz125_3 := blk_frozen BK177.out 3; have hfz125_4 := blk_frozen BK177.out 4; have hfz125_5 := blk_frozen BK177.out 5; have hfz125_6 := blk_frozen BK177.out 6; have hfz125_7 := blk_frozen BK177.out 7; have hfz125_8 := blk_frozen BK177.out 8) | ((with_reducible refine gate_dst (N := 103) rfl ?_); (try (refine gate_guard (by rfl) ?_; dsimp only)); refine Kd.N_lit k24 _ 24 ?hg (N' := 103) ?hd (xs := ([(⟨t166, x178001_19, x178002_19, x178003_19, x178004_19, x178005_19, x178006_19, x178007_19, t174⟩ : S24)] : List (S24))) (inner := [.int .i64 t166, .int .i64 x178001_19, .int .i64 x178002_19, .int .i64 x178003_19, .int .i64 x178004_19, .int .i64 x178005_19, .int .i64 x178006_19, .int .i64 x178007_19, .slice Ao26 t174.length co26]) (ok := (fun k_ => some k_ ≠ (v204 : Value).ownBlock ∧ k_ ≠ gb162 ∧ k_ ≠ gb177)) (okp := (fun k_ => some k_ ≠ (v204 : Value).ownBlock ∧ k_ ≠ gb162 ∧ k_ ≠ gb177)) ?hr ?hp (fun _ hk => hk) ((show ∀ k_, (_ : Nat) ≤ k_ → (fun k_ => some k_ ≠ (v204 : Value).ownBlock ∧ k_ ≠ gb162 ∧ k_ ≠ gb177) k_ from fun k_ hk => ⟨Kd.fresh' (Kd.R_lt (tR_ HO205)) k_ hk, Kd.freshB (tk_ BK162) k_ hk, Kd.freshB (tk_ BK177) k_ hk⟩) _ (Nat.le_refl _)) (Below.refl _ _) (Nat.le_refl _) (by simp) ?_; (case hd => rfl); (case hg => rfl); (case hr => exact bld9_ ((.int .i64 0)) ((.int .i64 0)) ((.int .i64 0)) ((.int .i64 0)) ((.int .i64 0)) ((.int .i64 0)) ((.int .i64 0)) ((.int .i64 0)) ((.slice none 0 0)) rfl rfl); (case hp => exact (Reps.c9 (show Kd.FK k24 _ _ (⟨t166, x178001_19, x178002_19, x178003_19, x178004_19, x178005_19, x178006_19, x178007_19, t174⟩ : S24) [.int .i64 t166, .int .i64 x178001_19, .int .i64 x178002_19, .int .i64 x178003_19, .int .i64 x178004_19, .int .i64 x178005_19, .int .i64 x178006_19, .int .i64 x178007_19, .slice Ao26 t174.length co26] from (k24_mkF _ _ (⟨t166, x178001_19, x178002_19, x178003_19, x178004_19, x178005_19, x178006_19, x178007_19, t174⟩ : S24) (Kd.R_reads' (Kd.R_mono (ok' := (fun k_ => some k_ ≠ (v204 : Value).ownBlock ∧ k_ ≠ gb162 ∧ k_ ≠ gb177)) (Kd.R_types (Kd.R_types (Kd.R_apart' (HO_178008.out) (Kd.R_typed HO205.out) (by decide)) BK162.out (by decide)) BK177.out (by decide)) (fun k_ hk => ⟨hk.1.1.2, ⟨hk.1.2, hk.2⟩⟩))).2.1 (Kd.R_F (Kd.R_mono (ok' := (fun k_ => some k_ ≠ (v204 : Value).ownBlock ∧ k_ ≠ gb162 ∧ k_ ≠ gb177)) (Kd.R_types (Kd.R_types (Kd.R_apart' (HO_178008.out) (Kd.R_typed HO205.out) (by decide)) BK162.out (by decide)) BK177.out (by decide)) (fun k_ hk => ⟨hk.1.1.2, ⟨hk.1.2, hk.2⟩⟩))))) (Reps.none _ _))); intro v208 w126 ho127 hb hg_ hnew_; clear hg_ hnew_; (first | rw [← Ny207.out] at ho127 | (simp only [Int.reduceToNat] at ho127; rw [← Ny207.out] at ho127)); have n0_ := Aside0.mk (Kd.R_below (tR_ HO205) hb); have n1_ := Aside0.mk (Kd.N_lower ho127 (below_size (bw_ HB))); have n2_ := Aside0.mk (blk_below (tk_ BK162) hb); have n3_ := Aside0.mk (blk_below (tk_ BK177) hb); have n4_ := Aside0.mk (below_step (bw_ HB) hb); clear HO205; clear BK162; clear BK177; clear HB; clear HO_178008; have HO205 := n0_; have HO209 := n1_; have BK162 := n2_; have BK177 := n3_; have HB := n4_; clear n0_ n1_ n2_ n3_ n4_; clear hb ho127; obtain ⟨Ao128, co128, eo128⟩ := Kd.N_slice HO209.out; subst eo128) | (go_at_call 12; (with_reducible refine (msg_Right.calls k3 _ _ y207 t210 _ ?side1 ?side2 A120.out).mono ?_); (case side1 => repeat (first | exact (Kd.N_reads' HO209.out).2.2 | (with_reducible refine Kd.C_alloc ?_ _) | (with_reducible refine Kd.C_drewN ?_ _) | (with_reducible refine Kd.C_drew ?_))); (case side2 => exact (Kd.N_reads' HO209.out).2.1); rintro e w129 ⟨rfl, hb⟩; (try clear A120); replace HO205 := Aside0.mk (Kd.R_below (tR_ HO205) hb); replace HO209 := Aside0.mk (Kd.N_below (tN_ HO209) hb); replace BK162 := Aside0.mk (blk_below (tk_ BK162) hb); replace BK177 := Aside0.mk (blk_below (tk_ BK177) hb); replace HB := Aside0.mk (below_step (bw_ HB) hb); (try clear hb); (try clear hb2); (try clear hk); (try clear hi))); try go_wp2_with (first | (go_at_call 11; (with_reducible refine (msg_Bytes.calls t166 x178001_19 x178002_19 x178003_19 x178004_19 x178005_19 x178006_19 x178007_19 _ _ t174 t203 t206 _ ?side1 ?side2 A119.out).mono ?_); (case side1 => repeat (first | exact (Kd.R_reads' HO_178008.out).2.2 | (with_reducible refine Kd.C_alloc ?_ _) | (with_reducible refine Kd.C_drewN ?_ _) | (with_reducible refine Kd.C_drew ?_))); (case side2 => exact (Kd.R_reads' HO_178008.out).2.1); rintro e w124 ⟨v204, rfl, ho0, hb⟩; (try clear A119); have HO205 := Aside0.mk (Kd.R_lower ho0 (below_size (bw_ HB))); replace HO_178008 := Aside0.mk (Kd.R_below (tR_ HO_178008) hb); replace BK162 := Aside0.mk (blk_below (tk_ BK162) hb); replace BK177 := Aside0.mk (blk_below (tk_ BK177) hb); replace HB := Aside0.mk (below_step (bw_ HB) hb); (try clear hb); (try clear hb2); (try clear hk); (try clear hi); (try clear ho0); have hcz125_0 := bc_0 BK177; have hcz125_1 := bc_1 BK177; have hcz125_2 := bc_2 BK177; have hcz125_3 := bc_3 BK177; have hcz125_4 := bc_4 BK177; have hcz125_5 := bc_5 BK177; have hcz125_6 := bc_6 BK177; have hcz125_7 := bc_7 BK177; have hcz125_8 : w124.cell? ⟨gb177, 8, none⟩ = some (.slice Ao26 t174.length co26) := (blk_cell BK177.out 8).trans rfl; have hfz125_0 := blk_frozen BK177.out 0; have hfz125_1 := blk_frozen BK177.out 1; have hfz125_2 := blk_frozen BK177.out 2; have hfz125_3 := blk_frozen BK177.out 3; have hfz125_4 := blk_frozen BK177.out 4; have hfz125_5 := blk_frozen BK177.out 5; have hfz125_6 := blk_frozen BK177.out 6; have hfz125_7 := blk_frozen BK177.out 7; have hfz125_8 := blk_frozen BK177.out 8) | ((with_reducible refine gate_dst (N := 103) rfl ?_); (try (refine gate_guard (by rfl) ?_; dsimp only)); refine Kd.N_lit k24 _ 24 ?hg (N' := 103) ?hd (xs := ([(⟨t166, x178001_19, x178002_19, x178003_19, x178004_19, x178005_19, x178006_19, x178007_19, t174⟩ : S24)] : List (S24))) (inner := [.int .i64 t166, .int .i64 x178001_19, .int .i64 x178002_19, .int .i64 x178003_19, .int .i64 x178004_19, .int .i64 x178005_19, .int .i64 x178006_19, .int .i64 x178007_19, .slice Ao26 t174.length co26]) (ok := (fun k_ => some k_ ≠ (v204 : Value).ownBlock ∧ k_ ≠ gb162 ∧ k_ ≠ gb177)) (okp := (fun k_ => some k_ ≠ (v204 : Value).ownBlock ∧ k_ ≠ gb162 ∧ k_ ≠ gb177)) ?hr ?hp (fun _ hk => hk) ((show ∀ k_, (_ : Nat) ≤ k_ → (fun k_ => some k_ ≠ (v204 : Value).ownBlock ∧ k_ ≠ gb162 ∧ k_ ≠ gb177) k_ from fun k_ hk => ⟨Kd.fresh' (Kd.R_lt (tR_ HO205)) k_ hk, Kd.freshB (tk_ BK162) k_ hk, Kd.freshB (tk_ BK177) k_ hk⟩) _ (Nat.le_refl _)) (Below.refl _ _) (Nat.le_refl _) (by simp) ?_; (case hd => rfl); (case hg => rfl); (case hr => exact bld9_ ((.int .i64 0)) ((.int .i64 0)) ((.int .i64 0)) ((.int .i64 0)) ((.int .i64 0)) ((.int .i64 0)) ((.int .i64 0)) ((.int .i64 0)) ((.slice none 0 0)) rfl rfl); (case hp => exact (Reps.c9 (show Kd.FK k24 _ _ (⟨t166, x178001_19, x178002_19, x178003_19, x178004_19, x178005_19, x178006_19, x178007_19, t174⟩ : S24) [.int .i64 t166, .int .i64 x178001_19, .int .i64 x178002_19, .int .i64 x178003_19, .int .i64 x178004_19, .int .i64 x178005_19, .int .i64 x178006_19, .int .i64 x178007_19, .slice Ao26 t174.length co26] from (k24_mkF _ _ (⟨t166, x178001_19, x178002_19, x178003_19, x178004_19, x178005_19, x178006_19, x178007_19, t174⟩ : S24) (Kd.R_reads' (Kd.R_mono (ok' := (fun k_ => some k_ ≠ (v204 : Value).ownBlock ∧ k_ ≠ gb162 ∧ k_ ≠ gb177)) (Kd.R_types (Kd.R_types (Kd.R_apart' (HO_178008.out) (Kd.R_typed HO205.out) (by decide)) BK162.out (by decide)) BK177.out (by decide)) (fun k_ hk => ⟨hk.1.1.2, ⟨hk.1.2, hk.2⟩⟩))).2.1 (Kd.R_F (Kd.R_mono (ok' := (fun k_ => some k_ ≠ (v204 : Value).ownBlock ∧ k_ ≠ gb162 ∧ k_ ≠ gb177)) (Kd.R_types (Kd.R_types (Kd.R_apart' (HO_178008.out) (Kd.R_typed HO205.out) (by decide)) BK162.out (by decide)) BK177.out (by decide)) (fun k_ hk => ⟨hk.1.1.2, ⟨hk.1.2, hk.2⟩⟩))))) (Reps.none _ _))); intro v208 w126 ho127 hb hg_ hnew_; clear hg_ hnew_; (first | rw [← Ny207.out] at ho127 | (simp only [Int.reduceToNat] at ho127; rw [← Ny207.out] at ho127)); have n0_ := Aside0.mk (Kd.R_below (tR_ HO205) hb); have n1_ := Aside0.mk (Kd.N_lower ho127 (below_size (bw_ HB))); have n2_ := Aside0.mk (blk_below (tk_ BK162) hb); have n3_ := Aside0.mk (blk_below (tk_ BK177) hb); have n4_ := Aside0.mk (below_step (bw_ HB) hb); clear HO205; clear BK162; clear BK177; clear HB; clear HO_178008; have HO205 := n0_; have HO209 := n1_; have BK162 := n2_; have BK177 := n3_; have HB := n4_; clear n0_ n1_ n2_ n3_ n4_; clear hb ho127; obtain ⟨Ao128, co128, eo128⟩ := Kd.N_slice HO209.out; subst eo128) | (go_at_call 12; (with_reducible refine (msg_Right.calls k3 _ _ y207 t210 _ ?side1 ?side2 A120.out).mono ?_); (case side1 => repeat (first | exact (Kd.N_reads' HO209.out).2.2 | (with_reducible refine Kd.C_alloc ?_ _) | (with_reducible refine Kd.C_drewN ?_ _) | (with_reducible refine Kd.C_drew ?_))); (case side2 => exact (Kd.N_reads' HO209.out).2.1); rintro e w129 ⟨rfl, hb⟩; (try clear A120); replace HO205 := Aside0.mk (Kd.R_below (tR_ HO205) hb); replace HO209 := Aside0.mk (Kd.N_below (tN_ HO209) hb); replace BK162 := Aside0.mk (blk_below (tk_ BK162) hb); replace BK177 := Aside0.mk (blk_below (tk_ BK177) hb); replace HB := Aside0.mk (below_step (bw_ HB) hb); (try clear hb); (try clear hb2); (try clear hk); (try clear hi))))
         go_ret
         exact ⟨by first | rfl | (simp [errW_none, errW_some] <;> rfl) | (simp [*, errW_none, errW_some] <;> rfl), by repeat (first | (with_reducible first | exact HB.out | apply b_a | apply b_n | apply b_d | refine b_s ?_ GE162.out | refine b_s ?_ GE177.out) | exact HB.out)⟩
        rw [if_neg c121] at H
        have c121b0 : (t210 == false) = false := by simpa using c121
        (try (have c121b1 : decide (t210 = false) = false := by simpa using c121))
        (try (have c121b2 : (t210 == false) = false := by simpa using c121))
        (try (have c121b3 : ¬ (t210 = false) := by simpa using c121))
        clear c121
        obtain rfl := Option.some.inj H
        have hnb130 := NB177_162.out
        have hnc130 := NB162_177.out
        have hcz131_0 := bc_0 BK177
        have hcz131_1 := bc_1 BK177
        have hcz131_2 := bc_2 BK177
        have hcz131_3 := bc_3 BK177
        have hcz131_4 := bc_4 BK177
        have hcz131_5 := bc_5 BK177
        have hcz131_6 := bc_6 BK177
        have hcz131_7 := bc_7 BK177
        have hcz131_8 : wr.cell? ⟨gb177, 8, none⟩ = some (.slice Ao26 t174.length co26) := (blk_cell BK177.out 8).trans rfl
        have hfz131_0 := blk_frozen BK177.out 0
        have hfz131_1 := blk_frozen BK177.out 1
        have hfz131_2 := blk_frozen BK177.out 2
        have hfz131_3 := blk_frozen BK177.out 3
        have hfz131_4 := blk_frozen BK177.out 4
        have hfz131_5 := blk_frozen BK177.out 5
        have hfz131_6 := blk_frozen BK177.out 6
        have hfz131_7 := blk_frozen BK177.out 7
        have hfz131_8 := blk_frozen BK177.out 8
        go_wp2_with (first | (go_at_call 11; (with_reducible refine (msg_Bytes.calls t166 x178001_19 x178002_19 x178003_19 x178004_19 x178005_19 x178006_19 x178007_19 _ _ t174 t203 t206 _ ?side1 ?side2 A119.out).mono ?_); (case side1 => repeat (first | exact (Kd.R_reads' HO_178008.out).2.2 | (with_reducible refine Kd.C_alloc ?_ _) | (with_reducible refine Kd.C_drewN ?_ _) | (with_reducible refine Kd.C_drew ?_))); (case side2 => exact (Kd.R_reads' HO_178008.out).2.1); rintro e w132 ⟨v204, rfl, ho0, hb⟩; (try clear A119); have HO205 := Aside0.mk (Kd.R_lower ho0 (below_size (bw_ HB))); replace HO_178008 := Aside0.mk (Kd.R_below (tR_ HO_178008) hb); replace BK162 := Aside0.mk (blk_below (tk_ BK162) hb); replace BK177 := Aside0.mk (blk_below (tk_ BK177) hb); replace HB := Aside0.mk (below_step (bw_ HB) hb); (try clear hb); (try clear hb2); (try clear hk); (try clear hi); (try clear ho0); have hcz133_0 := bc_0 BK177; have hcz133_1 := bc_1 BK177; have hcz133_2 := bc_2 BK177; have hcz133_3 := bc_3 BK177; have hcz133_4 := bc_4 BK177; have hcz133_5 := bc_5 BK177; have hcz133_6 := bc_6 BK177; have hcz133_7 := bc_7 BK177; have hcz133_8 : w132.cell? ⟨gb177, 8, none⟩ = some (.slice Ao26 t174.length co26) := (blk_cell BK177.out 8).trans rfl; have hfz133_0 := blk_frozen BK177.out 0; have hfz133_1 := blk_frozen BK177.out 1; have hfz133_2 := blk_frozen BK177.out 2; have hfz133_3 := blk_frozen BK177.out 3; have hfz133_4 := blk_frozen BK177.out 4; have hfz133_5 := blk_frozen BK177.out 5; have hfz133_6 := blk_frozen BK177.out 6; have hfz133_7 := blk_frozen BK177.out 7; have hfz133_8 := blk_frozen BK177.out 8; (first | ((with_reducible refine gate_store_ rfl ?_); refine st9_ rfl rfl rfl rfl rfl (by with_reducible assumption) (by kernel_rfl) (by simp [Value.oneCell']) ?_; clear hcz133_0 hfz133_0 hcz133_1 hfz133_1 hcz133_2 hfz133_2 hcz133_3 hfz133_3 hcz133_4 hfz133_4 hcz133_5 hfz133_5 hcz133_6 hfz133_6 hcz133_7 hfz133_7 hcz133_8 hfz133_8; intro hb9_; have BN133 := Aside0.mk hb9_; clear hb9_) | skip)) | ((with_reducible refine gate_dst (N := 103) rfl ?_); (try (refine gate_guard (by rfl) ?_; dsimp only)); refine Kd.N_lit k24 _ 24 ?hg (N' := 103) ?hd (xs := ([(⟨t166, x178001_19, x178002_19, x178003_19, x178004_19, x178005_19, x178006_19, x178007_19, t174⟩ : S24)] : List (S24))) (inner := [.int .i64 t166, .int .i64 x178001_19, .int .i64 x178002_19, .int .i64 x178003_19, .int .i64 x178004_19, .int .i64 x178005_19, .int .i64 x178006_19, .int .i64 x178007_19, .slice Ao26 t174.length co26]) (ok := (fun k_ => some k_ ≠ (v204 : Value).ownBlock ∧ k_ ≠ gb162 ∧ k_ ≠ gb177)) (okp := (fun k_ => some k_ ≠ (v204 : Value).ownBlock ∧ k_ ≠ gb162 ∧ k_ ≠ gb177)) ?hr ?hp (fun _ hk => hk) ((show ∀ k_, (_ : Nat) ≤ k_ → (fun k_ => some k_ ≠ (v204 : Value).ownBlock ∧ k_ ≠ gb162 ∧ k_ ≠ gb177) k_ from fun k_ hk => ⟨Kd.fresh' (Kd.R_lt (tR_ HO205)) k_ hk, Kd.freshB (tk_ BK162) k_ hk, Kd.freshB (tk_ BK177) k_ hk⟩) _ (Nat.le_refl _)) (Below.refl _ _) (Nat.le_refl _) (by simp) ?_; (case hd => rfl); (case hg => rfl); (case hr => exact bld9_ ((.int .i64 0)) ((.int .i64 0)) ((.int .i64 0)) ((.int .i64 0)) ((.int .i64 0)) ((.int .i64 0)) ((.int .i64 0)) ((.int .i64 0)) ((.slice none 0 0)) rfl rfl); (case hp => exact (Reps.c9 (show Kd.FK k24 _ _ (⟨t166, x178001_19, x178002_19, x178003_19, x178004_19, x178005_19, x178006_19, x178007_19, t174⟩ : S24) [.int .i64 t166, .int .i64 x178001_19, .int .i64 x178002_19, .int .i64 x178003_19, .int .i64 x178004_19, .int .i64 x178005_19, .int .i64 x178006_19, .int .i64 x178007_19, .slice Ao26 t174.length co26] from (k24_mkF _ _ (⟨t166, x178001_19, x178002_19, x178003_19, x178004_19, x178005_19, x178006_19, x178007_19, t174⟩ : S24) (Kd.R_reads' (Kd.R_mono (ok' := (fun k_ => some k_ ≠ (v204 : Value).ownBlock ∧ k_ ≠ gb162 ∧ k_ ≠ gb177)) (Kd.R_types (Kd.R_types (Kd.R_apart' (HO_178008.out) (Kd.R_typed HO205.out) (by decide)) BK162.out (by decide)) BK177.out (by decide)) (fun k_ hk => ⟨hk.1.1.2, ⟨hk.1.2, hk.2⟩⟩))).2.1 (Kd.R_F (Kd.R_mono (ok' := (fun k_ => some k_ ≠ (v204 : Value).ownBlock ∧ k_ ≠ gb162 ∧ k_ ≠ gb177)) (Kd.R_types (Kd.R_types (Kd.R_apart' (HO_178008.out) (Kd.R_typed HO205.out) (by decide)) BK162.out (by decide)) BK177.out (by decide)) (fun k_ hk => ⟨hk.1.1.2, ⟨hk.1.2, hk.2⟩⟩))))) (Reps.none _ _))); intro v208 w134 ho135 hb hg_ hnew_; clear hg_ hnew_; (first | rw [← Ny207.out] at ho135 | (simp only [Int.reduceToNat] at ho135; rw [← Ny207.out] at ho135)); have n0_ := Aside0.mk (Kd.R_below (tR_ HO205) hb); have n1_ := Aside0.mk (Kd.N_lower ho135 (below_size (bw_ HB))); have n2_ := Aside0.mk (blk_below (tk_ BK162) hb); have n3_ := Aside0.mk (blk_below (tk_ BK177) hb); have n4_ := Aside0.mk (below_step (bw_ HB) hb); clear HO205; clear BK162; clear BK177; clear HB; clear HO_178008; have HO205 := n0_; have HO209 := n1_; have BK162 := n2_; have BK177 := n3_; have HB := n4_; clear n0_ n1_ n2_ n3_ n4_; clear hb ho135; obtain ⟨Ao136, co136, eo136⟩ := Kd.N_slice HO209.out; subst eo136) | (go_at_call 12; (with_reducible refine (msg_Right.calls k3 _ _ y207 t210 _ ?side1 ?side2 A120.out).mono ?_); (case side1 => repeat (first | exact (Kd.N_reads' HO209.out).2.2 | (with_reducible refine Kd.C_alloc ?_ _) | (with_reducible refine Kd.C_drewN ?_ _) | (with_reducible refine Kd.C_drew ?_))); (case side2 => exact (Kd.N_reads' HO209.out).2.1); rintro e w137 ⟨rfl, hb⟩; (try clear A120); replace HO205 := Aside0.mk (Kd.R_below (tR_ HO205) hb); replace HO209 := Aside0.mk (Kd.N_below (tN_ HO209) hb); replace BK162 := Aside0.mk (blk_below (tk_ BK162) hb); replace BK177 := Aside0.mk (blk_below (tk_ BK177) hb); replace HB := Aside0.mk (below_step (bw_ HB) hb); (try clear hb); (try clear hb2); (try clear hk); (try clear hi)))
        repeat (go_quiet (first | (go_at_call 11; (with_reducible refine (msg_Bytes.calls t166 x178001_19 x178002_19 x178003_19 x178004_19 x178005_19 x178006_19 x178007_19 _ _ t174 t203 t206 _ ?side1 ?side2 A119.out).mono ?_); (case side1 => repeat (first | exact (Kd.R_reads' HO_178008.out).2.2 | (with_reducible refine Kd.C_alloc ?_ _) | (with_reducible refine Kd.C_drewN ?_ _) | (with_reducible refine Kd.C_drew ?_))); (case side2 => exact (Kd.R_reads' HO_178008.out).2.1); rintro e w132 ⟨v204, rfl, ho0, hb⟩; (try clear A119); have HO205 := Aside0.mk (Kd.R_lower ho0 (below_size (bw_ HB))); replace HO_178008 := Aside0.mk (Kd.R_below (tR_ HO_178008) hb); replace BK162 := Aside0.mk (blk_below (tk_ BK162) hb); replace BK177 := Aside0.mk (blk_below (tk_ BK177) hb); replace HB := Aside0.mk (below_step (bw_ HB) hb); (try clear hb); (try clear hb2); (try clear hk); (try clear hi); (try clear ho0); have hcz133_0 := bc_0 BK177; have hcz133_1 := bc_1 BK177; have hcz133_2 := bc_2 BK177; have hcz133_3 := bc_3 BK177; have hcz133_4 := bc_4 BK177; have hcz133_5 := bc_5 BK177; have hcz133_6 := bc_6 BK177; have hcz133_7 := bc_7 BK177; have hcz133_8 : w132.cell? ⟨gb177, 8, none⟩ = some (.slice Ao26 t174.length co26) := (blk_cell BK177.out 8).trans rfl; have hfz133_0 := blk_frozen BK177.out 0; have hfz133_1 := blk_frozen BK177.out 1; have hfz133_2 := blk_frozen BK177.out 2; have hfz133_3 := blk_frozen BK177.out 3; have hfz133_4 := blk_frozen BK177.out 4; have hfz133_5 := blk_frozen BK177.out 5; have hfz133_6 := blk_frozen BK177.out 6; have hfz133_7 := blk_frozen BK177.out 7; have hfz133_8 := blk_frozen BK177.out 8) | ((with_reducible refine gate_dst (N := 103) rfl ?_); (try (refine gate_guard (by rfl) ?_; dsimp only)); refine Kd.N_lit k24 _ 24 ?hg (N' := 103) ?hd (xs := ([(⟨t166, x178001_19, x178002_19, x178003_19, x178004_19, x178005_19, x178006_19, x178007_19, t174⟩ : S24)] : List (S24))) (inner := [.int .i64 t166, .int .i64 x178001_19, .int .i64 x178002_19, .int .i64 x178003_19, .int .i64 x178004_19, .int .i64 x178005_19, .int .i64 x178006_19, .int .i64 x178007_19, .slice Ao26 t174.length co26]) (ok := (fun k_ => some k_ ≠ (v204 : Value).ownBlock ∧ k_ ≠ gb162 ∧ k_ ≠ gb177)) (okp := (fun k_ => some k_ ≠ (v204 : Value).ownBlock ∧ k_ ≠ gb162 ∧ k_ ≠ gb177)) ?hr ?hp (fun _ hk => hk) ((show ∀ k_, (_ : Nat) ≤ k_ → (fun k_ => some k_ ≠ (v204 : Value).ownBlock ∧ k_ ≠ gb162 ∧ k_ ≠ gb177) k_ from fun k_ hk => ⟨Kd.fresh' (Kd.R_lt (tR_ HO205)) k_ hk, Kd.freshB (tk_ BK162) k_ hk, Kd.freshB (tk_ BK177) k_ hk⟩) _ (Nat.le_refl _)) (Below.refl _ _) (Nat.le_refl _) (by simp) ?_; (case hd => rfl); (case hg => rfl); (case hr => exact bld9_ ((.int .i64 0)) ((.int .i64 0)) ((.int .i64 0)) ((.int .i64 0)) ((.int .i64 0)) ((.int .i64 0)) ((.int .i64 0)) ((.int .i64 0)) ((.slice none 0 0)) rfl rfl); (case hp => exact (Reps.c9 (show Kd.FK k24 _ _ (⟨t166, x178001_19, x178002_19, x178003_19, x178004_19, x178005_19, x178006_19, x178007_19, t174⟩ : S24) [.int .i64 t166, .int .i64 x178001_19, .int .i64 x178002_19, .int .i64 x178003_19, .int .i64 x178004_19, .int .i64 x178005_19, .int .i64 x178006_19, .int .i64 x178007_19, .slice Ao26 t174.length co26] from (k24_mkF _ _ (⟨t166, x178001_19, x178002_19, x178003_19, x178004_19, x178005_19, x178006_19, x178007_19, t174⟩ : S24) (Kd.R_reads' (Kd.R_mono (ok' := (fun k_ => some k_ ≠ (v204 : Value).ownBlock ∧ k_ ≠ gb162 ∧ k_ ≠ gb177)) (Kd.R_types (Kd.R_types (Kd.R_apart' (HO_178008.out) (Kd.R_typed HO205.out) (by decide)) BK162.out (by decide)) BK177.out (by decide)) (fun k_ hk => ⟨hk.1.1.2, ⟨hk.1.2, hk.2⟩⟩))).2.1 (Kd.R_F (Kd.R_mono (ok' := (fun k_ => some k_ ≠ (v204 : Value).ownBlock ∧ k_ ≠ gb162 ∧ k_ ≠ gb177)) (Kd.R_types (Kd.R_types (Kd.R_apart' (HO_178008.out) (Kd.R_typed HO205.out) (by decide)) BK162.out (by decide)) BK177.out (by decide)) (fun k_ hk => ⟨hk.1.1.2, ⟨hk.1.2, hk.2⟩⟩))))) (Reps.none _ _))); intro v208 w134 ho135 hb hg_ hnew_; clear hg_ hnew_; (first | rw [← Ny207.out] at ho135 | (simp only [Int.reduceToNat] at ho135; rw [← Ny207.out] at ho135)); have n0_ := Aside0.mk (Kd.R_below (tR_ HO205) hb); have n1_ := Aside0.mk (Kd.N_lower ho135 (below_size (bw_ HB))); have n2_ := Aside0.mk (blk_below (tk_ BK162) hb); have n3_ := Aside0.mk (blk_below (tk_ BK177) hb); have n4_ := Aside0.mk (below_step (bw_ HB) hb); clear HO205; clear BK162; clear BK177; clear HB; clear HO_178008; have HO205 := n0_; have HO209 := n1_; have BK162 := n2_; have BK177 := n3_; have HB := n4_; clear n0_ n1_ n2_ n3_ n4_; clear hb ho135; obtain ⟨Ao136, co136, eo136⟩ := Kd.N_slice HO209.out; subst eo136) | (go_at_call 12; (with_reducible refine (msg_Right.calls k3 _ _ y207 t210 _ ?side1 ?side2 A120.out).mono ?_); (case side1 => repeat (first | exact (Kd.N_reads' HO209.out).2.2 | (with_reducible refine Kd.C_alloc ?_ _) | (with_reducible refine Kd.C_drewN ?_ _) | (with_reducible refine Kd.C_drew ?_))); (case side2 => exact (Kd.N_reads' HO209.out).2.1); rintro e w137 ⟨rfl, hb⟩; (try clear A120); replace HO205 := Aside0.mk (Kd.R_below (tR_ HO205) hb); replace HO209 := Aside0.mk (Kd.N_below (tN_ HO209) hb); replace BK162 := Aside0.mk (blk_below (tk_ BK162) hb); replace BK177 := Aside0.mk (blk_below (tk_ BK177) hb); replace HB := Aside0.mk (below_step (bw_ HB) hb); (try clear hb); (try clear hb2); (try clear hk); (try clear hi))); try go_wp2_with (first | (go_at_call 11; (with_reducible refine (msg_Bytes.calls t166 x178001_19 x178002_19 x178003_19 x178004_19 x178005_19 x178006_19 x178007_19 _ _ t174 t203 t206 _ ?side1 ?side2 A119.out).mono ?_); (case side1 => repeat (first | exact (Kd.R_reads' HO_178008.out).2.2 | (with_reducible refine Kd.C_alloc ?_ _) | (with_reducible refine Kd.C_drewN ?_ _) | (with_reducible refine Kd.C_drew ?_))); (case side2 => exact (Kd.R_reads' HO_178008.out).2.1); rintro e w132 ⟨v204, rfl, ho0, hb⟩; (try clear A119); have HO205 := Aside0.mk (Kd.R_lower ho0 (below_size (bw_ HB))); replace HO_178008 := Aside0.mk (Kd.R_below (tR_ HO_178008) hb); replace BK162 := Aside0.mk (blk_below (tk_ BK162) hb); replace BK177 := Aside0.mk (blk_below (tk_ BK177) hb); replace HB := Aside0.mk (below_step (bw_ HB) hb); (try clear hb); (try clear hb2); (try clear hk); (try clear hi); (try clear ho0); have hcz133_0 := bc_0 BK177; have hcz133_1 := bc_1 BK177; have hcz133_2 := bc_2 BK177; have hcz133_3 := bc_3 BK177; have hcz133_4 := bc_4 BK177; have hcz133_5 := bc_5 BK177; have hcz133_6 := bc_6 BK177; have hcz133_7 := bc_7 BK177; have hcz133_8 : w132.cell? ⟨gb177, 8, none⟩ = some (.slice Ao26 t174.length co26) := (blk_cell BK177.out 8).trans rfl; have hfz133_0 := blk_frozen BK177.out 0; have hfz133_1 := blk_frozen BK177.out 1; have hfz133_2 := blk_frozen BK177.out 2; have hfz133_3 := blk_frozen BK177.out 3; have hfz133_4 := blk_frozen BK177.out 4; have hfz133_5 := blk_frozen BK177.out 5; have hfz133_6 := blk_frozen BK177.out 6; have hfz133_7 := blk_frozen BK177.out 7; have hfz133_8 := blk_frozen BK177.out 8) | ((with_reducible refine gate_dst (N := 103) rfl ?_); (try (refine gate_guard (by rfl) ?_; dsimp only)); refine Kd.N_lit k24 _ 24 ?hg (N' := 103) ?hd (xs := ([(⟨t166, x178001_19, x178002_19, x178003_19, x178004_19, x178005_19, x178006_19, x178007_19, t174⟩ : S24)] : List (S24))) (inner := [.int .i64 t166, .int .i64 x178001_19, .int .i64 x178002_19, .int .i64 x178003_19, .int .i64 x178004_19, .int .i64 x178005_19, .int .i64 x178006_19, .int .i64 x178007_19, .slice Ao26 t174.length co26]) (ok := (fun k_ => some k_ ≠ (v204 : Value).ownBlock ∧ k_ ≠ gb162 ∧ k_ ≠ gb177)) (okp := (fun k_ => some k_ ≠ (v204 : Value).ownBlock ∧ k_ ≠ gb162 ∧ k_ ≠ gb177)) ?hr ?hp (fun _ hk => hk) ((show ∀ k_, (_ : Nat) ≤ k_ → (fun k_ => some k_ ≠ (v204 : Value).ownBlock ∧ k_ ≠ gb162 ∧ k_ ≠ gb177) k_ from fun k_ hk => ⟨Kd.fresh' (Kd.R_lt (tR_ HO205)) k_ hk, Kd.freshB (tk_ BK162) k_ hk, Kd.freshB (tk_ BK177) k_ hk⟩) _ (Nat.le_refl _)) (Below.refl _ _) (Nat.le_refl _) (by simp) ?_; (case hd => rfl); (case hg => rfl); (case hr => exact bld9_ ((.int .i64 0)) ((.int .i64 0)) ((.int .i64 0)) ((.int .i64 0)) ((.int .i64 0)) ((.int .i64 0)) ((.int .i64 0)) ((.int .i64 0)) ((.slice none 0 0)) rfl rfl); (case hp => exact (Reps.c9 (show Kd.FK k24 _ _ (⟨t166, x178001_19, x178002_19, x178003_19, x178004_19, x178005_19, x178006_19, x178007_19, t174⟩ : S24) [.int .i64 t166, .int .i64 x178001_19, .int .i64 x178002_19, .int .i64 x178003_19, .int .i64 x178004_19, .int .i64 x178005_19, .int .i64 x178006_19, .int .i64 x178007_19, .slice Ao26 t174.length co26] from (k24_mkF _ _ (⟨t166, x178001_19, x178002_19, x178003_19, x178004_19, x178005_19, x178006_19, x178007_19, t174⟩ : S24) (Kd.R_reads' (Kd.R_mono (ok' := (fun k_ => some k_ ≠ (v204 : Value).ownBlock ∧ k_ ≠ gb162 ∧ k_ ≠ gb177)) (Kd.R_types (Kd.R_types (Kd.R_apart' (HO_178008.out) (Kd.R_typed HO205.out) (by decide)) BK162.out (by decide)) BK177.out (by decide)) (fun k_ hk => ⟨hk.1.1.2, ⟨hk.1.2, hk.2⟩⟩))).2.1 (Kd.R_F (Kd.R_mono (ok' := (fun k_ => some k_ ≠ (v204 : Value).ownBlock ∧ k_ ≠ gb162 ∧ k_ ≠ gb177)) (Kd.R_types (Kd.R_types (Kd.R_apart' (HO_178008.out) (Kd.R_typed HO205.out) (by decide)) BK162.out (by decide)) BK177.out (by decide)) (fun k_ hk => ⟨hk.1.1.2, ⟨hk.1.2, hk.2⟩⟩))))) (Reps.none _ _))); intro v208 w134 ho135 hb hg_ hnew_; clear hg_ hnew_; (first | rw [← Ny207.out] at ho135 | (simp only [Int.reduceToNat] at ho135; rw [← Ny207.out] at ho135)); have n0_ := Aside0.mk (Kd.R_below (tR_ HO205) hb); have n1_ := Aside0.mk (Kd.N_lower ho135 (below_size (bw_ HB))); have n2_ := Aside0.mk (blk_below (tk_ BK162) hb); have n3_ := Aside0.mk (blk_below (tk_ BK177) hb); have n4_ := Aside0.mk (below_step (bw_ HB) hb); clear HO205; clear BK162; clear BK177; clear HB; clear HO_178008; have HO205 := n0_; have HO209 := n1_; have BK162 := n2_; have BK177 := n3_; have HB := n4_; clear n0_ n1_ n2_ n3_ n4_; clear hb ho135; obtain ⟨Ao136, co136, eo136⟩ := Kd.N_slice HO209.out; subst eo136) | (go_at_call 12; (with_reducible refine (msg_Right.calls k3 _ _ y207 t210 _ ?side1 ?side2 A120.out).mono ?_); (case side1 => repeat (first | exact (Kd.N_reads' HO209.out).2.2 | (with_reducible refine Kd.C_alloc ?_ _) | (with_reducible refine Kd.C_drewN ?_ _) | (with_reducible refine Kd.C_drew ?_))); (case side2 => exact (Kd.N_reads' HO209.out).2.1); rintro e w137 ⟨rfl, hb⟩; (try clear A120); replace HO205 := Aside0.mk (Kd.R_below (tR_ HO205) hb); replace HO209 := Aside0.mk (Kd.N_below (tN_ HO209) hb); replace BK162 := Aside0.mk (blk_below (tk_ BK162) hb); replace BK177 := Aside0.mk (blk_below (tk_ BK177) hb); replace HB := Aside0.mk (below_step (bw_ HB) hb); (try clear hb); (try clear hb2); (try clear hk); (try clear hi))))
        go_ret
        exact ⟨by first | rfl | (simp [errW_none, errW_some] <;> rfl) | (simp [*, errW_none, errW_some] <;> rfl), by repeat (first | (with_reducible first | exact HB.out | apply b_a | apply b_n | apply b_d | refine b_s ?_ GE162.out | refine b_s ?_ GE177.out) | exact HB.out)⟩

       subst c79
       have H1 : (if a2 > 0 then ((msg_Bytes.f t166 x178001_19 x178002_19 x178003_19 x178004_19 x178005_19 x178006_19 x178007_19 t174).bind fun bt187 => ((msg_Right.f k3 (([(⟨t166, x178001_19, x178002_19, x178003_19, x178004_19, x178005_19, x178006_19, x178007_19, t174⟩ : S24)] : List (S24)))).bind fun t194 => (if (t194 == (decide (a2 < 1099511627776))) = true then (some ((bt187.2 == 0) == (decide (a2 < 1099511627776)))) else (some false)))) else ((msg_Bytes.f t166 x178001_19 x178002_19 x178003_19 x178004_19 x178005_19 x178006_19 x178007_19 t174).bind fun bt195 => ((msg_Right.f k3 (([(⟨t166, x178001_19, x178002_19, x178003_19, x178004_19, x178005_19, x178006_19, x178007_19, t174⟩ : S24)] : List (S24)))).bind fun t202 => (if (t202 == false) = true then (some ((bt195.2 == 0) == false)) else (some false))))) = some r := by rw [if_pos rfl] at H; exact H
       clear H
       have H := H1
       clear H1
       by_cases c80 : a2 > 0
       ·
        rw [if_pos c80] at H
        have c80b0 : decide (0 < a2) = true := decide_eq_true c80
        clear c80
        replace H := Option.bind_eq_some_iff.mp H
        obtain ⟨⟨t187, t190⟩, A810, H⟩ := H
        replace H : ((msg_Right.f k3 (([(⟨t166, x178001_19, x178002_19, x178003_19, x178004_19, x178005_19, x178006_19, x178007_19, t174⟩ : S24)] : List (S24)))).bind fun t194 => (if (t194 == (decide (a2 < 1099511627776))) = true then (some ((t190 == 0) == (decide (a2 < 1099511627776)))) else (some false))) = some r := H
        have A81 := Aside0.mk A810
        clear A810
        obtain ⟨y191, hy191⟩ : ∃ y_ : List (S24), y_ = (([(⟨t166, x178001_19, x178002_19, x178003_19, x178004_19, x178005_19, x178006_19, x178007_19, t174⟩ : S24)] : List (S24))) := ⟨_, rfl⟩
        replace H : ((msg_Right.f k3 y191).bind fun t194 => (if (t194 == (decide (a2 < 1099511627776))) = true then (some ((t190 == 0) == (decide (a2 < 1099511627776)))) else (some false))) = some r := by first | (rw [hy191]; with_reducible exact H) | (have H2_ := (Option.bind_some _ _).symm.trans H; rw [hy191]; with_reducible exact H2_) | (have H2_ := (Option.bind_some _ _).symm.trans H; with_reducible exact H2_) | with_reducible exact H | (rw [hy191]; exact H) | exact H
        have Ny191 := Aside0.mk hy191
        clear hy191
        replace H := Option.bind_eq_some_iff.mp H
        obtain ⟨t194, A820, H⟩ := H
        replace H : (if (t194 == (decide (a2 < 1099511627776))) = true then (some ((t190 == 0) == (decide (a2 < 1099511627776)))) else (some false)) = some r := H
        have A82 := Aside0.mk A820
        clear A820
        by_cases c83 : (t194 == (decide (a2 < 1099511627776))) = true
        ·
         rw [if_pos c83] at H
         have c83b0 : (t194 == (decide (a2 < 1099511627776))) = true := c83
         (try (have c83b1 : decide (t194 = (decide (a2 < 1099511627776))) = true := by simpa using c83))
         (try (have c83b2 : (t194 == (decide (a2 < 1099511627776))) = true := by simpa using c83))
         clear c83
         obtain rfl := Option.some.inj H
         have hnb84 := NB177_162.out
         have hnc84 := NB162_177.out
         have hcz85_0 := bc_0 BK177
         have hcz85_1 := bc_1 BK177
         have hcz85_2 := bc_2 BK177
         have hcz85_3 := bc_3 BK177
         have hcz85_4 := bc_4 BK177
         have hcz85_5 := bc_5 BK177
         have hcz85_6 := bc_6 BK177
         have hcz85_7 := bc_7 BK177
         have hcz85_8 : wr.cell? ⟨gb177, 8, none⟩ = some (.slice Ao26 t174.length co26) := (blk_cell BK177.out 8).trans rfl
         have hfz85_0 := blk_frozen BK177.out 0
         have hfz85_1 := blk_frozen BK177.out 1
         have hfz85_2 := blk_frozen BK177.out 2
         have hfz85_3 := blk_frozen BK177.out 3
         have hfz85_4 := blk_frozen BK177.out 4
         have hfz85_5 := blk_frozen BK177.out 5
         have hfz85_6 := blk_frozen BK177.out 6
         have hfz85_7 := blk_frozen BK177.out 7
         have hfz85_8 := blk_frozen BK177.out 8
         go_wp2_with (first | (go_at_call 11; (with_reducible refine (msg_Bytes.calls t166 x178001_19 x178002_19 x178003_19 x178004_19 x178005_19 x178006_19 x178007_19 _ _ t174 t187 t190 _ ?side1 ?side2 A81.out).mono ?_); (case side1 => repeat (first | exact (Kd.R_reads' HO_178008.out).2.2 | (with_reducible refine Kd.C_alloc ?_ _) | (with_reducible refine Kd.C_drewN ?_ _) | (with_reducible refine Kd.C_drew ?_))); (case side2 => exact (Kd.R_reads' HO_178008.out).2.1); rintro e w86 ⟨v188, rfl, ho0, hb⟩; (try clear A81); have HO189 := Aside0.mk (Kd.R_lower ho0 (below_size (bw_ HB))); replace HO_178008 := Aside0.mk (Kd.R_below (tR_ HO_178008) hb); replace BK162 := Aside0.mk (blk_below (tk_ BK162) hb); replace BK177 := Aside0.mk (blk_below (tk_ BK177) hb); replace HB := Aside0.mk (below_step (bw_ HB) hb); (try clear hb); (try clear hb2); (try clear hk); (try clear hi); (try clear ho0); have hcz87_0 := bc_0 BK177; have hcz87_1 := bc_1 BK177; have hcz87_2 := bc_2 BK177; have hcz87_3 := bc_3 BK177; have hcz87_4 := bc_4 BK177; have hcz87_5 := bc_5 BK177; have hcz87_6 := bc_6 BK177; have hcz87_7 := bc_7 BK177; have hcz87_8 : w86.cell? ⟨gb177, 8, none⟩ = some (.slice Ao26 t174.length co26) := (blk_cell BK177.out 8).trans rfl; have hfz87_0 := blk_frozen BK177.out 0; have hfz87_1 := blk_frozen BK177.out 1; have hfz87_2 := blk_frozen BK177.out 2; have hfz87_3 := blk_frozen BK177.out 3; have hfz87_4 := blk_frozen BK177.out 4; have hfz87_5 := blk_frozen BK177.out 5; have hfz87_6 := blk_frozen BK177.out 6; have hfz87_7 := blk_frozen BK177.out 7; have hfz87_8 := blk_frozen BK177.out 8; (first | ((with_reducible refine gate_store_ rfl ?_); refine st9_ rfl rfl rfl rfl rfl (by with_reducible assumption) (by kernel_rfl) (by simp [Value.oneCell']) ?_; clear hcz87_0 hfz87_0 hcz87_1 hfz87_1 hcz87_2 hfz87_2 hcz87_3 hfz87_3 hcz87_4 hfz87_4 hcz87_5 hfz87_5 hcz87_6 hfz87_6 hcz87_7 hfz87_7 hcz87_8 hfz87_8; intro hb9_; have BN87 := Aside0.mk hb9_; clear hb9_) | skip)) | ((with_reducible refine gate_dst (N := 103) rfl ?_); (try (refine gate_guard (by rfl) ?_; dsimp only)); refine Kd.N_lit k24 _ 24 ?hg (N' := 103) ?hd (xs := ([(⟨t166, x178001_19, x178002_19, x178003_19, x178004_19, x178005_19, x178006_19, x178007_19, t174⟩ : S24)] : List (S24))) (inner := [.int .i64 t166, .int .i64 x178001_19, .int .i64 x178002_19, .int .i64 x178003_19, .int .i64 x178004_19, .int .i64 x178005_19, .int .i64 x178006_19, .int .i64 x178007_19, .slice Ao26 t174.length co26]) (ok := (fun k_ => some k_ ≠ (v188 : Value).ownBlock ∧ k_ ≠ gb162 ∧ k_ ≠ gb177)) (okp := (fun k_ => some k_ ≠ (v188 : Value).ownBlock ∧ k_ ≠ gb162 ∧ k_ ≠ gb177)) ?hr ?hp (fun _ hk => hk) ((show ∀ k_, (_ : Nat) ≤ k_ → (fun k_ => some k_ ≠ (v188 : Value).ownBlock ∧ k_ ≠ gb162 ∧ k_ ≠ gb177) k_ from fun k_ hk => ⟨Kd.fresh' (Kd.R_lt (tR_ HO189)) k_ hk, Kd.freshB (tk_ BK162) k_ hk, Kd.freshB (tk_ BK177) k_ hk⟩) _ (Nat.le_refl _)) (Below.refl _ _) (Nat.le_refl _) (by simp) ?_; (case hd => rfl); (case hg => rfl); (case hr => exact bld9_ ((.int .i64 0)) ((.int .i64 0)) ((.int .i64 0)) ((.int .i64 0)) ((.int .i64 0)) ((.int .i64 0)) ((.int .i64 0)) ((.int .i64 0)) ((.slice none 0 0)) rfl rfl); (case hp => exact (Reps.c9 (show Kd.FK k24 _ _ (⟨t166, x178001_19, x178002_19, x178003_19, x178004_19, x178005_19, x178006_19, x178007_19, t174⟩ : S24) [.int .i64 t166, .int .i64 x178001_19, .int .i64 x178002_19, .int .i64 x178003_19, .int .i64 x178004_19, .int .i64 x178005_19, .int .i64 x178006_19, .int .i64 x178007_19, .slice Ao26 t174.length co26] from (k24_mkF _ _ (⟨t166, x178001_19, x178002_19, x178003_19, x178004_19, x178005_19, x178006_19, x178007_19, t174⟩ : S24) (Kd.R_reads' (Kd.R_mono (ok' := (fun k_ => some k_ ≠ (v188 : Value).ownBlock ∧ k_ ≠ gb162 ∧ k_ ≠ gb177)) (Kd.R_types (Kd.R_types (Kd.R_apart' (HO_178008.out) (Kd.R_typed HO189.out) (by decide)) BK162.out (by decide)) BK177.out (by decide)) (fun k_ hk => ⟨hk.1.1.2, ⟨hk.1.2, hk.2⟩⟩))).2.1 (Kd.R_F (Kd.R_mono (ok' := (fun k_ => some k_ ≠ (v188 : Value).ownBlock ∧ k_ ≠ gb162 ∧ k_ ≠ gb177)) (Kd.R_types (Kd.R_types (Kd.R_apart' (HO_178008.out) (Kd.R_typed HO189.out) (by decide)) BK162.out (by decide)) BK177.out (by decide)) (fun k_ hk => ⟨hk.1.1.2, ⟨hk.1.2, hk.2⟩⟩))))) (Reps.none _ _))); intro v192 w88 ho89 hb hg_ hnew_; clear hg_ hnew_; (first | rw [← Ny191.out] at ho89 | (simp only [Int.reduceToNat] at ho89; rw [← Ny191.out] at ho89)); have n0_ := Aside0.mk (Kd.R_below (tR_ HO189) hb); have n1_ := Aside0.mk (Kd.N_lower ho89 (below_size (bw_ HB))); have n2_ := Aside0.mk (blk_below (tk_ BK162) hb); have n3_ := Aside0.mk (blk_below (tk_ BK177) hb); have n4_ := Aside0.mk (below_step (bw_ HB) hb); clear HO189; clear BK162; clear BK177; clear HB; clear HO_178008; have HO189 := n0_; have HO193 := n1_; have BK162 := n2_; have BK177 := n3_; have HB := n4_; clear n0_ n1_ n2_ n3_ n4_; clear hb ho89; obtain ⟨Ao90, co90, eo90⟩ := Kd.N_slice HO193.out; subst eo90) | (go_at_call 12; (with_reducible refine (msg_Right.calls k3 _ _ y191 t194 _ ?side1 ?side2 A82.out).mono ?_); (case side1 => repeat (first | exact (Kd.N_reads' HO193.out).2.2 | (with_reducible refine Kd.C_alloc ?_ _) | (with_reducible refine Kd.C_drewN ?_ _) | (with_reducible refine Kd.C_drew ?_))); (case side2 => exact (Kd.N_reads' HO193.out).2.1); rintro e w91 ⟨rfl, hb⟩; (try clear A82); replace HO189 := Aside0.mk (Kd.R_below (tR_ HO189) hb); replace HO193 := Aside0.mk (Kd.N_below (tN_ HO193) hb); replace BK162 := Aside0.mk (blk_below (tk_ BK162) hb); replace BK177 := Aside0.mk (blk_below (tk_ BK177) hb); replace HB := Aside0.mk (below_step (bw_ HB) hb); (try clear hb); (try clear hb2); (try clear hk); (try clear hi)))
         repeat (go_quiet (first | (go_at_call 11; (with_reducible refine (msg_Bytes.calls t166 x178001_19 x178002_19 x178003_19 x178004_19 x178005_19 x178006_19 x178007_19 _ _ t174 t187 t190 _ ?side1 ?side2 A81.out).mono ?_); (case side1 => repeat (first | exact (Kd.R_reads' HO_178008.out).2.2 | (with_reducible refine Kd.C_alloc ?_ _) | (with_reducible refine Kd.C_drewN ?_ _) | (with_reducible refine Kd.C_drew ?_))); (case side2 => exact (Kd.R_reads' HO_178008.out).2.1); rintro e w86 ⟨v188, rfl, ho0, hb⟩; (try clear A81); have HO189 := Aside0.mk (Kd.R_lower ho0 (below_size (bw_ HB))); replace HO_178008 := Aside0.mk (Kd.R_below (tR_ HO_178008) hb); replace BK162 := Aside0.mk (blk_below (tk_ BK162) hb); replace BK177 := Aside0.mk (blk_below (tk_ BK177) hb); replace HB := Aside0.mk (below_step (bw_ HB) hb); (try clear hb); (try clear hb2); (try clear hk); (try clear hi); (try clear ho0); have hcz87_0 := bc_0 BK177; have hcz87_1 := bc_1 BK177; have hcz87_2 := bc_2 BK177; have hcz87_3 := bc_3 BK177; have hcz87_4 := bc_4 BK177; have hcz87_5 := bc_5 BK177; have hcz87_6 := bc_6 BK177; have hcz87_7 := bc_7 BK177; have hcz87_8 : w86.cell? ⟨gb177, 8, none⟩ = some (.slice Ao26 t174.length co26) := (blk_cell BK177.out 8).trans rfl; have hfz87_0 := blk_frozen BK177.out 0; have hfz87_1 := blk_frozen BK177.out 1; have hfz87_2 := blk_frozen BK177.out 2; have hfz87_3 := blk_frozen BK177.out 3; have hfz87_4 := blk_frozen BK177.out 4; have hfz87_5 := blk_frozen BK177.out 5; have hfz87_6 := blk_frozen BK177.out 6; have hfz87_7 := blk_frozen BK177.out 7; have hfz87_8 := blk_frozen BK177.out 8) | ((with_reducible refine gate_dst (N := 103) rfl ?_); (try (refine gate_guard (by rfl) ?_; dsimp only)); refine Kd.N_lit k24 _ 24 ?hg (N' := 103) ?hd (xs := ([(⟨t166, x178001_19, x178002_19, x178003_19, x178004_19, x178005_19, x178006_19, x178007_19, t174⟩ : S24)] : List (S24))) (inner := [.int .i64 t166, .int .i64 x178001_19, .int .i64 x178002_19, .int .i64 x178003_19, .int .i64 x178004_19, .int .i64 x178005_19, .int .i64 x178006_19, .int .i64 x178007_19, .slice Ao26 t174.length co26]) (ok := (fun k_ => some k_ ≠ (v188 : Value).ownBlock ∧ k_ ≠ gb162 ∧ k_ ≠ gb177)) (okp := (fun k_ => some k_ ≠ (v188 : Value).ownBlock ∧ k_ ≠ gb162 ∧ k_ ≠ gb177)) ?hr ?hp (fun _ hk => hk) ((show ∀ k_, (_ : Nat) ≤ k_ → (fun k_ => some k_ ≠ (v188 : Value).ownBlock ∧ k_ ≠ gb162 ∧ k_ ≠ gb177) k_ from fun k_ hk => ⟨Kd.fresh' (Kd.R_lt (tR_ HO189)) k_ hk, Kd.freshB (tk_ BK162) k_ hk, Kd.freshB (tk_ BK177) k_ hk⟩) _ (Nat.le_refl _)) (Below.refl _ _) (Nat.le_refl _) (by simp) ?_; (case hd => rfl); (case hg => rfl); (case hr => exact bld9_ ((.int .i64 0)) ((.int .i64 0)) ((.int .i64 0)) ((.int .i64 0)) ((.int .i64 0)) ((.int .i64 0)) ((.int .i64 0)) ((.int .i64 0)) ((.slice none 0 0)) rfl rfl); (case hp => exact (Reps.c9 (show Kd.FK k24 _ _ (⟨t166, x178001_19, x178002_19, x178003_19, x178004_19, x178005_19, x178006_19, x178007_19, t174⟩ : S24) [.int .i64 t166, .int .i64 x178001_19, .int .i64 x178002_19, .int .i64 x178003_19, .int .i64 x178004_19, .int .i64 x178005_19, .int .i64 x178006_19, .int .i64 x178007_19, .slice Ao26 t174.length co26] from (k24_mkF _ _ (⟨t166, x178001_19, x178002_19, x178003_19, x178004_19, x178005_19, x178006_19, x178007_19, t174⟩ : S24) (Kd.R_reads' (Kd.R_mono (ok' := (fun k_ => some k_ ≠ (v188 : Value).ownBlock ∧ k_ ≠ gb162 ∧ k_ ≠ gb177)) (Kd.R_types (Kd.R_types (Kd.R_apart' (HO_178008.out) (Kd.R_typed HO189.out) (by decide)) BK162.out (by decide)) BK177.out (by decide)) (fun k_ hk => ⟨hk.1.1.2, ⟨hk.1.2, hk.2⟩⟩))).2.1 (Kd.R_F (Kd.R_mono (ok' := (fun k_ => some k_ ≠ (v188 : Value).ownBlock ∧ k_ ≠ gb162 ∧ k_ ≠ gb177)) (Kd.R_types (Kd.R_types (Kd.R_apart' (HO_178008.out) (Kd.R_typed HO189.out) (by decide)) BK162.out (by decide)) BK177.out (by decide)) (fun k_ hk => ⟨hk.1.1.2, ⟨hk.1.2, hk.2⟩⟩))))) (Reps.none _ _))); intro v192 w88 ho89 hb hg_ hnew_; clear hg_ hnew_; (first | rw [← Ny191.out] at ho89 | (simp only [Int.reduceToNat] at ho89; rw [← Ny191.out] at ho89)); have n0_ := Aside0.mk (Kd.R_below (tR_ HO189) hb); have n1_ := Aside0.mk (Kd.N_lower ho89 (below_size (bw_ HB))); have n2_ := Aside0.mk (blk_below (tk_ BK162) hb); have n3_ := Aside0.mk (blk_below (tk_ BK177) hb); have n4_ := Aside0.mk (below_step (bw_ HB) hb); clear HO189; clear BK162; clear BK177; clear HB; clear HO_178008; have HO189 := n0_; have HO193 := n1_; have BK162 := n2_; have BK177 := n3_; have HB := n4_; clear n0_ n1_ n2_ n3_ n4_; clear hb ho89; obtain ⟨Ao90, co90, eo90⟩ := Kd.N_slice HO193.out; subst eo90) | (go_at_call 12; (with_reducible refine (msg_Right.calls k3 _ _ y191 t194 _ ?side1 ?side2 A82.out).mono ?_); (case side1 => repeat (first | exact (Kd.N_reads' HO193.out).2.2 | (with_reducible refine Kd.C_alloc ?_ _) | (with_reducible refine Kd.C_drewN ?_ _) | (with_reducible refine Kd.C_drew ?_))); (case side2 => exact (Kd.N_reads' HO193.out).2.1); rintro e w91 ⟨rfl, hb⟩; (try clear A82); replace HO189 := Aside0.mk (Kd.R_below (tR_ HO189) hb); replace HO193 := Aside0.mk (Kd.N_below (tN_ HO193) hb); replace BK162 := Aside0.mk (blk_below (tk_ BK162) hb); replace BK177 := Aside0.mk (blk_below (tk_ BK177) hb); replace HB := Aside0.mk (below_step (bw_ HB) hb); (try clear hb); (try clear hb2); (try clear hk); (try clear hi))); try go_wp2_with (first | (go_at_call 11; (with_reducible refine (msg_Bytes.calls t166 x178001_19 x178002_19 x178003_19 x178004_19 x178005_19 x178006_19 x178007_19 _ _ t174 t187 t190 _ ?side1 ?side2 A81.out).mono ?_); (case side1 => repeat (first | exact (Kd.R_reads' HO_178008.out).2.2 | (with_reducible refine Kd.C_alloc ?_ _) | (with_reducible refine Kd.C_drewN ?_ _) | (with_reducible refine Kd.C_drew ?_))); (case side2 => exact (Kd.R_reads' HO_178008.out).2.1); rintro e w86 ⟨v188, rfl, ho0, hb⟩; (try clear A81); have HO189 := Aside0.mk (Kd.R_lower ho0 (below_size (bw_ HB))); replace HO_178008 := Aside0.mk (Kd.R_below (tR_ HO_178008) hb); replace BK162 := Aside0.mk (blk_below (tk_ BK162) hb); replace BK177 := Aside0.mk (blk_below (tk_ BK177) hb); replace HB := Aside0.mk (below_step (bw_ HB) hb); (try clear hb); (try clear hb2); (try clear hk); (try clear hi); (try clear ho0); have hcz87_0 := bc_0 BK177; have hcz87_1 := bc_1 BK177; have hcz87_2 := bc_2 BK177; have hcz87_3 := bc_3 BK177; have hcz87_4 := bc_4 BK177; have hcz87_5 := bc_5 BK177; have hcz87_6 := bc_6 BK177; have hcz87_7 := bc_7 BK177; have hcz87_8 : w86.cell? ⟨gb177, 8, none⟩ = some (.slice Ao26 t174.length co26) := (blk_cell BK177.out 8).trans rfl; have hfz87_0 := blk_frozen BK177.out 0; have hfz87_1 := blk_frozen BK177.out 1; have hfz87_2 := blk_frozen BK177.out 2; have hfz87_3 := blk_frozen BK177.out 3; have hfz87_4 := blk_frozen BK177.out 4; have hfz87_5 := blk_frozen BK177.out 5; have hfz87_6 := blk_frozen BK177.out 6; have hfz87_7 := blk_frozen BK177.out 7; have hfz87_8 := blk_frozen BK177.out 8) | ((with_reducible refine gate_dst (N := 103) rfl ?_); (try (refine gate_guard (by rfl) ?_; dsimp only)); refine Kd.N_lit k24 _ 24 ?hg (N' := 103) ?hd (xs := ([(⟨t166, x178001_19, x178002_19, x178003_19, x178004_19, x178005_19, x178006_19, x178007_19, t174⟩ : S24)] : List (S24))) (inner := [.int .i64 t166, .int .i64 x178001_19, .int .i64 x178002_19, .int .i64 x178003_19, .int .i64 x178004_19, .int .i64 x178005_19, .int .i64 x178006_19, .int .i64 x178007_19, .slice Ao26 t174.length co26]) (ok := (fun k_ => some k_ ≠ (v188 : Value).ownBlock ∧ k_ ≠ gb162 ∧ k_ ≠ gb177)) (okp := (fun k_ => some k_ ≠ (v188 : Value).ownBlock ∧ k_ ≠ gb162 ∧ k_ ≠ gb177)) ?hr ?hp (fun _ hk => hk) ((show ∀ k_, (_ : Nat) ≤ k_ → (fun k_ => some k_ ≠ (v188 : Value).ownBlock ∧ k_ ≠ gb162 ∧ k_ ≠ gb177) k_ from fun k_ hk => ⟨Kd.fresh' (Kd.R_lt (tR_ HO189)) k_ hk, Kd.freshB (tk_ BK162) k_ hk, Kd.freshB (tk_ BK177) k_ hk⟩) _ (Nat.le_refl _)) (Below.refl _ _) (Nat.le_refl _) (by simp) ?_; (case hd => rfl); (case hg => rfl); (case hr => exact bld9_ ((.int .i64 0)) ((.int .i64 0)) ((.int .i64 0)) ((.int .i64 0)) ((.int .i64 0)) ((.int .i64 0)) ((.int .i64 0)) ((.int .i64 0)) ((.slice none 0 0)) rfl rfl); (case hp => exact (Reps.c9 (show Kd.FK k24 _ _ (⟨t166, x178001_19, x178002_19, x178003_19, x178004_19, x178005_19, x178006_19, x178007_19, t174⟩ : S24) [.int .i64 t166, .int .i64 x178001_19, .int .i64 x178002_19, .int .i64 x178003_19, .int .i64 x178004_19, .int .i64 x178005_19, .int .i64 x178006_19, .int .i64 x178007_19, .slice Ao26 t174.length co26] from (k24_mkF _ _ (⟨t166, x178001_19, x178002_19, x178003_19, x178004_19, x178005_19, x178006_19, x178007_19, t174⟩ : S24) (Kd.R_reads' (Kd.R_mono (ok' := (fun k_ => some k_ ≠ (v188 : Value).ownBlock ∧ k_ ≠ gb162 ∧ k_ ≠ gb177)) (Kd.R_types (Kd.R_types (Kd.R_apart' (HO_178008.out) (Kd.R_typed HO189.out) (by decide)) BK162.out (by decide)) BK177.out (by decide)) (fun k_ hk => ⟨hk.1.1.2, ⟨hk.1.2, hk.2⟩⟩))).2.1 (Kd.R_F (Kd.R_mono (ok' := (fun k_ => some k_ ≠ (v188 : Value).ownBlock ∧ k_ ≠ gb162 ∧ k_ ≠ gb177)) (Kd.R_types (Kd.R_types (Kd.R_apart' (HO_178008.out) (Kd.R_typed HO189.out) (by decide)) BK162.out (by decide)) BK177.out (by decide)) (fun k_ hk => ⟨hk.1.1.2, ⟨hk.1.2, hk.2⟩⟩))))) (Reps.none _ _))); intro v192 w88 ho89 hb hg_ hnew_; clear hg_ hnew_; (first | rw [← Ny191.out] at ho89 | (simp only [Int.reduceToNat] at ho89; rw [← Ny191.out] at ho89)); have n0_ := Aside0.mk (Kd.R_below (tR_ HO189) hb); have n1_ := Aside0.mk (Kd.N_lower ho89 (below_size (bw_ HB))); have n2_ := Aside0.mk (blk_below (tk_ BK162) hb); have n3_ := Aside0.mk (blk_below (tk_ BK177) hb); have n4_ := Aside0.mk (below_step (bw_ HB) hb); clear HO189; clear BK162; clear BK177; clear HB; clear HO_178008; have HO189 := n0_; have HO193 := n1_; have BK162 := n2_; have BK177 := n3_; have HB := n4_; clear n0_ n1_ n2_ n3_ n4_; clear hb ho89; obtain ⟨Ao90, co90, eo90⟩ := Kd.N_slice HO193.out; subst eo90) | (go_at_call 12; (with_reducible refine (msg_Right.calls k3 _ _ y191 t194 _ ?side1 ?side2 A82.out).mono ?_); (case side1 => repeat (first | exact (Kd.N_reads' HO193.out).2.2 | (with_reducible refine Kd.C_alloc ?_ _) | (with_reducible refine Kd.C_drewN ?_ _) | (with_reducible refine Kd.C_drew ?_))); (case side2 => exact (Kd.N_reads' HO193.out).2.1); rintro e w91 ⟨rfl, hb⟩; (try clear A82); replace HO189 := Aside0.mk (Kd.R_below (tR_ HO189) hb); replace HO193 := Aside0.mk (Kd.N_below (tN_ HO193) hb); replace BK162 := Aside0.mk (blk_below (tk_ BK162) hb); replace BK177 := Aside0.mk (blk_below (tk_ BK177) hb); replace HB := Aside0.mk (below_step (bw_ HB) hb); (try clear hb); (try clear hb2); (try clear hk); (try clear hi))))
         go_ret
         exact ⟨by first | rfl | (simp [errW_none, errW_some] <;> rfl) | (simp [*, errW_none, errW_some] <;> rfl), by repeat (first | (with_reducible first | exact HB.out | apply b_a | apply b_n | apply b_d | refine b_s ?_ GE162.out | refine b_s ?_ GE177.out) | exact HB.out)⟩
        rw [if_neg c83] at H
        have c83b0 : (t194 == (decide (a2 < 1099511627776))) = false := by simpa using c83
        (try (have c83b1 : decide (t194 = (decide (a2 < 1099511627776))) = false := by simpa using c83))
        (try (have c83b2 : (t194 == (decide (a2 < 1099511627776))) = false := by simpa using c83))
        (try (have c83b3 : ¬ (t194 = (decide (a2 < 1099511627776))) := by simpa using c83))
        clear c83
        obtain rfl := Option.some.inj H
        have hnb92 := NB177_162.out
        have hnc92 := NB162_177.out
        have hcz93_0 := bc_0 BK177
        have hcz93_1 := bc_1 BK177
        have hcz93_2 := bc_2 BK177
        have hcz93_3 := bc_3 BK177
        have hcz93_4 := bc_4 BK177
        have hcz93_5 := bc_5 BK177
        have hcz93_6 := bc_6 BK177
        have hcz93_7 := bc_7 BK177
        have hcz93_8 : wr.cell? ⟨gb177, 8, none⟩ = some (.slice Ao26 t174.length co26) := (blk_cell BK177.out 8).trans rfl
        have hfz93_0 := blk_frozen BK177.out 0
        have hfz93_1 := blk_frozen BK177.out 1
        have hfz93_2 := blk_frozen BK177.out 2
        have hfz93_3 := blk_frozen BK177.out 3
        have hfz93_4 := blk_frozen BK177.out 4
        have hfz93_5 := blk_frozen BK177.out 5
        have hfz93_6 := blk_frozen BK177.out 6
        have hfz93_7 := blk_frozen BK177.out 7
        have hfz93_8 := blk_frozen BK177.out 8
        go_wp2_with (first | (go_at_call 11; (with_reducible refine (msg_Bytes.calls t166 x178001_19 x178002_19 x178003_19 x178004_19 x178005_19 x178006_19 x178007_19 _ _ t174 t187 t190 _ ?side1 ?side2 A81.out).mono ?_); (case side1 => repeat (first | exact (Kd.R_reads' HO_178008.out).2.2 | (with_reducible refine Kd.C_alloc ?_ _) | (with_reducible refine Kd.C_drewN ?_ _) | (with_reducible refine Kd.C_drew ?_))); (case side2 => exact (Kd.R_reads' HO_178008.out).2.1); rintro e w94 ⟨v188, rfl, ho0, hb⟩; (try clear A81); have HO189 := Aside0.mk (Kd.R_lower ho0 (below_size (bw_ HB))); replace HO_178008 := Aside0.mk (Kd.R_below (tR_ HO_178008) hb); replace BK162 := Aside0.mk (blk_below (tk_ BK162) hb); replace BK177 := Aside0.mk (blk_below (tk_ BK177) hb); replace HB := Aside0.mk (below_step (bw_ HB) hb); (try clear hb); (try clear hb2); (try clear hk); (try clear hi); (try clear ho0); have hcz95_0 := bc_0 BK177; have hcz95_1 := bc_1 BK177; have hcz95_2 := bc_2 BK177; have hcz95_3 := bc_3 BK177; have hcz95_4 := bc_4 BK177; have hcz95_5 := bc_5 BK177; have hcz95_6 := bc_6 BK177; have hcz95_7 := bc_7 BK177; have hcz95_8 : w94.cell? ⟨gb177, 8, none⟩ = some (.slice Ao26 t174.length co26) := (blk_cell BK177.out 8).trans rfl; have hfz95_0 := blk_frozen BK177.out 0; have hfz95_1 := blk_frozen BK177.out 1; have hfz95_2 := blk_frozen BK177.out 2; have hfz95_3 := blk_frozen BK177.out 3; have hfz95_4 := blk_frozen BK177.out 4; have hfz95_5 := blk_frozen BK177.out 5; have hfz95_6 := blk_frozen BK177.out 6; have hfz95_7 := blk_frozen BK177.out 7; have hfz95_8 := blk_frozen BK177.out 8; (first | ((with_reducible refine gate_store_ rfl ?_); refine st9_ rfl rfl rfl rfl rfl (by with_reducible assumption) (by kernel_rfl) (by simp [Value.oneCell']) ?_; clear hcz95_0 hfz95_0 hcz95_1 hfz95_1 hcz95_2 hfz95_2 hcz95_3 hfz95_3 hcz95_4 hfz95_4 hcz95_5 hfz95_5 hcz95_6 hfz95_6 hcz95_7 hfz95_7 hcz95_8 hfz95_8; intro hb9_; have BN95 := Aside0.mk hb9_; clear hb9_) | skip)) | ((with_reducible refine gate_dst (N := 103) rfl ?_); (try (refine gate_guard (by rfl) ?_; dsimp only)); refine Kd.N_lit k24 _ 24 ?hg (N' := 103) ?hd (xs := ([(⟨t166, x178001_19, x178002_19, x178003_19, x178004_19, x178005_19, x178006_19, x178007_19, t174⟩ : S24)] : List (S24))) (inner := [.int .i64 t166, .int .i64 x178001_19, .int .i64 x178002_19, .int .i64 x178003_19, .int .i64 x178004_19, .int .i64 x178005_19, .int .i64 x178006_19, .int .i64 x178007_19, .slice Ao26 t174.length co26]) (ok := (fun k_ => some k_ ≠ (v188 : Value).ownBlock ∧ k_ ≠ gb162 ∧ k_ ≠ gb177)) (okp := (fun k_ => some k_ ≠ (v188 : Value).ownBlock ∧ k_ ≠ gb162 ∧ k_ ≠ gb177)) ?hr ?hp (fun _ hk => hk) ((show ∀ k_, (_ : Nat) ≤ k_ → (fun k_ => some k_ ≠ (v188 : Value).ownBlock ∧ k_ ≠ gb162 ∧ k_ ≠ gb177) k_ from fun k_ hk => ⟨Kd.fresh' (Kd.R_lt (tR_ HO189)) k_ hk, Kd.freshB (tk_ BK162) k_ hk, Kd.freshB (tk_ BK177) k_ hk⟩) _ (Nat.le_refl _)) (Below.refl _ _) (Nat.le_refl _) (by simp) ?_; (case hd => rfl); (case hg => rfl); (case hr => exact bld9_ ((.int .i64 0)) ((.int .i64 0)) ((.int .i64 0)) ((.int .i64 0)) ((.int .i64 0)) ((.int .i64 0)) ((.int .i64 0)) ((.int .i64 0)) ((.slice none 0 0)) rfl rfl); (case hp => exact (Reps.c9 (show Kd.FK k24 _ _ (⟨t166, x178001_19, x178002_19, x178003_19, x178004_19, x178005_19, x178006_19, x178007_19, t174⟩ : S24) [.int .i64 t166, .int .i64 x178001_19, .int .i64 x178002_19, .int .i64 x178003_19, .int .i64 x178004_19, .int .i64 x178005_19, .int .i64 x178006_19, .int .i64 x178007_19, .slice Ao26 t174.length co26] from (k24_mkF _ _ (⟨t166, x178001_19, x178002_19, x178003_19, x178004_19, x178005_19, x178006_19, x178007_19, t174⟩ : S24) (Kd.R_reads' (Kd.R_mono (ok' := (fun k_ => some k_ ≠ (v188 : Value).ownBlock ∧ k_ ≠ gb162 ∧ k_ ≠ gb177)) (Kd.R_types (Kd.R_types (Kd.R_apart' (HO_178008.out) (Kd.R_typed HO189.out) (by decide)) BK162.out (by decide)) BK177.out (by decide)) (fun k_ hk => ⟨hk.1.1.2, ⟨hk.1.2, hk.2⟩⟩))).2.1 (Kd.R_F (Kd.R_mono (ok' := (fun k_ => some k_ ≠ (v188 : Value).ownBlock ∧ k_ ≠ gb162 ∧ k_ ≠ gb177)) (Kd.R_types (Kd.R_types (Kd.R_apart' (HO_178008.out) (Kd.R_typed HO189.out) (by decide)) BK162.out (by decide)) BK177.out (by decide)) (fun k_ hk => ⟨hk.1.1.2, ⟨hk.1.2, hk.2⟩⟩))))) (Reps.none _ _))); intro v192 w96 ho97 hb hg_ hnew_; clear hg_ hnew_; (first | rw [← Ny191.out] at ho97 | (simp only [Int.reduceToNat] at ho97; rw [← Ny191.out] at ho97)); have n0_ := Aside0.mk (Kd.R_below (tR_ HO189) hb); have n1_ := Aside0.mk (Kd.N_lower ho97 (below_size (bw_ HB))); have n2_ := Aside0.mk (blk_below (tk_ BK162) hb); have n3_ := Aside0.mk (blk_below (tk_ BK177) hb); have n4_ := Aside0.mk (below_step (bw_ HB) hb); clear HO189; clear BK162; clear BK177; clear HB; clear HO_178008; have HO189 := n0_; have HO193 := n1_; have BK162 := n2_; have BK177 := n3_; have HB := n4_; clear n0_ n1_ n2_ n3_ n4_; clear hb ho97; obtain ⟨Ao98, co98, eo98⟩ := Kd.N_slice HO193.out; subst eo98) | (go_at_call 12; (with_reducible refine (msg_Right.calls k3 _ _ y191 t194 _ ?side1 ?side2 A82.out).mono ?_); (case side1 => repeat (first | exact (Kd.N_reads' HO193.out).2.2 | (with_reducible refine Kd.C_alloc ?_ _) | (with_reducible refine Kd.C_drewN ?_ _) | (with_reducible refine Kd.C_drew ?_))); (case side2 => exact (Kd.N_reads' HO193.out).2.1); rintro e w99 ⟨rfl, hb⟩; (try clear A82); replace HO189 := Aside0.mk (Kd.R_below (tR_ HO189) hb); replace HO193 := Aside0.mk (Kd.N_below (tN_ HO193) hb); replace BK162 := Aside0.mk (blk_below (tk_ BK162) hb); replace BK177 := Aside0.mk (blk_below (tk_ BK177) hb); replace HB := Aside0.mk (below_step (bw_ HB) hb); (try clear hb); (try clear hb2); (try clear hk); (try clear hi)))
        repeat (go_quiet (first | (go_at_call 11; (with_reducible refine (msg_Bytes.calls t166 x178001_19 x178002_19 x178003_19 x178004_19 x178005_19 x178006_19 x178007_19 _ _ t174 t187 t190 _ ?side1 ?side2 A81.out).mono ?_); (case side1 => repeat (first | exact (Kd.R_reads' HO_178008.out).2.2 | (with_reducible refine Kd.C_alloc ?_ _) | (with_reducible refine Kd.C_drewN ?_ _) | (with_reducible refine Kd.C_drew ?_))); (case side2 => exact (Kd.R_reads' HO_178008.out).2.1); rintro e w94 ⟨v188, rfl, ho0, hb⟩; (try clear A81); have HO189 := Aside0.mk (Kd.R_lower ho0 (below_size (bw_ HB))); replace HO_178008 := Aside0.mk (Kd.R_below (tR_ HO_178008) hb); replace BK162 := Aside0.mk (blk_below (tk_ BK162) hb); replace BK177 := Aside0.mk (blk_below (tk_ BK177) hb); replace HB := Aside0.mk (below_step (bw_ HB) hb); (try clear hb); (try clear hb2); (try clear hk); (try clear hi); (try clear ho0); have hcz95_0 := bc_0 BK177; have hcz95_1 := bc_1 BK177; have hcz95_2 := bc_2 BK177; have hcz95_3 := bc_3 BK177; have hcz95_4 := bc_4 BK177; have hcz95_5 := bc_5 BK177; have hcz95_6 := bc_6 BK177; have hcz95_7 := bc_7 BK177; have hcz95_8 : w94.cell? ⟨gb177, 8, none⟩ = some (.slice Ao26 t174.length co26) := (blk_cell BK177.out 8).trans rfl; have hfz95_0 := blk_frozen BK177.out 0; have hfz95_1 := blk_frozen BK177.out 1; have hfz95_2 := blk_frozen BK177.out 2; have hfz95_3 := blk_frozen BK177.out 3; have hfz95_4 := blk_frozen BK177.out 4; have hfz95_5 := blk_frozen BK177.out 5; have hfz95_6 := blk_frozen BK177.out 6; have hfz95_7 := blk_frozen BK177.out 7; have hfz95_8 := blk_frozen BK177.out 8) | ((with_reducible refine gate_dst (N := 103) rfl ?_); (try (refine gate_guard (by rfl) ?_; dsimp only)); refine Kd.N_lit k24 _ 24 ?hg (N' := 103) ?hd (xs := ([(⟨t166, x178001_19, x178002_19, x178003_19, x178004_19, x178005_19, x178006_19, x178007_19, t174⟩ : S24)] : List (S24))) (inner := [.int .i64 t166, .int .i64 x178001_19, .int .i64 x178002_19, .int .i64 x178003_19, .int .i64 x178004_19, .int .i64 x178005_19, .int .i64 x178006_19, .int .i64 x178007_19, .slice Ao26 t174.length co26]) (ok := (fun k_ => some k_ ≠ (v188 : Value).ownBlock ∧ k_ ≠ gb162 ∧ k_ ≠ gb177)) (okp := (fun k_ => some k_ ≠ (v188 : Value).ownBlock ∧ k_ ≠ gb162 ∧ k_ ≠ gb177)) ?hr ?hp (fun _ hk => hk) ((show ∀ k_, (_ : Nat) ≤ k_ → (fun k_ => some k_ ≠ (v188 : Value).ownBlock ∧ k_ ≠ gb162 ∧ k_ ≠ gb177) k_ from fun k_ hk => ⟨Kd.fresh' (Kd.R_lt (tR_ HO189)) k_ hk, Kd.freshB (tk_ BK162) k_ hk, Kd.freshB (tk_ BK177) k_ hk⟩) _ (Nat.le_refl _)) (Below.refl _ _) (Nat.le_refl _) (by simp) ?_; (case hd => rfl); (case hg => rfl); (case hr => exact bld9_ ((.int .i64 0)) ((.int .i64 0)) ((.int .i64 0)) ((.int .i64 0)) ((.int .i64 0)) ((.int .i64 0)) ((.int .i64 0)) ((.int .i64 0)) ((.slice none 0 0)) rfl rfl); (case hp => exact (Reps.c9 (show Kd.FK k24 _ _ (⟨t166, x178001_19, x178002_19, x178003_19, x178004_19, x178005_19, x178006_19, x178007_19, t174⟩ : S24) [.int .i64 t166, .int .i64 x178001_19, .int .i64 x178002_19, .int .i64 x178003_19, .int .i64 x178004_19, .int .i64 x178005_19, .int .i64 x178006_19, .int .i64 x178007_19, .slice Ao26 t174.length co26] from (k24_mkF _ _ (⟨t166, x178001_19, x178002_19, x178003_19, x178004_19, x178005_19, x178006_19, x178007_19, t174⟩ : S24) (Kd.R_reads' (Kd.R_mono (ok' := (fun k_ => some k_ ≠ (v188 : Value).ownBlock ∧ k_ ≠ gb162 ∧ k_ ≠ gb177)) (Kd.R_types (Kd.R_types (Kd.R_apart' (HO_178008.out) (Kd.R_typed HO189.out) (by decide)) BK162.out (by decide)) BK177.out (by decide)) (fun k_ hk => ⟨hk.1.1.2, ⟨hk.1.2, hk.2⟩⟩))).2.1 (Kd.R_F (Kd.R_mono (ok' := (fun k_ => some k_ ≠ (v188 : Value).ownBlock ∧ k_ ≠ gb162 ∧ k_ ≠ gb177)) (Kd.R_types (Kd.R_types (Kd.R_apart' (HO_178008.out) (Kd.R_typed HO189.out) (by decide)) BK162.out (by decide)) BK177.out (by decide)) (fun k_ hk => ⟨hk.1.1.2, ⟨hk.1.2, hk.2⟩⟩))))) (Reps.none _ _))); intro v192 w96 ho97 hb hg_ hnew_; clear hg_ hnew_; (first | rw [← Ny191.out] at ho97 | (simp only [Int.reduceToNat] at ho97; rw [← Ny191.out] at ho97)); have n0_ := Aside0.mk (Kd.R_below (tR_ HO189) hb); have n1_ := Aside0.mk (Kd.N_lower ho97 (below_size (bw_ HB))); have n2_ := Aside0.mk (blk_below (tk_ BK162) hb); have n3_ := Aside0.mk (blk_below (tk_ BK177) hb); have n4_ := Aside0.mk (below_step (bw_ HB) hb); clear HO189; clear BK162; clear BK177; clear HB; clear HO_178008; have HO189 := n0_; have HO193 := n1_; have BK162 := n2_; have BK177 := n3_; have HB := n4_; clear n0_ n1_ n2_ n3_ n4_; clear hb ho97; obtain ⟨Ao98, co98, eo98⟩ := Kd.N_slice HO193.out; subst eo98) | (go_at_call 12; (with_reducible refine (msg_Right.calls k3 _ _ y191 t194 _ ?side1 ?side2 A82.out).mono ?_); (case side1 => repeat (first | exact (Kd.N_reads' HO193.out).2.2 | (with_reducible refine Kd.C_alloc ?_ _) | (with_reducible refine Kd.C_drewN ?_ _) | (with_reducible refine Kd.C_drew ?_))); (case side2 => exact (Kd.N_reads' HO193.out).2.1); rintro e w99 ⟨rfl, hb⟩; (try clear A82); replace HO189 := Aside0.mk (Kd.R_below (tR_ HO189) hb); replace HO193 := Aside0.mk (Kd.N_below (tN_ HO193) hb); replace BK162 := Aside0.mk (blk_below (tk_ BK162) hb); replace BK177 := Aside0.mk (blk_below (tk_ BK177) hb); replace HB := Aside0.mk (below_step (bw_ HB) hb); (try clear hb); (try clear hb2); (try clear hk); (try clear hi))); try go_wp2_with (first | (go_at_call 11; (with_reducible refine (msg_Bytes.calls t166 x178001_19 x178002_19 x178003_19 x178004_19 x178005_19 x178006_19 x178007_19 _ _ t174 t187 t190 _ ?side1 ?side2 A81.out).mono ?_); (case side1 => repeat (first | exact (Kd.R_reads' HO_178008.out).2.2 | (with_reducible refine Kd.C_alloc ?_ _) | (with_reducible refine Kd.C_drewN ?_ _) | (with_reducible refine Kd.C_drew ?_))); (case side2 => exact (Kd.R_reads' HO_178008.out).2.1); rintro e w94 ⟨v188, rfl, ho0, hb⟩; (try clear A81); have HO189 := Aside0.mk (Kd.R_lower ho0 (below_size (bw_ HB))); replace HO_178008 := Aside0.mk (Kd.R_below (tR_ HO_178008) hb); replace BK162 := Aside0.mk (blk_below (tk_ BK162) hb); replace BK177 := Aside0.mk (blk_below (tk_ BK177) hb); replace HB := Aside0.mk (below_step (bw_ HB) hb); (try clear hb); (try clear hb2); (try clear hk); (try clear hi); (try clear ho0); have hcz95_0 := bc_0 BK177; have hcz95_1 := bc_1 BK177; have hcz95_2 := bc_2 BK177; have hcz95_3 := bc_3 BK177; have hcz95_4 := bc_4 BK177; have hcz95_5 := bc_5 BK177; have hcz95_6 := bc_6 BK177; have hcz95_7 := bc_7 BK177; have hcz95_8 : w94.cell? ⟨gb177, 8, none⟩ = some (.slice Ao26 t174.length co26) := (blk_cell BK177.out 8).trans rfl; have hfz95_0 := blk_frozen BK177.out 0; have hfz95_1 := blk_frozen BK177.out 1; have hfz95_2 := blk_frozen BK177.out 2; have hfz95_3 := blk_frozen BK177.out 3; have hfz95_4 := blk_frozen BK177.out 4; have hfz95_5 := blk_frozen BK177.out 5; have hfz95_6 := blk_frozen BK177.out 6; have hfz95_7 := blk_frozen BK177.out 7; have hfz95_8 := blk_frozen BK177.out 8) | ((with_reducible refine gate_dst (N := 103) rfl ?_); (try (refine gate_guard (by rfl) ?_; dsimp only)); refine Kd.N_lit k24 _ 24 ?hg (N' := 103) ?hd (xs := ([(⟨t166, x178001_19, x178002_19, x178003_19, x178004_19, x178005_19, x178006_19, x178007_19, t174⟩ : S24)] : List (S24))) (inner := [.int .i64 t166, .int .i64 x178001_19, .int .i64 x178002_19, .int .i64 x178003_19, .int .i64 x178004_19, .int .i64 x178005_19, .int .i64 x178006_19, .int .i64 x178007_19, .slice Ao26 t174.length co26]) (ok := (fun k_ => some k_ ≠ (v188 : Value).ownBlock ∧ k_ ≠ gb162 ∧ k_ ≠ gb177)) (okp := (fun k_ => some k_ ≠ (v188 : Value).ownBlock ∧ k_ ≠ gb162 ∧ k_ ≠ gb177)) ?hr ?hp (fun _ hk => hk) ((show ∀ k_, (_ : Nat) ≤ k_ → (fun k_ => some k_ ≠ (v188 : Value).ownBlock ∧ k_ ≠ gb162 ∧ k_ ≠ gb177) k_ from fun k_ hk => ⟨Kd.fresh' (Kd.R_lt (tR_ HO189)) k_ hk, Kd.freshB (tk_ BK162) k_ hk, Kd.freshB (tk_ BK177) k_ hk⟩) _ (Nat.le_refl _)) (Below.refl _ _) (Nat.le_refl _) (by simp) ?_; (case hd => rfl); (case hg => rfl); (case hr => exact bld9_ ((.int .i64 0)) ((.int .i64 0)) ((.int .i64 0)) ((.int .i64 0)) ((.int .i64 0)) ((.int .i64 0)) ((.int .i64 0)) ((.int .i64 0)) ((.slice none 0 0)) rfl rfl); (case hp => exact (Reps.c9 (show Kd.FK k24 _ _ (⟨t166, x178001_19, x178002_19, x178003_19, x178004_19, x178005_19, x178006_19, x178007_19, t174⟩ : S24) [.int .i64 t166, .int .i64 x178001_19, .int .i64 x178002_19, .int .i64 x178003_19, .int .i64 x178004_19, .int .i64 x178005_19, .int .i64 x178006_19, .int .i64 x178007_19, .slice Ao26 t174.length co26] from (k24_mkF _ _ (⟨t166, x178001_19, x178002_19, x178003_19, x178004_19, x178005_19, x178006_19, x178007_19, t174⟩ : S24) (Kd.R_reads' (Kd.R_mono (ok' := (fun k_ => some k_ ≠ (v188 : Value).ownBlock ∧ k_ ≠ gb162 ∧ k_ ≠ gb177)) (Kd.R_types (Kd.R_types (Kd.R_apart' (HO_178008.out) (Kd.R_typed HO189.out) (by decide)) BK162.out (by decide)) BK177.out (by decide)) (fun k_ hk => ⟨hk.1.1.2, ⟨hk.1.2, hk.2⟩⟩))).2.1 (Kd.R_F (Kd.R_mono (ok' := (fun k_ => some k_ ≠ (v188 : Value).ownBlock ∧ k_ ≠ gb162 ∧ k_ ≠ gb177)) (Kd.R_types (Kd.R_types (Kd.R_apart' (HO_178008.out) (Kd.R_typed HO189.out) (by decide)) BK162.out (by decide)) BK177.out (by decide)) (fun k_ hk => ⟨hk.1.1.2, ⟨hk.1.2, hk.2⟩⟩))))) (Reps.none _ _))); intro v192 w96 ho97 hb hg_ hnew_; clear hg_ hnew_; (first | rw [← Ny191.out] at ho97 | (simp only [Int.reduceToNat] at ho97; rw [← Ny191.out] at ho97)); have n0_ := Aside0.mk (Kd.R_below (tR_ HO189) hb); have n1_ := Aside0.mk (Kd.N_lower ho97 (below_size (bw_ HB))); have n2_ := Aside0.mk (blk_below (tk_ BK162) hb); have n3_ := Aside0.mk (blk_below (tk_ BK177) hb); have n4_ := Aside0.mk (below_step (bw_ HB) hb); clear HO189; clear BK162; clear BK177; clear HB; clear HO_178008; have HO189 := n0_; have HO193 := n1_; have BK162 := n2_; have BK177 := n3_; have HB := n4_; clear n0_ n1_ n2_ n3_ n4_; clear hb ho97; obtain ⟨Ao98, co98, eo98⟩ := Kd.N_slice HO193.out; subst eo98) | (go_at_call 12; (with_reducible refine (msg_Right.calls k3 _ _ y191 t194 _ ?side1 ?side2 A82.out).mono ?_); (case side1 => repeat (first | exact (Kd.N_reads' HO193.out).2.2 | (with_reducible refine Kd.C_alloc ?_ _) | (with_reducible refine Kd.C_drewN ?_ _) | (with_reducible refine Kd.C_drew ?_))); (case side2 => exact (Kd.N_reads' HO193.out).2.1); rintro e w99 ⟨rfl, hb⟩; (try clear A82); replace HO189 := Aside0.mk (Kd.R_below (tR_ HO189) hb); replace HO193 := Aside0.mk (Kd.N_below (tN_ HO193) hb); replace BK162 := Aside0.mk (blk_below (tk_ BK162) hb); replace BK177 := Aside0.mk (blk_below (tk_ BK177) hb); replace HB := Aside0.mk (below_step (bw_ HB) hb); (try clear hb); (try clear hb2); (try clear hk); (try clear hi))))
        go_ret
        exact ⟨by first | rfl | (simp [errW_none, errW_some] <;> rfl) | (simp [*, errW_none, errW_some] <;> rfl), by repeat (first | (with_reducible first | exact HB.out | apply b_a | apply b_n | apply b_d | refine b_s ?_ GE162.out | refine b_s ?_ GE177.out) | exact HB.out)⟩
       rw [if_neg c80] at H
       have c80b0 : decide (0 < a2) = false := decide_eq_false c80
       clear c80
       replace H := Option.bind_eq_some_iff.mp H
       obtain ⟨⟨t195, t198⟩, A1000, H⟩ := H
       replace H : ((msg_Right.f k3 (([(⟨t166, x178001_19, x178002_19, x178003_19, x178004_19, x178005_19, x178006_19, x178007_19, t174⟩ : S24)] : List (S24)))).bind fun t202 => (if (t202 == false) = true then (some ((t198 == 0) == false)) else (some false))) = some r := H
       have A100 := Aside0.mk A1000
       clear A1000
       obtain ⟨y199, hy199⟩ : ∃ y_ : List (S24), y_ = (([(⟨t166, x178001_19, x178002_19, x178003_19, x178004_19, x178005_19, x178006_19, x178007_19, t174⟩ : S24)] : List (S24))) := ⟨_, rfl⟩
       replace H : ((msg_Right.f k3 y199).bind fun t202 => (if (t202 == false) = true then (some ((t198 == 0) == false)) else (some false))) = some r := by first | (rw [hy199]; with_reducible exact H) | (have H2_ := (Option.bind_some _ _).symm.trans H; rw [hy199]; with_reducible exact H2_) | (have H2_ := (Option.bind_some _ _).symm.trans H; with_reducible exact H2_) | with_reducible exact H | (rw [hy199]; exact H) | exact H
       have Ny199 := Aside0.mk hy199
       clear hy199
       replace H := Option.bind_eq_some_iff.mp H
       obtain ⟨t202, A1010, H⟩ := H
       replace H : (if (t202 == false) = true then (some ((t198 == 0) == false)) else (some false)) = some r := H
       have A101 := Aside0.mk A1010
       clear A1010
       by_cases c102 : (t202 == false) = true
       ·
        rw [if_pos c102] at H
        have c102b0 : (t202 == false) = true := c102
        (try (have c102b1 : decide (t202 = false) = true := by simpa using c102))
        (try (have c102b2 : (t202 == false) = true := by simpa using c102))
        clear c102
        obtain rfl := Option.some.inj H
        have hnb103 := NB177_162.out
        have hnc103 := NB162_177.out
        have hcz104_0 := bc_0 BK177
        have hcz104_1 := bc_1 BK177
        have hcz104_2 := bc_2 BK177
        have hcz104_3 := bc_3 BK177
        have hcz104_4 := bc_4 BK177
        have hcz104_5 := bc_5 BK177
        have hcz104_6 := bc_6 BK177
        have hcz104_7 := bc_7 BK177
        have hcz104_8 : wr.cell? ⟨gb177, 8, none⟩ = some (.slice Ao26 t174.length co26) := (blk_cell BK177.out 8).trans rfl
        have hfz104_0 := blk_frozen BK177.out 0
        have hfz104_1 := blk_frozen BK177.out 1
        have hfz104_2 := blk_frozen BK177.out 2
        have hfz104_3 := blk_frozen BK177.out 3
        have hfz104_4 := blk_frozen BK177.out 4
        have hfz104_5 := blk_frozen BK177.out 5
        have hfz104_6 := blk_frozen BK177.out 6
        have hfz104_7 := blk_frozen BK177.out 7
        have hfz104_8 := blk_frozen BK177.out 8
        go_wp2_with (first | (go_at_call 11; (with_reducible refine (msg_Bytes.calls t166 x178001_19 x178002_19 x178003_19 x178004_19 x178005_19 x178006_19 x178007_19 _ _ t174 t195 t198 _ ?side1 ?side2 A100.out).mono ?_); (case side1 => repeat (first | exact (Kd.R_reads' HO_178008.out).2.2 | (with_reducible refine Kd.C_alloc ?_ _) | (with_reducible refine Kd.C_drewN ?_ _) | (with_reducible refine Kd.C_drew ?_))); (case side2 => exact (Kd.R_reads' HO_178008.out).2.1); rintro e w105 ⟨v196, rfl, ho0, hb⟩; (try clear A100); have HO197 := Aside0.mk (Kd.R_lower ho0 (below_size (bw_ HB))); replace HO_178008 := Aside0.mk (Kd.R_below (tR_ HO_178008) hb); replace BK162 := Aside0.mk (blk_below (tk_ BK162) hb); replace BK177 := Aside0.mk (blk_below (tk_ BK177) hb); replace HB := Aside0.mk (below_step (bw_ HB) hb); (try clear hb); (try clear hb2); (try clear hk); (try clear hi); (try clear ho0); have hcz106_0 := bc_0 BK177; have hcz106_1 := bc_1 BK177; have hcz106_2 := bc_2 BK177; have hcz106_3 := bc_3 BK177; have hcz106_4 := bc_4 BK177; have hcz106_5 := bc_5 BK177; have hcz106_6 := bc_6 BK177; have hcz106_7 := bc_7 BK177; have hcz106_8 : w105.cell? ⟨gb177, 8, none⟩ = some (.slice Ao26 t174.length co26) := (blk_cell BK177.out 8).trans rfl; have hfz106_0 := blk_frozen BK177.out 0; have hfz106_1 := blk_frozen BK177.out 1; have hfz106_2 := blk_frozen BK177.out 2; have hfz106_3 := blk_frozen BK177.out 3; have hfz106_4 := blk_frozen BK177.out 4; have hfz106_5 := blk_frozen BK177.out 5; have hfz106_6 := blk_frozen BK177.out 6; have hfz106_7 := blk_frozen BK177.out 7; have hfz106_8 := blk_frozen BK177.out 8; (first | ((with_reducible refine gate_store_ rfl ?_); refine st9_ rfl rfl rfl rfl rfl (by with_reducible assumption) (by kernel_rfl) (by simp [Value.oneCell']) ?_; clear hcz106_0 hfz106_0 hcz106_1 hfz106_1 hcz106_2 hfz106_2 hcz106_3 hfz106_3 hcz106_4 hfz106_4 hcz106_5 hfz106_5 hcz106_6 hfz106_6 hcz106_7 hfz106_7 hcz106_8 hfz106_8; intro hb9_; have BN106 := Aside0.mk hb9_; clear hb9_) | skip)) | ((with_reducible refine gate_dst (N := 103) rfl ?_); (try (refine gate_guard (by rfl) ?_; dsimp only)); refine Kd.N_lit k24 _ 24 ?hg (N' := 103) ?hd (xs := ([(⟨t166, x178001_19, x178002_19, x178003_19, x178004_19, x178005_19, x178006_19, x178007_19, t174⟩ : S24)] : List (S24))) (inner := [.int .i64 t166, .int .i64 x178001_19, .int .i64 x178002_19, .int .i64 x178003_19, .int .i64 x178004_19, .int .i64 x178005_19, .int .i64 x178006_19, .int .i64 x178007_19, .slice Ao26 t174.length co26]) (ok := (fun k_ => some k_ ≠ (v196 : Value).ownBlock ∧ k_ ≠ gb162 ∧ k_ ≠ gb177)) (okp := (fun k_ => some k_ ≠ (v196 : Value).ownBlock ∧ k_ ≠ gb162 ∧ k_ ≠ gb177)) ?hr ?hp (fun _ hk => hk) ((show ∀ k_, (_ : Nat) ≤ k_ → (fun k_ => some k_ ≠ (v196 : Value).ownBlock ∧ k_ ≠ gb162 ∧ k_ ≠ gb177) k_ from fun k_ hk => ⟨Kd.fresh' (Kd.R_lt (tR_ HO197)) k_ hk, Kd.freshB (tk_ BK162) k_ hk, Kd.freshB (tk_ BK177) k_ hk⟩) _ (Nat.le_refl _)) (Below.refl _ _) (Nat.le_refl _) (by simp) ?_; (case hd => rfl); (case hg => rfl); (case hr => exact bld9_ ((.int .i64 0)) ((.int .i64 0)) ((.int .i64 0)) ((.int .i64 0)) ((.int .i64 0)) ((.int .i64 0)) ((.int .i64 0)) ((.int .i64 0)) ((.slice none 0 0)) rfl rfl); (case hp => exact (Reps.c9 (show Kd.FK k24 _ _ (⟨t166, x178001_19, x178002_19, x178003_19, x178004_19, x178005_19, x178006_19, x178007_19, t174⟩ : S24) [.int .i64 t166, .int .i64 x178001_19, .int .i64 x178002_19, .int .i64 x178003_19, .int .i64 x178004_19, .int .i64 x178005_19, .int .i64 x178006_19, .int .i64 x178007_19, .slice Ao26 t174.length co26] from (k24_mkF _ _ (⟨t166, x178001_19, x178002_19, x178003_19, x178004_19, x178005_19, x178006_19, x178007_19, t174⟩ : S24) (Kd.R_reads' (Kd.R_mono (ok' := (fun k_ => some k_ ≠ (v196 : Value).ownBlock ∧ k_ ≠ gb162 ∧ k_ ≠ gb177)) (Kd.R_types (Kd.R_types (Kd.R_apart' (HO_178008.out) (Kd.R_typed HO197.out) (by decide)) BK162.out (by decide)) BK177.out (by decide)) (fun k_ hk => ⟨hk.1.1.2, ⟨hk.1.2, hk.2⟩⟩))).2.1 (Kd.R_F (Kd.R_mono (ok' := (fun k_ => some k_ ≠ (v196 : Value).ownBlock ∧ k_ ≠ gb162 ∧ k_ ≠ gb177)) (Kd.R_types (Kd.R_types (Kd.R_apart' (HO_178008.out) (Kd.R_typed HO197.out) (by decide)) BK162.out (by decide)) BK177.out (by decide)) (fun k_ hk => ⟨hk.1.1.2, ⟨hk.1.2, hk.2⟩⟩))))) (Reps.none _ _))); intro v200 w107 ho108 hb hg_ hnew_; clear hg_ hnew_; (first | rw [← Ny199.out] at ho108 | (simp only [Int.reduceToNat] at ho108; rw [← Ny199.out] at ho108)); have n0_ := Aside0.mk (Kd.R_below (tR_ HO197) hb); have n1_ := Aside0.mk (Kd.N_lower ho108 (below_size (bw_ HB))); have n2_ := Aside0.mk (blk_below (tk_ BK162) hb); have n3_ := Aside0.mk (blk_below (tk_ BK177) hb); have n4_ := Aside0.mk (below_step (bw_ HB) hb); clear HO197; clear BK162; clear BK177; clear HB; clear HO_178008; have HO197 := n0_; have HO201 := n1_; have BK162 := n2_; have BK177 := n3_; have HB := n4_; clear n0_ n1_ n2_ n3_ n4_; clear hb ho108; obtain ⟨Ao109, co109, eo109⟩ := Kd.N_slice HO201.out; subst eo109) | (go_at_call 12; (with_reducible refine (msg_Right.calls k3 _ _ y199 t202 _ ?side1 ?side2 A101.out).mono ?_); (case side1 => repeat (first | exact (Kd.N_reads' HO201.out).2.2 | (with_reducible refine Kd.C_alloc ?_ _) | (with_reducible refine Kd.C_drewN ?_ _) | (with_reducible refine Kd.C_drew ?_))); (case side2 => exact (Kd.N_reads' HO201.out).2.1); rintro e w110 ⟨rfl, hb⟩; (try clear A101); replace HO197 := Aside0.mk (Kd.R_below (tR_ HO197) hb); replace HO201 := Aside0.mk (Kd.N_below (tN_ HO201) hb); replace BK162 := Aside0.mk (blk_below (tk_ BK162) hb); replace BK177 := Aside0.mk (blk_below (tk_ BK177) hb); replace HB := Aside0.mk (below_step (bw_ HB) hb); (try clear hb); (try clear hb2); (try clear hk); (try clear hi)))
        repeat (go_quiet (first | (go_at_call 11; (with_reducible refine (msg_Bytes.calls t166 x178001_19 x178002_19 x178003_19 x178004_19 x178005_19 x178006_19 x178007_19 _ _ t174 t195 t198 _ ?side1 ?side2 A100.out).mono ?_); (case side1 => repeat (first | exact (Kd.R_reads' HO_178008.out).2.2 | (with_reducible refine Kd.C_alloc ?_ _) | (with_reducible refine Kd.C_drewN ?_ _) | (with_reducible refine Kd.C_drew ?_))); (case side2 => exact (Kd.R_reads' HO_178008.out).2.1); rintro e w105 ⟨v196, rfl, ho0, hb⟩; (try clear A100); have HO197 := Aside0.mk (Kd.R_lower ho0 (below_size (bw_ HB))); replace HO_178008 := Aside0.mk (Kd.R_below (tR_ HO_178008) hb); replace BK162 := Aside0.mk (blk_below (tk_ BK162) hb); replace BK177 := Aside0.mk (blk_below (tk_ BK177) hb); replace HB := Aside0.mk (below_step (bw_ HB) hb); (try clear hb); (try clear hb2); (try clear hk); (try clear hi); (try clear ho0); have hcz106_0 := bc_0 BK177; have hcz106_1 := bc_1 BK177; have hcz106_2 := bc_2 BK177; have hcz106_3 := bc_3 BK177; have hcz106_4 := bc_4 BK177; have hcz106_5 := bc_5 BK177; have hcz106_6 := bc_6 BK177; have hcz106_7 := bc_7 BK177; have hcz106_8 : w105.cell? ⟨gb177, 8, none⟩ = some (.slice Ao26 t174.length co26) := (blk_cell BK177.out 8).trans rfl; have hfz106_0 := blk_frozen BK177.out 0; have hfz106_1 := blk_frozen BK177.out 1; have hfz106_2 := blk_frozen BK177.out 2; have hfz106_3 := blk_frozen BK177.out 3; have hfz106_4 := blk_frozen BK177.out 4; have hfz106_5 := blk_frozen BK177.out 5; have hfz106_6 := blk_frozen BK177.out 6; have hfz106_7 := blk_frozen BK177.out 7; have hfz106_8 := blk_frozen BK177.out 8) | ((with_reducible refine gate_dst (N := 103) rfl ?_); (try (refine gate_guard (by rfl) ?_; dsimp only)); refine Kd.N_lit k24 _ 24 ?hg (N' := 103) ?hd (xs := ([(⟨t166, x178001_19, x178002_19, x178003_19, x178004_19, x178005_19, x178006_19, x178007_19, t174⟩ : S24)] : List (S24))) (inner := [.int .i64 t166, .int .i64 x178001_19, .int .i64 x178002_19, .int .i64 x178003_19, .int .i64 x178004_19, .int .i64 x178005_19, .int .i64 x178006_19, .int .i64 x178007_19, .slice Ao26 t174.length co26]) (ok := (fun k_ => some k_ ≠ (v196 : Value).ownBlock ∧ k_ ≠ gb162 ∧ k_ ≠ gb177)) (okp := (fun k_ => some k_ ≠ (v196 : Value).ownBlock ∧ k_ ≠ gb162 ∧ k_ ≠ gb177)) ?hr ?hp (fun _ hk => hk) ((show ∀ k_, (_ : Nat) ≤ k_ → (fun k_ => some k_ ≠ (v196 : Value).ownBlock ∧ k_ ≠ gb162 ∧ k_ ≠ gb177) k_ from fun k_ hk => ⟨Kd.fresh' (Kd.R_lt (tR_ HO197)) k_ hk, Kd.freshB (tk_ BK162) k_ hk, Kd.freshB (tk_ BK177) k_ hk⟩) _ (Nat.le_refl _)) (Below.refl _ _) (Nat.le_refl _) (by simp) ?_; (case hd => rfl); (case hg => rfl); (case hr => exact bld9_ ((.int .i64 0)) ((.int .i64 0)) ((.int .i64 0)) ((.int .i64 0)) ((.int .i64 0)) ((.int .i64 0)) ((.int .i64 0)) ((.int .i64 0)) ((.slice none 0 0)) rfl rfl); (case hp => exact (Reps.c9 (show Kd.FK k24 _ _ (⟨t166, x178001_19, x178002_19, x178003_19, x178004_19, x178005_19, x178006_19, x178007_19, t174⟩ : S24) [.int .i64 t166, .int .i64 x178001_19, .int .i64 x178002_19, .int .i64 x178003_19, .int .i64 x178004_19, .int .i64 x178005_19, .int .i64 x178006_19, .int .i64 x178007_19, .slice Ao26 t174.length co26] from (k24_mkF _ _ (⟨t166, x178001_19, x178002_19, x178003_19, x178004_19, x178005_19, x178006_19, x178007_19, t174⟩ : S24) (Kd.R_reads' (Kd.R_mono (ok' := (fun k_ => some k_ ≠ (v196 : Value).ownBlock ∧ k_ ≠ gb162 ∧ k_ ≠ gb177)) (Kd.R_types (Kd.R_types (Kd.R_apart' (HO_178008.out) (Kd.R_typed HO197.out) (by decide)) BK162.out (by decide)) BK177.out (by decide)) (fun k_ hk => ⟨hk.1.1.2, ⟨hk.1.2, hk.2⟩⟩))).2.1 (Kd.R_F (Kd.R_mono (ok' := (fun k_ => some k_ ≠ (v196 : Value).ownBlock ∧ k_ ≠ gb162 ∧ k_ ≠ gb177)) (Kd.R_types (Kd.R_types (Kd.R_apart' (HO_178008.out) (Kd.R_typed HO197.out) (by decide)) BK162.out (by decide)) BK177.out (by decide)) (fun k_ hk => ⟨hk.1.1.2, ⟨hk.1.2, hk.2⟩⟩))))) (Reps.none _ _))); intro v200 w107 ho108 hb hg_ hnew_; clear hg_ hnew_; (first | rw [← Ny199.out] at ho108 | (simp only [Int.reduceToNat] at ho108; rw [← Ny199.out] at ho108)); have n0_ := Aside0.mk (Kd.R_below (tR_ HO197) hb); have n1_ := Aside0.mk (Kd.N_lower ho108 (below_size (bw_ HB))); have n2_ := Aside0.mk (blk_below (tk_ BK162) hb); have n3_ := Aside0.mk (blk_below (tk_ BK177) hb); have n4_ := Aside0.mk (below_step (bw_ HB) hb); clear HO197; clear BK162; clear BK177; clear HB; clear HO_178008; have HO197 := n0_; have HO201 := n1_; have BK162 := n2_; have BK177 := n3_; have HB := n4_; clear n0_ n1_ n2_ n3_ n4_; clear hb ho108; obtain ⟨Ao109, co109, eo109⟩ := Kd.N_slice HO201.out; subst eo109) | (go_at_call 12; (with_reducible refine (msg_Right.calls k3 _ _ y199 t202 _ ?side1 ?side2 A101.out).mono ?_); (case side1 => repeat (first | exact (Kd.N_reads' HO201.out).2.2 | (with_reducible refine Kd.C_alloc ?_ _) | (with_reducible refine Kd.C_drewN ?_ _) | (with_reducible refine Kd.C_drew ?_))); (case side2 => exact (Kd.N_reads' HO201.out).2.1); rintro e w110 ⟨rfl, hb⟩; (try clear A101); replace HO197 := Aside0.mk (Kd.R_below (tR_ HO197) hb); replace HO201 := Aside0.mk (Kd.N_below (tN_ HO201) hb); replace BK162 := Aside0.mk (blk_below (tk_ BK162) hb); replace BK177 := Aside0.mk (blk_below (tk_ BK177) hb); replace HB := Aside0.mk (below_step (bw_ HB) hb); (try clear hb); (try clear hb2); (try clear hk); (try clear hi))); try go_wp2_with (first | (go_at_call 11; (with_reducible refine (msg_Bytes.calls t166 x178001_19 x178002_19 x178003_19 x178004_19 x178005_19 x178006_19 x178007_19 _ _ t174 t195 t198 _ ?side1 ?side2 A100.out).mono ?_); (case side1 => repeat (first | exact (Kd.R_reads' HO_178008.out).2.2 | (with_reducible refine Kd.C_alloc ?_ _) | (with_reducible refine Kd.C_drewN ?_ _) | (with_reducible refine Kd.C_drew ?_))); (case side2 => exact (Kd.R_reads' HO_178008.out).2.1); rintro e w105 ⟨v196, rfl, ho0, hb⟩; (try clear A100); have HO197 := Aside0.mk (Kd.R_lower ho0 (below_size (bw_ HB))); replace HO_178008 := Aside0.mk (Kd.R_below (tR_ HO_178008) hb); replace BK162 := Aside0.mk (blk_below (tk_ BK162) hb); replace BK177 := Aside0.mk (blk_below (tk_ BK177) hb); replace HB := Aside0.mk (below_step (bw_ HB) hb); (try clear hb); (try clear hb2); (try clear hk); (try clear hi); (try clear ho0); have hcz106_0 := bc_0 BK177; have hcz106_1 := bc_1 BK177; have hcz106_2 := bc_2 BK177; have hcz106_3 := bc_3 BK177; have hcz106_4 := bc_4 BK177; have hcz106_5 := bc_5 BK177; have hcz106_6 := bc_6 BK177; have hcz106_7 := bc_7 BK177; have hcz106_8 : w105.cell? ⟨gb177, 8, none⟩ = some (.slice Ao26 t174.length co26) := (blk_cell BK177.out 8).trans rfl; have hfz106_0 := blk_frozen BK177.out 0; have hfz106_1 := blk_frozen BK177.out 1; have hfz106_2 := blk_frozen BK177.out 2; have hfz106_3 := blk_frozen BK177.out 3; have hfz106_4 := blk_frozen BK177.out 4; have hfz106_5 := blk_frozen BK177.out 5; have hfz106_6 := blk_frozen BK177.out 6; have hfz106_7 := blk_frozen BK177.out 7; have hfz106_8 := blk_frozen BK177.out 8) | ((with_reducible refine gate_dst (N := 103) rfl ?_); (try (refine gate_guard (by rfl) ?_; dsimp only)); refine Kd.N_lit k24 _ 24 ?hg (N' := 103) ?hd (xs := ([(⟨t166, x178001_19, x178002_19, x178003_19, x178004_19, x178005_19, x178006_19, x178007_19, t174⟩ : S24)] : List (S24))) (inner := [.int .i64 t166, .int .i64 x178001_19, .int .i64 x178002_19, .int .i64 x178003_19, .int .i64 x178004_19, .int .i64 x178005_19, .int .i64 x178006_19, .int .i64 x178007_19, .slice Ao26 t174.length co26]) (ok := (fun k_ => some k_ ≠ (v196 : Value).ownBlock ∧ k_ ≠ gb162 ∧ k_ ≠ gb177)) (okp := (fun k_ => some k_ ≠ (v196 : Value).ownBlock ∧ k_ ≠ gb162 ∧ k_ ≠ gb177)) ?hr ?hp (fun _ hk => hk) ((show ∀ k_, (_ : Nat) ≤ k_ → (fun k_ => some k_ ≠ (v196 : Value).ownBlock ∧ k_ ≠ gb162 ∧ k_ ≠ gb177) k_ from fun k_ hk => ⟨Kd.fresh' (Kd.R_lt (tR_ HO197)) k_ hk, Kd.freshB (tk_ BK162) k_ hk, Kd.freshB (tk_ BK177) k_ hk⟩) _ (Nat.le_refl _)) (Below.refl _ _) (Nat.le_refl _) (by simp) ?_; (case hd => rfl); (case hg => rfl); (case hr => exact bld9_ ((.int .i64 0)) ((.int .i64 0)) ((.int .i64 0)) ((.int .i64 0)) ((.int .i64 0)) ((.int .i64 0)) ((.int .i64 0)) ((.int .i64 0)) ((.slice none 0 0)) rfl rfl); (case hp => exact (Reps.c9 (show Kd.FK k24 _ _ (⟨t166, x178001_19, x178002_19, x178003_19, x178004_19, x178005_19, x178006_19, x178007_19, t174⟩ : S24) [.int .i64 t166, .int .i64 x178001_19, .int .i64 x178002_19, .int .i64 x178003_19, .int .i64 x178004_19, .int .i64 x178005_19, .int .i64 x178006_19, .int .i64 x178007_19, .slice Ao26 t174.length co26] from (k24_mkF _ _ (⟨t166, x178001_19, x178002_19, x178003_19, x178004_19, x178005_19, x178006_19, x178007_19, t174⟩ : S24) (Kd.R_reads' (Kd.R_mono (ok' := (fun k_ => some k_ ≠ (v196 : Value).ownBlock ∧ k_ ≠ gb162 ∧ k_ ≠ gb177)) (Kd.R_types (Kd.R_types (Kd.R_apart' (HO_178008.out) (Kd.R_typed HO197.out) (by decide)) BK162.out (by decide)) BK177.out (by decide)) (fun k_ hk => ⟨hk.1.1.2, ⟨hk.1.2, hk.2⟩⟩))).2.1 (Kd.R_F (Kd.R_mono (ok' := (fun k_ => some k_ ≠ (v196 : Value).ownBlock ∧ k_ ≠ gb162 ∧ k_ ≠ gb177)) (Kd.R_types (Kd.R_types (Kd.R_apart' (HO_178008.out) (Kd.R_typed HO197.out) (by decide)) BK162.out (by decide)) BK177.out (by decide)) (fun k_ hk => ⟨hk.1.1.2, ⟨hk.1.2, hk.2⟩⟩))))) (Reps.none _ _))); intro v200 w107 ho108 hb hg_ hnew_; clear hg_ hnew_; (first | rw [← Ny199.out] at ho108 | (simp only [Int.reduceToNat] at ho108; rw [← Ny199.out] at ho108)); have n0_ := Aside0.mk (Kd.R_below (tR_ HO197) hb); have n1_ := Aside0.mk (Kd.N_lower ho108 (below_size (bw_ HB))); have n2_ := Aside0.mk (blk_below (tk_ BK162) hb); have n3_ := Aside0.mk (blk_below (tk_ BK177) hb); have n4_ := Aside0.mk (below_step (bw_ HB) hb); clear HO197; clear BK162; clear BK177; clear HB; clear HO_178008; have HO197 := n0_; have HO201 := n1_; have BK162 := n2_; have BK177 := n3_; have HB := n4_; clear n0_ n1_ n2_ n3_ n4_; clear hb ho108; obtain ⟨Ao109, co109, eo109⟩ := Kd.N_slice HO201.out; subst eo109) | (go_at_call 12; (with_reducible refine (msg_Right.calls k3 _ _ y199 t202 _ ?side1 ?side2 A101.out).mono ?_); (case side1 => repeat (first | exact (Kd.N_reads' HO201.out).2.2 | (with_reducible refine Kd.C_alloc ?_ _) | (with_reducible refine Kd.C_drewN ?_ _) | (with_reducible refine Kd.C_drew ?_))); (case side2 => exact (Kd.N_reads' HO201.out).2.1); rintro e w110 ⟨rfl, hb⟩; (try clear A101); replace HO197 := Aside0.mk (Kd.R_below (tR_ HO197) hb); replace HO201 := Aside0.mk (Kd.N_below (tN_ HO201) hb); replace BK162 := Aside0.mk (blk_below (tk_ BK162) hb); replace BK177 := Aside0.mk (blk_below (tk_ BK177) hb); replace HB := Aside0.mk (below_step (bw_ HB) hb); (try clear hb); (try clear hb2); (try clear hk); (try clear hi))))
        go_ret
        exact ⟨by first | rfl | (simp [errW_none, errW_some] <;> rfl) | (simp [*, errW_none, errW_some] <;> rfl), by repeat (first | (with_reducible first | exact HB.out | apply b_a | apply b_n | apply b_d | refine b_s ?_ GE162.out | refine b_s ?_ GE177.out) | exact HB.out)⟩
       rw [if_neg c102] at H
       have c102b0 : (t202 == false) = false := by simpa using c102
       (try (have c102b1 : decide (t202 = false) = false := by simpa using c102))
       (try (have c102b2 : (t202 == false) = false := by simpa using c102))
       (try (have c102b3 : ¬ (t202 = false) := by simpa using c102))
       clear c102
       obtain rfl := Option.some.inj H
       have hnb111 := NB177_162.out
       have hnc111 := NB162_177.out
       have hcz112_0 := bc_0 BK177
       have hcz112_1 := bc_1 BK177
       have hcz112_2 := bc_2 BK177
       have hcz112_3 := bc_3 BK177
       have hcz112_4 := bc_4 BK177
       have hcz112_5 := bc_5 BK177
       have hcz112_6 := bc_6 BK177
       have hcz112_7 := bc_7 BK177
       have hcz112_8 : wr.cell? ⟨gb177, 8, none⟩ = some (.slice Ao26 t174.length co26) := (blk_cell BK177.out 8).trans rfl
       have hfz112_0 := blk_frozen BK177.out 0
       have hfz112_1 := blk_frozen BK177.out 1
       have hfz112_2 := blk_frozen BK177.out 2
       have hfz112_3 := blk_frozen BK177.out 3
       have hfz112_4 := blk_frozen BK177.out 4
       have hfz112_5 := blk_frozen BK177.out 5
       have hfz112_6 := blk_frozen BK177.out 6
       have hfz112_7 := blk_frozen BK177.out 7
       have hfz112_8 := blk_frozen BK177.out 8
       go_wp2_with (first | (go_at_call 11; (with_reducible refine (msg_Bytes.calls t166 x178001_19 x178002_19 x178003_19 x178004_19 x178005_19 x178006_19 x178007_19 _ _ t174 t195 t198 _ ?side1 ?side2 A100.out).mono ?_); (case side1 => repeat (first | exact (Kd.R_reads' HO_178008.out).2.2 | (with_reducible refine Kd.C_alloc ?_ _) | (with_reducible refine Kd.C_drewN ?_ _) | (with_reducible refine Kd.C_drew ?_))); (case side2 => exact (Kd.R_reads' HO_178008.out).2.1); rintro e w113 ⟨v196, rfl, ho0, hb⟩; (try clear A100); have HO197 := Aside0.mk (Kd.R_lower ho0 (below_size (bw_ HB))); replace HO_178008 := Aside0.mk (Kd.R_below (tR_ HO_178008) hb); replace BK162 := Aside0.mk (blk_below (tk_ BK162) hb); replace BK177 := Aside0.mk (blk_below (tk_ BK177) hb); replace HB := Aside0.mk (below_step (bw_ HB) hb); (try clear hb); (try clear hb2); (try clear hk); (try clear hi); (try clear ho0); have hcz114_0 := bc_0 BK177; have hcz114_1 := bc_1 BK177; have hcz114_2 := bc_2 BK177; have hcz114_3 := bc_3 BK177; have hcz114_4 := bc_4 BK177; have hcz114_5 := bc_5 BK177; have hcz114_6 := bc_6 BK177; have hcz114_7 := bc_7 BK177; have hcz114_8 : w113.cell? ⟨gb177, 8, none⟩ = some (.slice Ao26 t174.length co26) := (blk_cell BK177.out 8).trans rfl; have hfz114_0 := blk_frozen BK177.out 0; have hfz114_1 := blk_frozen BK177.out 1; have hfz114_2 := blk_frozen BK177.out 2; have hfz114_3 := blk_frozen BK177.out 3; have hfz114_4 := blk_frozen BK177.out 4; have hfz114_5 := blk_frozen BK177.out 5; have hfz114_6 := blk_frozen BK177.out 6; have hfz114_7 := blk_frozen BK177.out 7; have hfz114_8 := blk_frozen BK177.out 8; (first | ((with_reducible refine gate_store_ rfl ?_); refine st9_ rfl rfl rfl rfl rfl (by with_reducible assumption) (by kernel_rfl) (by simp [Value.oneCell']) ?_; clear hcz114_0 hfz114_0 hcz114_1 hfz114_1 hcz114_2 hfz114_2 hcz114_3 hfz114_3 hcz114_4 hfz114_4 hcz114_5 hfz114_5 hcz114_6 hfz114_6 hcz114_7 hfz114_7 hcz114_8 hfz114_8; intro hb9_; have BN114 := Aside0.mk hb9_; clear hb9_) | skip)) | ((with_reducible refine gate_dst (N := 103) rfl ?_); (try (refine gate_guard (by rfl) ?_; dsimp only)); refine Kd.N_lit k24 _ 24 ?hg (N' := 103) ?hd (xs := ([(⟨t166, x178001_19, x178002_19, x178003_19, x178004_19, x178005_19, x178006_19, x178007_19, t174⟩ : S24)] : List (S24))) (inner := [.int .i64 t166, .int .i64 x178001_19, .int .i64 x178002_19, .int .i64 x178003_19, .int .i64 x178004_19, .int .i64 x178005_19, .int .i64 x178006_19, .int .i64 x178007_19, .slice Ao26 t174.length co26]) (ok := (fun k_ => some k_ ≠ (v196 : Value).ownBlock ∧ k_ ≠ gb162 ∧ k_ ≠ gb177)) (okp := (fun k_ => some k_ ≠ (v196 : Value).ownBlock ∧ k_ ≠ gb162 ∧ k_ ≠ gb177)) ?hr ?hp (fun _ hk => hk) ((show ∀ k_, (_ : Nat) ≤ k_ → (fun k_ => some k_ ≠ (v196 : Value).ownBlock ∧ k_ ≠ gb162 ∧ k_ ≠ gb177) k_ from fun k_ hk => ⟨Kd.fresh' (Kd.R_lt (tR_ HO197)) k_ hk, Kd.freshB (tk_ BK162) k_ hk, Kd.freshB (tk_ BK177) k_ hk⟩) _ (Nat.le_refl _)) (Below.refl _ _) (Nat.le_refl _) (by simp) ?_; (case hd => rfl); (case hg => rfl); (case hr => exact bld9_ ((.int .i64 0)) ((.int .i64 0)) ((.int .i64 0)) ((.int .i64 0)) ((.int .i64 0)) ((.int .i64 0)) ((.int .i64 0)) ((.int .i64 0)) ((.slice none 0 0)) rfl rfl); (case hp => exact (Reps.c9 (show Kd.FK k24 _ _ (⟨t166, x178001_19, x178002_19, x178003_19, x178004_19, x178005_19, x178006_19, x178007_19, t174⟩ : S24) [.int .i64 t166, .int .i64 x178001_19, .int .i64 x178002_19, .int .i64 x178003_19, .int .i64 x178004_19, .int .i64 x178005_19, .int .i64 x178006_19, .int .i64 x178007_19, .slice Ao26 t174.length co26] from (k24_mkF _ _ (⟨t166, x178001_19, x178002_19, x178003_19, x178004_19, x178005_19, x178006_19, x178007_19, t174⟩ : S24) (Kd.R_reads' (Kd.R_mono (ok' := (fun k_ => some k_ ≠ (v196 : Value).ownBlock ∧ k_ ≠ gb162 ∧ k_ ≠ gb177)) (Kd.R_types (Kd.R_types (Kd.R_apart' (HO_178008.out) (Kd.R_typed HO197.out) (by decide)) BK162.out (by decide)) BK177.out (by decide)) (fun k_ hk => ⟨hk.1.1.2, ⟨hk.1.2, hk.2⟩⟩))).2.1 (Kd.R_F (Kd.R_mono (ok' := (fun k_ => some k_ ≠ (v196 : Value).ownBlock ∧ k_ ≠ gb162 ∧ k_ ≠ gb177)) (Kd.R_types (Kd.R_types (Kd.R_apart' (HO_178008.out) (Kd.R_typed HO197.out) (by decide)) BK162.out (by decide)) BK177.out (by decide)) (fun k_ hk => ⟨hk.1.1.2, ⟨hk.1.2, hk.2⟩⟩))))) (Reps.none _ _))); intro v200 w115 ho116 hb hg_ hnew_; clear hg_ hnew_; (first | rw [← Ny199.out] at ho116 | (simp only [Int.reduceToNat] at ho116; rw [← Ny199.out] at ho116)); have n0_ := Aside0.mk (Kd.R_below (tR_ HO197) hb); have n1_ := Aside0.mk (Kd.N_lower ho116 (below_size (bw_ HB))); have n2_ := Aside0.mk (blk_below (tk_ BK162) hb); have n3_ := Aside0.mk (blk_below (tk_ BK177) hb); have n4_ := Aside0.mk (below_step (bw_ HB) hb); clear HO197; clear BK162; clear BK177; clear HB; clear HO_178008; have HO197 := n0_; have HO201 := n1_; have BK162 := n2_; have BK177 := n3_; have HB := n4_; clear n0_ n1_ n2_ n3_ n4_; clear hb ho116; obtain ⟨Ao117, co117, eo117⟩ := Kd.N_slice HO201.out; subst eo117) | (go_at_call 12; (with_reducible refine (msg_Right.calls k3 _ _ y199 t202 _ ?side1 ?side2 A101.out).mono ?_); (case side1 => repeat (first | exact (Kd.N_reads' HO201.out).2.2 | (with_reducible refine Kd.C_alloc ?_ _) | (with_reducible refine Kd.C_drewN ?_ _) | (with_reducible refine Kd.C_drew ?_))); (case side2 => exact (Kd.N_reads' HO201.out).2.1); rintro e w118 ⟨rfl, hb⟩; (try clear A101); replace HO197 := Aside0.mk (Kd.R_below (tR_ HO197) hb); replace HO201 := Aside0.mk (Kd.N_below (tN_ HO201) hb); replace BK162 := Aside0.mk (blk_below (tk_ BK162) hb); replace BK177 := Aside0.mk (blk_below (tk_ BK177) hb); replace HB := Aside0.mk (below_step (bw_ HB) hb); (try clear hb); (try clear hb2); (try clear hk); (try clear hi)))
       repeat (go_quiet (first | (go_at_call 11; (with_reducible refine (msg_Bytes.calls t166 x178001_19 x178002_19 x178003_19 x178004_19 x178005_19 x178006_19 x178007_19 _ _ t174 t195 t198 _ ?side1 ?side2 A100.out).mono ?_); (case side1 => repeat (first | exact (Kd.R_reads' HO_178008.out).2.2 | (with_reducible refine Kd.C_alloc ?_ _) | (with_reducible refine Kd.C_drewN ?_ _) | (with_reducible refine Kd.C_drew ?_))); (case side2 => exact (Kd.R_reads' HO_178008.out).2.1); rintro e w113 ⟨v196, rfl, ho0, hb⟩; (try clear A100); have HO197 := Aside0.mk (Kd.R_lower ho0 (below_size (bw_ HB))); replace HO_178008 := Aside0.mk (Kd.R_below (tR_ HO_178008) hb); replace BK162 := Aside0.mk (blk_below (tk_ BK162) hb); replace BK177 := Aside0.mk (blk_below (tk_ BK177) hb); replace HB := Aside0.mk (below_step (bw_ HB) hb); (try clear hb); (try clear hb2); (try clear hk); (try clear hi); (try clear ho0); have hcz114_0 := bc_0 BK177; have hcz114_1 := bc_1 BK177; have hcz114_2 := bc_2 BK177; have hcz114_3 := bc_3 BK177; have hcz114_4 := bc_4 BK177; have hcz114_5 := bc_5 BK177; have hcz114_6 := bc_6 BK177; have hcz114_7 := bc_7 BK177; have hcz114_8 : w113.cell? ⟨gb177, 8, none⟩ = some (.slice Ao26 t174.length co26) := (blk_cell BK177.out 8).trans rfl; have hfz114_0 := blk_frozen BK177.out 0; have hfz114_1 := blk_frozen BK177.out 1; have hfz114_2 := blk_frozen BK177.out 2; have hfz114_3 := blk_frozen BK177.out 3; have hfz114_4 := blk_frozen BK177.out 4; have hfz114_5 := blk_frozen BK177.out 5; have hfz114_6 := blk_frozen BK177.out 6; have hfz114_7 := blk_frozen BK177.out 7; have hfz114_8 := blk_frozen BK177.out 8) | ((with_reducible refine gate_dst (N := 103) rfl ?_); (try (refine gate_guard (by rfl) ?_; dsimp only)); refine Kd.N_lit k24 _ 24 ?hg (N' := 103) ?hd (xs := ([(⟨t166, x178001_19, x178002_19, x178003_19, x178004_19, x178005_19, x178006_19, x178007_19, t174⟩ : S24)] : List (S24))) (inner := [.int .i64 t166, .int .i64 x178001_19, .int .i64 x178002_19, .int .i64 x178003_19, .int .i64 x178004_19, .int .i64 x178005_19, .int .i64 x178006_19, .int .i64 x178007_19, .slice Ao26 t174.length co26]) (ok := (fun k_ => some k_ ≠ (v196 : Value).ownBlock ∧ k_ ≠ gb162 ∧ k_ ≠ gb177)) (okp := (fun k_ => some k_ ≠ (v196 : Value).ownBlock ∧ k_ ≠ gb162 ∧ k_ ≠ gb177)) ?hr ?hp (fun _ hk => hk) ((show ∀ k_, (_ : Nat) ≤ k_ → (fun k_ => some k_ ≠ (v196 : Value).ownBlock ∧ k_ ≠ gb162 ∧ k_ ≠ gb177) k_ from fun k_ hk => ⟨Kd.fresh' (Kd.R_lt (tR_ HO197)) k_ hk, Kd.freshB (tk_ BK162) k_ hk, Kd.freshB (tk_ BK177) k_ hk⟩) _ (Nat.le_refl _)) (Below.refl _ _) (Nat.le_refl _) (by simp) ?_; (case hd => rfl); (case hg => rfl); (case hr => exact bld9_ ((.int .i64 0)) ((.int .i64 0)) ((.int .i64 0)) ((.int .i64 0)) ((.int .i64 0)) ((.int .i64 0)) ((.int .i64 0)) ((.int .i64 0)) ((.slice none 0 0)) rfl rfl); (case hp => exact (Reps.c9 (show Kd.FK k24 _ _ (⟨t166, x178001_19, x178002_19, x178003_19, x178004_19, x178005_19, x178006_19, x178007_19, t174⟩ : S24) [.int .i64 t166, .int .i64 x178001_19, .int .i64 x178002_19, .int .i64 x178003_19, .int .i64 x178004_19, .int .i64 x178005_19, .int .i64 x178006_19, .int .i64 x178007_19, .slice Ao26 t174.length co26] from (k24_mkF _ _ (⟨t166, x178001_19, x178002_19, x178003_19, x178004_19, x178005_19, x178006_19, x178007_19, t174⟩ : S24) (Kd.R_reads' (Kd.R_mono (ok' := (fun k_ => some k_ ≠ (v196 : Value).ownBlock ∧ k_ ≠ gb162 ∧ k_ ≠ gb177)) (Kd.R_types (Kd.R_types (Kd.R_apart' (HO_178008.out) (Kd.R_typed HO197.out) (by decide)) BK162.out (by decide)) BK177.out (by decide)) (fun k_ hk => ⟨hk.1.1.2, ⟨hk.1.2, hk.2⟩⟩))).2.1 (Kd.R_F (Kd.R_mono (ok' := (fun k_ => some k_ ≠ (v196 : Value).ownBlock ∧ k_ ≠ gb162 ∧ k_ ≠ gb177)) (Kd.R_types (Kd.R_types (Kd.R_apart' (HO_178008.out) (Kd.R_typed HO197.out) (by decide)) BK162.out (by decide)) BK177.out (by decide)) (fun k_ hk => ⟨hk.1.1.2, ⟨hk.1.2, hk.2⟩⟩))))) (Reps.none _ _))); intro v200 w115 ho116 hb hg_ hnew_; clear hg_ hnew_; (first | rw [← Ny199.out] at ho116 | (simp only [Int.reduceToNat] at ho116; rw [← Ny199.out] at ho116)); have n0_ := Aside0.mk (Kd.R_below (tR_ HO197) hb); have n1_ := Aside0.mk (Kd.N_lower ho116 (below_size (bw_ HB))); have n2_ := Aside0.mk (blk_below (tk_ BK162) hb); have n3_ := Aside0.mk (blk_below (tk_ BK177) hb); have n4_ := Aside0.mk (below_step (bw_ HB) hb); clear HO197; clear BK162; clear BK177; clear HB; clear HO_178008; have HO197 := n0_; have HO201 := n1_; have BK162 := n2_; have BK177 := n3_; have HB := n4_; clear n0_ n1_ n2_ n3_ n4_; clear hb ho116; obtain ⟨Ao117, co117, eo117⟩ := Kd.N_slice HO201.out; subst eo117) | (go_at_call 12; (with_reducible refine (msg_Right.calls k3 _ _ y199 t202 _ ?side1 ?side2 A101.out).mono ?_); (case side1 => repeat (first | exact (Kd.N_reads' HO201.out).2.2 | (with_reducible refine Kd.C_alloc ?_ _) | (with_reducible refine Kd.C_drewN ?_ _) | (with_reducible refine Kd.C_drew ?_))); (case side2 => exact (Kd.N_reads' HO201.out).2.1); rintro e w118 ⟨rfl, hb⟩; (try clear A101); replace HO197 := Aside0.mk (Kd.R_below (tR_ HO197) hb); replace HO201 := Aside0.mk (Kd.N_below (tN_ HO201) hb); replace BK162 := Aside0.mk (blk_below (tk_ BK162) hb); replace BK177 := Aside0.mk (blk_below (tk_ BK177) hb); replace HB := Aside0.mk (below_step (bw_ HB) hb); (try clear hb); (try clear hb2); (try clear hk); (try clear hi))); try go_wp2_with (first | (go_at_call 11; (with_reducible refine (msg_Bytes.calls t166 x178001_19 x178002_19 x178003_19 x178004_19 x178005_19 x178006_19 x178007_19 _ _ t174 t195 t198 _ ?side1 ?side2 A100.out).mono ?_); (case side1 => repeat (first | exact (Kd.R_reads' HO_178008.out).2.2 | (with_reducible refine Kd.C_alloc ?_ _) | (with_reducible refine Kd.C_drewN ?_ _) | (with_reducible refine Kd.C_drew ?_))); (case side2 => exact (Kd.R_reads' HO_178008.out).2.1); rintro e w113 ⟨v196, rfl, ho0, hb⟩; (try clear A100); have HO197 := Aside0.mk (Kd.R_lower ho0 (below_size (bw_ HB))); replace HO_178008 := Aside0.mk (Kd.R_below (tR_ HO_178008) hb); replace BK162 := Aside0.mk (blk_below (tk_ BK162) hb); replace BK177 := Aside0.mk (blk_below (tk_ BK177) hb); replace HB := Aside0.mk (below_step (bw_ HB) hb); (try clear hb); (try clear hb2); (try clear hk); (try clear hi); (try clear ho0); have hcz114_0 := bc_0 BK177; have hcz114_1 := bc_1 BK177; have hcz114_2 := bc_2 BK177; have hcz114_3 := bc_3 BK177; have hcz114_4 := bc_4 BK177; have hcz114_5 := bc_5 BK177; have hcz114_6 := bc_6 BK177; have hcz114_7 := bc_7 BK177; have hcz114_8 : w113.cell? ⟨gb177, 8, none⟩ = some (.slice Ao26 t174.length co26) := (blk_cell BK177.out 8).trans rfl; have hfz114_0 := blk_frozen BK177.out 0; have hfz114_1 := blk_frozen BK177.out 1; have hfz114_2 := blk_frozen BK177.out 2; have hfz114_3 := blk_frozen BK177.out 3; have hfz114_4 := blk_frozen BK177.out 4; have hfz114_5 := blk_frozen BK177.out 5; have hfz114_6 := blk_frozen BK177.out 6; have hfz114_7 := blk_frozen BK177.out 7; have hfz114_8 := blk_frozen BK177.out 8) | ((with_reducible refine gate_dst (N := 103) rfl ?_); (try (refine gate_guard (by rfl) ?_; dsimp only)); refine Kd.N_lit k24 _ 24 ?hg (N' := 103) ?hd (xs := ([(⟨t166, x178001_19, x178002_19, x178003_19, x178004_19, x178005_19, x178006_19, x178007_19, t174⟩ : S24)] : List (S24))) (inner := [.int .i64 t166, .int .i64 x178001_19, .int .i64 x178002_19, .int .i64 x178003_19, .int .i64 x178004_19, .int .i64 x178005_19, .int .i64 x178006_19, .int .i64 x178007_19, .slice Ao26 t174.length co26]) (ok := (fun k_ => some k_ ≠ (v196 : Value).ownBlock ∧ k_ ≠ gb162 ∧ k_ ≠ gb177)) (okp := (fun k_ => some k_ ≠ (v196 : Value).ownBlock ∧ k_ ≠ gb162 ∧ k_ ≠ gb177)) ?hr ?hp (fun _ hk => hk) ((show ∀ k_, (_ : Nat) ≤ k_ → (fun k_ => some k_ ≠ (v196 : Value).ownBlock ∧ k_ ≠ gb162 ∧ k_ ≠ gb177) k_ from fun k_ hk => ⟨Kd.fresh' (Kd.R_lt (tR_ HO197)) k_ hk, Kd.freshB (tk_ BK162) k_ hk, Kd.freshB (tk_ BK177) k_ hk⟩) _ (Nat.le_refl _)) (Below.refl _ _) (Nat.le_refl _) (by simp) ?_; (case hd => rfl); (case hg => rfl); (case hr => exact bld9_ ((.int .i64 0)) ((.int .i64 0)) ((.int .i64 0)) ((.int .i64 0)) ((.int .i64 0)) ((.int .i64 0)) ((.int .i64 0)) ((.int .i64 0)) ((.slice none 0 0)) rfl rfl); (case hp => exact (Reps.c9 (show Kd.FK k24 _ _ (⟨t166, x178001_19, x178002_19, x178003_19, x178004_19, x178005_19, x178006_19, x178007_19, t174⟩ : S24) [.int .i64 t166, .int .i64 x178001_19, .int .i64 x178002_19, .int .i64 x178003_19, .int .i64 x178004_19, .int .i64 x178005_19, .int .i64 x178006_19, .int .i64 x178007_19, .slice Ao26 t174.length co26] from (k24_mkF _ _ (⟨t166, x178001_19, x178002_19, x178003_19, x178004_19, x178005_19, x178006_19, x178007_19, t174⟩ : S24) (Kd.R_reads' (Kd.R_mono (ok' := (fun k_ => some k_ ≠ (v196 : Value).ownBlock ∧ k_ ≠ gb162 ∧ k_ ≠ gb177)) (Kd.R_types (Kd.R_types (Kd.R_apart' (HO_178008.out) (Kd.R_typed HO197.out) (by decide)) BK162.out (by decide)) BK177.out (by decide)) (fun k_ hk => ⟨hk.1.1.2, ⟨hk.1.2, hk.2⟩⟩))).2.1 (Kd.R_F (Kd.R_mono (ok' := (fun k_ => some k_ ≠ (v196 : Value).ownBlock ∧ k_ ≠ gb162 ∧ k_ ≠ gb177)) (Kd.R_types (Kd.R_types (Kd.R_apart' (HO_178008.out) (Kd.R_typed HO197.out) (by decide)) BK162.out (by decide)) BK177.out (by decide)) (fun k_ hk => ⟨hk.1.1.2, ⟨hk.1.2, hk.2⟩⟩))))) (Reps.none _ _))); intro v200 w115 ho116 hb hg_ hnew_; clear hg_ hnew_; (first | rw [← Ny199.out] at ho116 | (simp only [Int.reduceToNat] at ho116; rw [← Ny199.out] at ho116)); have n0_ := Aside0.mk (Kd.R_below (tR_ HO197) hb); have n1_ := Aside0.mk (Kd.N_lower ho116 (below_size (bw_ HB))); have n2_ := Aside0.mk (blk_below (tk_ BK162) hb); have n3_ := Aside0.mk (blk_below (tk_ BK177) hb); have n4_ := Aside0.mk (below_step (bw_ HB) hb); clear HO197; clear BK162; clear BK177; clear HB; clear HO_178008; have HO197 := n0_; have HO201 := n1_; have BK162 := n2_; have BK177 := n3_; have HB := n4_; clear n0_ n1_ n2_ n3_ n4_; clear hb ho116; obtain ⟨Ao117, co117, eo117⟩ := Kd.N_slice HO201.out; subst eo117) | (go_at_call 12; (with_reducible refine (msg_Right.calls k3 _ _ y199 t202 _ ?side1 ?side2 A101.out).mono ?_); (case side1 => repeat (first | exact (Kd.N_reads' HO201.out).2.2 | (with_reducible refine Kd.C_alloc ?_ _) | (with_reducible refine Kd.C_drewN ?_ _) | (with_reducible refine Kd.C_drew ?_))); (case side2 => exact (Kd.N_reads' HO201.out).2.1); rintro e w118 ⟨rfl, hb⟩; (try clear A101); replace HO197 := Aside0.mk (Kd.R_below (tR_ HO197) hb); replace HO201 := Aside0.mk (Kd.N_below (tN_ HO201) hb); replace BK162 := Aside0.mk (blk_below (tk_ BK162) hb); replace BK177 := Aside0.mk (blk_below (tk_ BK177) hb); replace HB := Aside0.mk (below_step (bw_ HB) hb); (try clear hb); (try clear hb2); (try clear hk); (try clear hi))))
       go_ret
       exact ⟨by first | rfl | (simp [errW_none, errW_some] <;> rfl) | (simp [*, errW_none, errW_some] <;> rfl), by repeat (first | (with_reducible first | exact HB.out | apply b_a | apply b_n | apply b_d | refine b_s ?_ GE162.out | refine b_s ?_ GE177.out) | exact HB.out)⟩
/-- THE ONE PURE STATEMENT of pelotonlaw15_MsgForms. -/
def pelotonlaw15_MsgForms.Pure : Prop := ∀ (a0_0 : Int) (a0_1 : Int) (a0_2 : Int) (a0_3 : Int) (a0_4 : Int) (a0_5 : Int) (a0_6 : Int) (a0_7 : Int) (l0_8 : List Int) (a1 : Int) (a2 : Int), ((Lit.int .i64 a0_0).wf = true ∧ (Lit.int .i64 a0_1).wf = true ∧ (Lit.int .i64 a0_2).wf = true ∧ (Lit.int .i64 a0_3).wf = true ∧ (Lit.int .i64 a0_4).wf = true ∧ (Lit.int .i64 a0_5).wf = true ∧ (Lit.int .i64 a0_6).wf = true ∧ (Lit.int .i64 a0_7).wf = true ∧ l0_8.length ≤ maxLen ∧ ∀ y0 ∈ l0_8, (Lit.int .i32 y0).wf = true) → ((Lit.int .i64 a1).wf = true) → ((Lit.int .i64 a2).wf = true) → ∃ k, pelotonlaw15_MsgForms.f k a0_0 a0_1 a0_2 a0_3 a0_4 a0_5 a0_6 a0_7 l0_8 a1 a2 = some true

end Go.Proofs.Ytnkphgiodpledaa.QMsgForms
