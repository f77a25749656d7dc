-- Written by a program of this session (a turned copy of the print) out of the translation. Lean checks it.
import Derived.Test.YtnkphgiodpledaaQMsgBackx0
import Derived.Test.YtnkphgiodpledaaQMsgBackx2
import Derived.Test.YtnkphgiodpledaaQMsgBackx3
import Derived.Test.YtnkphgiodpledaaQMsgBackx4
import Derived.Test.YtnkphgiodpledaaQMsgBackx5
import Derived.Test.YtnkphgiodpledaaQMsgBackx6
import Derived.Test.YtnkphgiodpledaaQMsgBackx7
import Derived.Test.YtnkphgiodpledaaQMsgBackx9
import Derived.Test.YtnkphgiodpledaaQMsgBackx10
namespace Go.Proofs.Ytnkphgiodpledaa.QMsgBack
open Go.RowKit Go.Proofs.YtnkphgiodpledaaW.PrintWords Go.Proofs.YtnkphgiodpledaaW.PrintLast Go.Proofs.YtnkphgiodpledaaW.PrintMore
attribute [local go_sem] max2_int min2_int max_two min_two max_three min_three max_four min_four   -- for this text's walks alone
open Go.Proofs.YtnkphgiodpledaaW.PrintWords renaming below_alloc → b_a, pw_below_drewN → b_n, below_drew1 → b_d, below_set → b_s, blk_drewN → k_n, blk_drew → k_d, blk_alloc → k_a
open List renaming setIfInBounds_toArray → l_1, set_cons_zero → l_2, set_cons_succ → l_3, map_toArray → l_4, map_cons → l_5, map_nil → l_6, length_drop → l_7, length_take → l_8
set_option linter.unusedVariables false
set_option linter.unusedSimpArgs false

/-! ### pelotonlaw15_MsgBack: function 6 -/
mutual
def pelotonlaw15_MsgBack.j0 : Nat → Bool → Int → Int → Int → Int → Int → Int → Int → Int → List Int → Option (Bool)
 | 0, _, _, _, _, _, _, _, _, _, _ => none
 | k + 1, x16, x237000, x237001, x237002, x237003, x237004, x237005, x237006, x237007, x237008 => if x16 = true then ((pelotonlaw15_awake.f k).bind fun t238 => (some t238)) else ((msg_Clone.f x237000 x237001 x237002 x237003 x237004 x237005 x237006 x237007 x237008).bind fun bt239 => ((msg_Bytes.f bt239.1 bt239.2.1 bt239.2.2.1 bt239.2.2.2.1 bt239.2.2.2.2.1 bt239.2.2.2.2.2.1 bt239.2.2.2.2.2.2.1 bt239.2.2.2.2.2.2.2.1 bt239.2.2.2.2.2.2.2.2).bind fun bt251 => ((pelotonref15_Right.f k x237000 x237001 x237002 x237003 x237004 x237005 x237006 x237007 x237008).bind fun t255 => ((msg_Right.f k (([(⟨x237000, x237001, x237002, x237003, x237004, x237005, x237006, x237007, x237008⟩ : S24)] : List (S24)))).bind fun t259 => (if (t259 != t255) = true then (pelotonlaw15_MsgBack.j1 k bt251.1 bt251.2 t255 true x237000 x237001 x237002 x237003 x237004 x237005 x237006 x237007 x237008) else ((pelotonref15_Same.f k bt239.1 bt239.2.1 bt239.2.2.1 bt239.2.2.2.1 bt239.2.2.2.2.1 bt239.2.2.2.2.2.1 bt239.2.2.2.2.2.2.1 bt239.2.2.2.2.2.2.2.1 bt239.2.2.2.2.2.2.2.2 x237000 x237001 x237002 x237003 x237004 x237005 x237006 x237007 x237008).bind fun t260 => (if t260 = true then ((msg_Same.f k bt239.1 bt239.2.1 bt239.2.2.1 bt239.2.2.2.1 bt239.2.2.2.2.1 bt239.2.2.2.2.2.1 bt239.2.2.2.2.2.2.1 bt239.2.2.2.2.2.2.2.1 bt239.2.2.2.2.2.2.2.2 x237000 x237001 x237002 x237003 x237004 x237005 x237006 x237007 x237008).bind fun t261 => (pelotonlaw15_MsgBack.j1 k bt251.1 bt251.2 t255 (!t261) x237000 x237001 x237002 x237003 x237004 x237005 x237006 x237007 x237008)) else (pelotonlaw15_MsgBack.j1 k bt251.1 bt251.2 t255 true x237000 x237001 x237002 x237003 x237004 x237005 x237006 x237007 x237008))))))))
def pelotonlaw15_MsgBack.j1 : Nat → List Int → Int → Bool → Bool → Int → Int → Int → Int → Int → Int → Int → Int → List Int → Option (Bool)
 | 0, _, _, _, _, _, _, _, _, _, _, _, _, _ => none
 | k + 1, x4, x5, x6, x43, x237000, x237001, x237002, x237003, x237004, x237005, x237006, x237007, x237008 => if x43 = true then (some false) else (if x6 = true then (if x5 = 0 then ((pelotonref15_Bytes.f k x237000 x237001 x237002 x237003 x237004 x237005 x237006 x237007 x237008).bind fun t262 => (pelotonlaw15_MsgBack.j2 k x4 ((strOfNums x4).toList != (strOfNums t262).toList) x237000 x237001 x237002 x237003 x237004 x237005 x237006 x237007 x237008)) else (pelotonlaw15_MsgBack.j2 k x4 true x237000 x237001 x237002 x237003 x237004 x237005 x237006 x237007 x237008)) else (if x5 = 150 then (some ((x4.length : Int) == 0)) else (some false)))
def pelotonlaw15_MsgBack.j2 : Nat → List Int → Bool → Int → Int → Int → Int → Int → Int → Int → Int → List Int → Option (Bool)
 | 0, _, _, _, _, _, _, _, _, _, _, _ => none
 | k + 1, x4, x62, x237000, x237001, x237002, x237003, x237004, x237005, x237006, x237007, x237008 => if x62 = true then (some false) else ((msg_Parse.f k x4).bind fun bt265 => (if bt265.2.2.2.2.2.2.2.2.2 = 0 then ((pelotonref15_Same.f k bt265.1 bt265.2.1 bt265.2.2.1 bt265.2.2.2.1 bt265.2.2.2.2.1 bt265.2.2.2.2.2.1 bt265.2.2.2.2.2.2.1 bt265.2.2.2.2.2.2.2.1 bt265.2.2.2.2.2.2.2.2.1 x237000 x237001 x237002 x237003 x237004 x237005 x237006 x237007 x237008).bind fun t278 => (some t278)) else (some false)))
end
def pelotonlaw15_MsgBack.f (k : Nat) (a0_0 : Int) (a0_1 : Int) (a0_2 : Int) (a0_3 : Int) (a0_4 : Int) (a0_5 : Int) (a0_6 : Int) (a0_7 : Int) (l0_8 : List Int) : Option (Bool) := (pelotonlaw15_awake.f k).bind fun t237 => (if t237 = true then (pelotonlaw15_MsgBack.j0 k (decide ((l0_8.length : Int) > 5000)) a0_0 a0_1 a0_2 a0_3 a0_4 a0_5 a0_6 a0_7 l0_8) else (pelotonlaw15_MsgBack.j0 k true a0_0 a0_1 a0_2 a0_3 a0_4 a0_5 a0_6 a0_7 l0_8))
theorem pelotonlaw15_MsgBack.mono_l : ∀ k, (∀ y0 y1 y2 y3 y4 y5 y6 y7 y8 y9, LeO (pelotonlaw15_MsgBack.j0 k y0 y1 y2 y3 y4 y5 y6 y7 y8 y9) (pelotonlaw15_MsgBack.j0 (k + 1) y0 y1 y2 y3 y4 y5 y6 y7 y8 y9)) ∧ (∀ y0 y1 y2 y3 y4 y5 y6 y7 y8 y9 y10 y11 y12, LeO (pelotonlaw15_MsgBack.j1 k y0 y1 y2 y3 y4 y5 y6 y7 y8 y9 y10 y11 y12) (pelotonlaw15_MsgBack.j1 (k + 1) y0 y1 y2 y3 y4 y5 y6 y7 y8 y9 y10 y11 y12)) ∧ (∀ y0 y1 y2 y3 y4 y5 y6 y7 y8 y9 y10, LeO (pelotonlaw15_MsgBack.j2 k y0 y1 y2 y3 y4 y5 y6 y7 y8 y9 y10) (pelotonlaw15_MsgBack.j2 (k + 1) y0 y1 y2 y3 y4 y5 y6 y7 y8 y9 y10))
 | 0 => ⟨fun _ _ _ _ _ _ _ _ _ _ r h => by simp [pelotonlaw15_MsgBack.j0] at h, fun _ _ _ _ _ _ _ _ _ _ _ _ _ r h => by simp [pelotonlaw15_MsgBack.j1] at h, fun _ _ _ _ _ _ _ _ _ _ _ r h => by simp [pelotonlaw15_MsgBack.j2] at h⟩
 | k + 1 => by
  obtain ⟨ih0, ih1, ih2⟩ := pelotonlaw15_MsgBack.mono_l k
  refine ⟨?_, ?_, ?_⟩
  ·
   intro y0 y1 y2 y3 y4 y5 y6 y7 y8 y9
   unfold pelotonlaw15_MsgBack.j0
   repeat' first
   | (with_reducible exact ih0 _ _ _ _ _ _ _ _ _ _)
   | (with_reducible exact ih1 _ _ _ _ _ _ _ _ _ _ _ _ _)
   | (with_reducible exact ih2 _ _ _ _ _ _ _ _ _ _ _)
   | (with_reducible exact msg_Parse.mono _ _)
   | (with_reducible exact msg_Right.mono _ _)
   | (with_reducible exact msg_Same.mono _ _ _ _ _ _ _ _ _ _ _ _ _ _ _ _ _ _ _)
   | (with_reducible exact pelotonlaw15_awake.mono _)
   | (with_reducible exact pelotonref15_Bytes.mono _ _ _ _ _ _ _ _ _ _)
   | (with_reducible exact pelotonref15_Right.mono _ _ _ _ _ _ _ _ _ _)
   | (with_reducible exact pelotonref15_Same.mono _ _ _ _ _ _ _ _ _ _ _ _ _ _ _ _ _ _ _)
   | (with_reducible exact LeO.refl _)
   | (with_reducible exact LeO.none _)
   | (with_reducible refine LeO.ite ?_ ?_)
   | (with_reducible refine LeO.bind ?_ (fun _ => ?_))
   | exact ih0 _ _ _ _ _ _ _ _ _ _
   | exact ih1 _ _ _ _ _ _ _ _ _ _ _ _ _
   | exact ih2 _ _ _ _ _ _ _ _ _ _ _
   | exact msg_Parse.mono _ _
   | exact msg_Right.mono _ _
   | exact msg_Same.mono _ _ _ _ _ _ _ _ _ _ _ _ _ _ _ _ _ _ _
   | exact pelotonlaw15_awake.mono _
   | exact pelotonref15_Bytes.mono _ _ _ _ _ _ _ _ _ _
   | exact pelotonref15_Right.mono _ _ _ _ _ _ _ _ _ _
   | exact pelotonref15_Same.mono _ _ _ _ _ _ _ _ _ _ _ _ _ _ _ _ _ _ _
   | exact LeO.none _
   | refine LeO.ite ?_ ?_
   | refine LeO.bind ?_ (fun _ => ?_)
  ·
   intro y0 y1 y2 y3 y4 y5 y6 y7 y8 y9 y10 y11 y12
   unfold pelotonlaw15_MsgBack.j1
   repeat' first
   | (with_reducible exact ih0 _ _ _ _ _ _ _ _ _ _)
   | (with_reducible exact ih1 _ _ _ _ _ _ _ _ _ _ _ _ _)
   | (with_reducible exact ih2 _ _ _ _ _ _ _ _ _ _ _)
   | (with_reducible exact msg_Parse.mono _ _)
   | (with_reducible exact msg_Right.mono _ _)
   | (with_reducible exact msg_Same.mono _ _ _ _ _ _ _ _ _ _ _ _ _ _ _ _ _ _ _)
   | (with_reducible exact pelotonlaw15_awake.mono _)
   | (with_reducible exact pelotonref15_Bytes.mono _ _ _ _ _ _ _ _ _ _)
   | (with_reducible exact pelotonref15_Right.mono _ _ _ _ _ _ _ _ _ _)
   | (with_reducible exact pelotonref15_Same.mono _ _ _ _ _ _ _ _ _ _ _ _ _ _ _ _ _ _ _)
   | (with_reducible exact LeO.refl _)
   | (with_reducible exact LeO.none _)
   | (with_reducible refine LeO.ite ?_ ?_)
   | (with_reducible refine LeO.bind ?_ (fun _ => ?_))
   | exact ih0 _ _ _ _ _ _ _ _ _ _
   | exact ih1 _ _ _ _ _ _ _ _ _ _ _ _ _
   | exact ih2 _ _ _ _ _ _ _ _ _ _ _
   | exact msg_Parse.mono _ _
   | exact msg_Right.mono _ _
   | exact msg_Same.mono _ _ _ _ _ _ _ _ _ _ _ _ _ _ _ _ _ _ _
   | exact pelotonlaw15_awake.mono _
   | exact pelotonref15_Bytes.mono _ _ _ _ _ _ _ _ _ _
   | exact pelotonref15_Right.mono _ _ _ _ _ _ _ _ _ _
   | exact pelotonref15_Same.mono _ _ _ _ _ _ _ _ _ _ _ _ _ _ _ _ _ _ _
   | exact LeO.none _
   | refine LeO.ite ?_ ?_
   | refine LeO.bind ?_ (fun _ => ?_)
  ·
   intro y0 y1 y2 y3 y4 y5 y6 y7 y8 y9 y10
   unfold pelotonlaw15_MsgBack.j2
   repeat' first
   | (with_reducible exact ih0 _ _ _ _ _ _ _ _ _ _)
   | (with_reducible exact ih1 _ _ _ _ _ _ _ _ _ _ _ _ _)
   | (with_reducible exact ih2 _ _ _ _ _ _ _ _ _ _ _)
   | (with_reducible exact msg_Parse.mono _ _)
   | (with_reducible exact msg_Right.mono _ _)
   | (with_reducible exact msg_Same.mono _ _ _ _ _ _ _ _ _ _ _ _ _ _ _ _ _ _ _)
   | (with_reducible exact pelotonlaw15_awake.mono _)
   | (with_reducible exact pelotonref15_Bytes.mono _ _ _ _ _ _ _ _ _ _)
   | (with_reducible exact pelotonref15_Right.mono _ _ _ _ _ _ _ _ _ _)
   | (with_reducible exact pelotonref15_Same.mono _ _ _ _ _ _ _ _ _ _ _ _ _ _ _ _ _ _ _)
   | (with_reducible exact LeO.refl _)
   | (with_reducible exact LeO.none _)
   | (with_reducible refine LeO.ite ?_ ?_)
   | (with_reducible refine LeO.bind ?_ (fun _ => ?_))
   | exact ih0 _ _ _ _ _ _ _ _ _ _
   | exact ih1 _ _ _ _ _ _ _ _ _ _ _ _ _
   | exact ih2 _ _ _ _ _ _ _ _ _ _ _
   | exact msg_Parse.mono _ _
   | exact msg_Right.mono _ _
   | exact msg_Same.mono _ _ _ _ _ _ _ _ _ _ _ _ _ _ _ _ _ _ _
   | exact pelotonlaw15_awake.mono _
   | exact pelotonref15_Bytes.mono _ _ _ _ _ _ _ _ _ _
   | exact pelotonref15_Right.mono _ _ _ _ _ _ _ _ _ _
   | exact pelotonref15_Same.mono _ _ _ _ _ _ _ _ _ _ _ _ _ _ _ _ _ _ _
   | exact LeO.none _
   | refine LeO.ite ?_ ?_
   | refine LeO.bind ?_ (fun _ => ?_)
theorem pelotonlaw15_MsgBack.mono : ∀ a0 a1 a2 a3 a4 a5 a6 a7 a8 k, LeO (pelotonlaw15_MsgBack.f k a0 a1 a2 a3 a4 a5 a6 a7 a8) (pelotonlaw15_MsgBack.f (k + 1) a0 a1 a2 a3 a4 a5 a6 a7 a8) := by
 intro a0 a1 a2 a3 a4 a5 a6 a7 a8 k
 obtain ⟨ih0, ih1, ih2⟩ := pelotonlaw15_MsgBack.mono_l k
 unfold pelotonlaw15_MsgBack.f
 repeat' first
   | (with_reducible exact ih0 _ _ _ _ _ _ _ _ _ _)
   | (with_reducible exact ih1 _ _ _ _ _ _ _ _ _ _ _ _ _)
   | (with_reducible exact ih2 _ _ _ _ _ _ _ _ _ _ _)
   | (with_reducible exact msg_Parse.mono _ _)
   | (with_reducible exact msg_Right.mono _ _)
   | (with_reducible exact msg_Same.mono _ _ _ _ _ _ _ _ _ _ _ _ _ _ _ _ _ _ _)
   | (with_reducible exact pelotonlaw15_awake.mono _)
   | (with_reducible exact pelotonref15_Bytes.mono _ _ _ _ _ _ _ _ _ _)
   | (with_reducible exact pelotonref15_Right.mono _ _ _ _ _ _ _ _ _ _)
   | (with_reducible exact pelotonref15_Same.mono _ _ _ _ _ _ _ _ _ _ _ _ _ _ _ _ _ _ _)
   | (with_reducible exact LeO.refl _)
   | (with_reducible exact LeO.none _)
   | (with_reducible refine LeO.ite ?_ ?_)
   | (with_reducible refine LeO.bind ?_ (fun _ => ?_))
   | exact ih0 _ _ _ _ _ _ _ _ _ _
   | exact ih1 _ _ _ _ _ _ _ _ _ _ _ _ _
   | exact ih2 _ _ _ _ _ _ _ _ _ _ _
   | exact msg_Parse.mono _ _
   | exact msg_Right.mono _ _
   | exact msg_Same.mono _ _ _ _ _ _ _ _ _ _ _ _ _ _ _ _ _ _ _
   | exact pelotonlaw15_awake.mono _
   | exact pelotonref15_Bytes.mono _ _ _ _ _ _ _ _ _ _
   | exact pelotonref15_Right.mono _ _ _ _ _ _ _ _ _ _
   | exact pelotonref15_Same.mono _ _ _ _ _ _ _ _ _ _ _ _ _ _ _ _ _ _ _
   | exact LeO.none _
   | refine LeO.ite ?_ ?_
   | refine LeO.bind ?_ (fun _ => ?_)
def pelotonlaw15_MsgBack.T10 : Bool × List (List Nat × List Nat) := (true, [([], []), ([0], [0]), ([1], [1]), ([2], [2]), ([3, 2], [2, 3]), ([2], [2]), ([5, 2, 2], [2, 5]), ([6, 2], [2, 6]), ([4, 7, 2], [2, 4, 7]), ([2, 8], [2, 8])])
def pelotonlaw15_MsgBack.B10 : List Nat := [0, 1, 3, 7, 15, 7, 39, 103, 255, 511]
theorem pelotonlaw15_MsgBack.tab10 : rtab .any (opsOf Try.f6 10) = pelotonlaw15_MsgBack.T10 := by kernel_rfl
theorem pelotonlaw15_MsgBack.bits10 : waitsOk pelotonlaw15_MsgBack.T10.2 pelotonlaw15_MsgBack.B10 = true := by kernel_rfl
set_option maxHeartbeats 60000000 in
set_option maxRecDepth 100000 in
theorem pelotonlaw15_MsgBack.callsV (k : Nat) (a0_0 : Int) (a0_1 : Int) (a0_2 : Int) (a0_3 : Int) (a0_4 : Int) (a0_5 : Int) (a0_6 : Int) (a0_7 : Int) (P0_8_ : Nat → Prop) (A0_8 : Option Addr) (c0_8 : Nat) (l0_8 : List Int) (r : Bool) (w : World) (hs0_8 : Kd.V (Kd.int .i32) 21 w w.heap.size (fun k_ => P0_8_ k_) (.slice A0_8 l0_8.length c0_8) l0_8) (h : pelotonlaw15_MsgBack.f k a0_0 a0_1 a0_2 a0_3 a0_4 a0_5 a0_6 a0_7 l0_8 = some r) :
  Calls Try.prog 6 #[.agg #[.int .i64 a0_0, .int .i64 a0_1, .int .i64 a0_2, .int .i64 a0_3, .int .i64 a0_4, .int .i64 a0_5, .int .i64 a0_6, .int .i64 a0_7, .slice A0_8 l0_8.length c0_8]] w fun e w' => e = .returned (.bool r) ∧ Below w.heap.size w w' := by
 have hu24 := Try.underlying24
 have HO0_8 := Aside0.mk (show Kd.V (Kd.int .i32) 21 w w.heap.size (fun k_ => (P0_8_ k_ ∨ w.heap.size ≤ k_)) (.slice A0_8 l0_8.length c0_8) l0_8 from Kd.V_mono hs0_8 (fun k_ hk => .inl hk))
 have HB := Aside0.mk (Below.refl w.heap.size w)
 have H : ((pelotonlaw15_awake.f k).bind fun t237 => (if t237 = true then (pelotonlaw15_MsgBack.j0 k (decide ((l0_8.length : Int) > 5000)) a0_0 a0_1 a0_2 a0_3 a0_4 a0_5 a0_6 a0_7 l0_8) else (pelotonlaw15_MsgBack.j0 k true a0_0 a0_1 a0_2 a0_3 a0_4 a0_5 a0_6 a0_7 l0_8))) = some r := h
 clear h
 have HC2 := Aside0.mk H
 clear H
 go_enter Try.func6, Try.ntmps6
 go_upto_region 1 with (first | ((with_reducible refine gate_dst (N := 1) rfl ?_); (try (refine gate_guard (by rfl) ?_; dsimp only)); refine box_event ?hg (N := 1) ?hd (cs := #[.int .i64 a0_0, .int .i64 a0_1, .int .i64 a0_2, .int .i64 a0_3, .int .i64 a0_4, .int .i64 a0_5, .int .i64 a0_6, .int .i64 a0_7, .slice A0_8 l0_8.length c0_8]) (t := 24) ?hr ?_; (case hd => rfl); (case hg => rfl); (case hr => first | (go_simp; done) | (go_simp; rfl)); intro gb236 hg w3 hbox hb; have BK236 := Aside0.mk (hbox); have GW236 := Aside0.mk ((by rw [hg]; exact (below_size (bw_ HB)) : w.heap.size ≤ gb236)); have GE236 := Aside0.mk ((by rw [hg]; exact (below_size (bw_ HB)) : w.heap.size ≤ gb236)); replace HO0_8 := Aside0.mk (Kd.V_below (Kd.V_elderB (tV_ HO0_8) gb236 (Nat.le_of_eq hg.symm)) hb); replace HB := Aside0.mk (below_step (bw_ HB) hb); clear hb hbox hg))
 (try simp only [Act.put, l_1, l_2, l_3])
 go_cut [16] (fun v16 wc => ∃ (kq : Nat) (x16_1 : Bool), v16 = .bool x16_1 ∧ Aside0 (pelotonlaw15_MsgBack.j0 kq x16_1 a0_0 a0_1 a0_2 a0_3 a0_4 a0_5 a0_6 a0_7 l0_8 = some r) ∧ Aside0 (kq ≤ k) ∧ Aside0 (Kd.V (Kd.int .i32) 21 wc w.heap.size (fun k_ => (P0_8_ k_ ∨ w.heap.size ≤ k_) ∧ k_ ≠ gb236) (.slice A0_8 l0_8.length c0_8) l0_8) ∧ Aside0 (wc.heap[gb236]? = some (.cells #[.int .i64 a0_0, .int .i64 a0_1, .int .i64 a0_2, .int .i64 a0_3, .int .i64 a0_4, .int .i64 a0_5, .int .i64 a0_6, .int .i64 a0_7, (.slice A0_8 l0_8.length c0_8)] 24 (0, 0))) ∧ Aside0 (Below w.heap.size w wc))
 case first =>
  have H := HC2.out
  clear HC2
  replace H := Option.bind_eq_some_iff.mp H
  obtain ⟨t237, A40, H⟩ := H
  replace H : (if t237 = true then (pelotonlaw15_MsgBack.j0 k (decide ((l0_8.length : Int) > 5000)) a0_0 a0_1 a0_2 a0_3 a0_4 a0_5 a0_6 a0_7 l0_8) else (pelotonlaw15_MsgBack.j0 k true a0_0 a0_1 a0_2 a0_3 a0_4 a0_5 a0_6 a0_7 l0_8)) = some r := H
  have A4 := Aside0.mk A40
  clear A40
  by_cases c5 : t237 = true
  rotate_left
  ·
   replace c5 := Bool.eq_false_iff.mpr c5
   subst c5
   have H1 : (pelotonlaw15_MsgBack.j0 k true a0_0 a0_1 a0_2 a0_3 a0_4 a0_5 a0_6 a0_7 l0_8) = some r := by rw [if_neg (show ¬ (false = true) by decide)] at H; exact H
   clear H
   have H := H1
   clear H1
   have H' := Aside0.mk H
   clear H
   go_wp2_with (first | ((with_reducible refine gate_callee (f := 7) rfl ?_); refine goesL_ (some 9) rfl rfl Try.func7 (by kernel_rfl) rfl #[] rfl (by (try simp only [l_4, l_5, l_6]); first | done | rfl | (simp only [l_7, l_8]; rfl)) ?_; (with_reducible refine (pelotonlaw15_awake.calls k  false _ A4.out).mono ?_); rintro e w8 ⟨rfl, hb⟩; (try clear A4); refine ⟨_, rfl, ?_⟩; replace HO0_8 := Aside0.mk (Kd.V_below (tV_ HO0_8) hb); replace BK236 := Aside0.mk (blk_below (tk_ BK236) hb); replace HB := Aside0.mk (below_step (bw_ HB) hb); (try clear hb); (try clear hb2); (try clear hk); (try clear hi)))
   go_meet
   case rel => exact ⟨_, (true), (by first | rfl | (simp; done) | (simp [*]; done)), H', ⟨by first | exact Nat.le_refl _ | omega⟩, ⟨tV_ HO0_8⟩, ⟨tk_ BK236⟩, ⟨by repeat (first | (with_reducible first | exact HB.out | apply b_a | apply b_n | apply b_d | refine b_s ?_ GE236.out) | exact HB.out)⟩⟩
  subst c5
  have H1 : (pelotonlaw15_MsgBack.j0 k (decide ((l0_8.length : Int) > 5000)) a0_0 a0_1 a0_2 a0_3 a0_4 a0_5 a0_6 a0_7 l0_8) = some r := by rw [if_pos rfl] at H; exact H
  clear H
  have H := H1
  clear H1
  have H' := Aside0.mk H
  clear H
  go_wp2_with (first | ((with_reducible refine gate_callee (f := 7) rfl ?_); refine goesL_ (some 9) rfl rfl Try.func7 (by kernel_rfl) rfl #[] rfl (by (try simp only [l_4, l_5, l_6]); first | done | rfl | (simp only [l_7, l_8]; rfl)) ?_; (with_reducible refine (pelotonlaw15_awake.calls k  true _ A4.out).mono ?_); rintro e w6 ⟨rfl, hb⟩; (try clear A4); refine ⟨_, rfl, ?_⟩; replace HO0_8 := Aside0.mk (Kd.V_below (tV_ HO0_8) hb); replace BK236 := Aside0.mk (blk_below (tk_ BK236) hb); replace HB := Aside0.mk (below_step (bw_ HB) hb); (try clear hb); (try clear hb2); (try clear hk); (try clear hi); have hcz7_0 := bc_0 BK236; have hcz7_1 := bc_1 BK236; have hcz7_2 := bc_2 BK236; have hcz7_3 := bc_3 BK236; have hcz7_4 := bc_4 BK236; have hcz7_5 := bc_5 BK236; have hcz7_6 := bc_6 BK236; have hcz7_7 := bc_7 BK236; have hcz7_8 : w6.cell? ⟨gb236, 8, none⟩ = some (.slice A0_8 l0_8.length c0_8) := (blk_cell BK236.out 8).trans rfl; have hfz7_0 := blk_frozen BK236.out 0; have hfz7_1 := blk_frozen BK236.out 1; have hfz7_2 := blk_frozen BK236.out 2; have hfz7_3 := blk_frozen BK236.out 3; have hfz7_4 := blk_frozen BK236.out 4; have hfz7_5 := blk_frozen BK236.out 5; have hfz7_6 := blk_frozen BK236.out 6; have hfz7_7 := blk_frozen BK236.out 7; have hfz7_8 := blk_frozen BK236.out 8; (first | ((with_reducible refine gate_store_ rfl ?_); refine st9_ rfl rfl rfl rfl rfl (by with_reducible assumption) (by kernel_rfl) (by simp [Value.oneCell']) ?_; clear hcz7_0 hfz7_0 hcz7_1 hfz7_1 hcz7_2 hfz7_2 hcz7_3 hfz7_3 hcz7_4 hfz7_4 hcz7_5 hfz7_5 hcz7_6 hfz7_6 hcz7_7 hfz7_7 hcz7_8 hfz7_8; intro hb9_; have BN7 := Aside0.mk hb9_; clear hb9_) | skip)))
  go_meet
  case rel => exact ⟨_, (decide ((l0_8.length : Int) > 5000)), (by first | rfl | (simp; done) | (simp [*]; done)), H', ⟨by first | exact Nat.le_refl _ | omega⟩, ⟨tV_ HO0_8⟩, ⟨tk_ BK236⟩, ⟨by repeat (first | (with_reducible first | exact HB.out | apply b_a | apply b_n | apply b_d | refine b_s ?_ GE236.out) | exact HB.out)⟩⟩
 case rest => as_aux_lemma =>
  clear HC2
  try clear p2
  try clear c5
  try clear c6
  try clear c7
  try clear hcz7_0
  try clear hcz7_1
  try clear hcz7_2
  try clear hcz7_3
  try clear hcz7_4
  try clear hcz7_5
  try clear hcz7_6
  try clear hcz7_7
  try clear hcz7_8
  try clear hfz7_0
  try clear hfz7_1
  try clear hfz7_2
  try clear hfz7_3
  try clear hfz7_4
  try clear hfz7_5
  try clear hfz7_6
  try clear hfz7_7
  try clear hfz7_8
  obtain ⟨kq, x16_1, rfl, HA, HJ1, HO_237008, BK236, HB⟩ := hcut
  cases kq with
  | zero => exact absurd HA.out (by simp [pelotonlaw15_MsgBack.j0])
  | succ kj1 =>
   have H := HA.out
   clear HA
   simp only [pelotonlaw15_MsgBack.j0] at H
   by_cases c9 : x16_1 = true
   ·
    subst c9
    have H1 : ((pelotonlaw15_awake.f kj1).bind fun t238 => (some t238)) = some r := by rw [if_pos rfl] at H; exact H
    clear H
    have H := H1
    clear H1
    replace H := Option.bind_eq_some_iff.mp H
    obtain ⟨t238, A100, H⟩ := H
    replace H : (some t238) = some r := H
    have A10 := Aside0.mk A100
    clear A100
    obtain rfl := Option.some.inj H
    go_wp2_with (first | ((with_reducible refine gate_callee (f := 7) rfl ?_); refine goesL_ (some 17) rfl rfl Try.func7 (by kernel_rfl) rfl #[] rfl (by (try simp only [l_4, l_5, l_6]); first | done | rfl | (simp only [l_7, l_8]; rfl)) ?_; (with_reducible refine (pelotonlaw15_awake.calls kj1  t238 _ A10.out).mono ?_); rintro e w11 ⟨rfl, hb⟩; (try clear A10); refine ⟨_, rfl, ?_⟩; replace HO_237008 := Aside0.mk (Kd.V_below (tV_ HO_237008) hb); replace BK236 := Aside0.mk (blk_below (tk_ BK236) hb); replace HB := Aside0.mk (below_step (bw_ HB) hb); (try clear hb); (try clear hb2); (try clear hk); (try clear hi)))
    go_ret
    exact ⟨by first | rfl | (simp [errW_none, errW_some] <;> rfl) | (simp [*, errW_none, errW_some] <;> rfl), by repeat (first | (with_reducible first | exact HB.out | apply b_a | apply b_n | apply b_d | refine b_s ?_ GE236.out) | exact HB.out)⟩
   replace c9 := Bool.eq_false_iff.mpr c9
   subst c9
   have H1 : ((msg_Clone.f a0_0 a0_1 a0_2 a0_3 a0_4 a0_5 a0_6 a0_7 l0_8).bind fun bt239 => ((msg_Bytes.f bt239.1 bt239.2.1 bt239.2.2.1 bt239.2.2.2.1 bt239.2.2.2.2.1 bt239.2.2.2.2.2.1 bt239.2.2.2.2.2.2.1 bt239.2.2.2.2.2.2.2.1 bt239.2.2.2.2.2.2.2.2).bind fun bt251 => ((pelotonref15_Right.f kj1 a0_0 a0_1 a0_2 a0_3 a0_4 a0_5 a0_6 a0_7 l0_8).bind fun t255 => ((msg_Right.f kj1 (([(⟨a0_0, a0_1, a0_2, a0_3, a0_4, a0_5, a0_6, a0_7, l0_8⟩ : S24)] : List (S24)))).bind fun t259 => (if (t259 != t255) = true then (pelotonlaw15_MsgBack.j1 kj1 bt251.1 bt251.2 t255 true a0_0 a0_1 a0_2 a0_3 a0_4 a0_5 a0_6 a0_7 l0_8) else ((pelotonref15_Same.f kj1 bt239.1 bt239.2.1 bt239.2.2.1 bt239.2.2.2.1 bt239.2.2.2.2.1 bt239.2.2.2.2.2.1 bt239.2.2.2.2.2.2.1 bt239.2.2.2.2.2.2.2.1 bt239.2.2.2.2.2.2.2.2 a0_0 a0_1 a0_2 a0_3 a0_4 a0_5 a0_6 a0_7 l0_8).bind fun t260 => (if t260 = true then ((msg_Same.f kj1 bt239.1 bt239.2.1 bt239.2.2.1 bt239.2.2.2.1 bt239.2.2.2.2.1 bt239.2.2.2.2.2.1 bt239.2.2.2.2.2.2.1 bt239.2.2.2.2.2.2.2.1 bt239.2.2.2.2.2.2.2.2 a0_0 a0_1 a0_2 a0_3 a0_4 a0_5 a0_6 a0_7 l0_8).bind fun t261 => (pelotonlaw15_MsgBack.j1 kj1 bt251.1 bt251.2 t255 (!t261) a0_0 a0_1 a0_2 a0_3 a0_4 a0_5 a0_6 a0_7 l0_8)) else (pelotonlaw15_MsgBack.j1 kj1 bt251.1 bt251.2 t255 true a0_0 a0_1 a0_2 a0_3 a0_4 a0_5 a0_6 a0_7 l0_8)))))))) = some r := by rw [if_neg (show ¬ (false = true) by decide)] at H; exact H
   clear H
   have H := H1
   clear H1
   replace H := Option.bind_eq_some_iff.mp H
   obtain ⟨⟨t239, t240, t241, t242, t243, t244, t245, t246, t247⟩, A120, H⟩ := H
   replace H : ((msg_Bytes.f t239 t240 t241 t242 t243 t244 t245 t246 t247).bind fun bt251 => ((pelotonref15_Right.f kj1 a0_0 a0_1 a0_2 a0_3 a0_4 a0_5 a0_6 a0_7 l0_8).bind fun t255 => ((msg_Right.f kj1 (([(⟨a0_0, a0_1, a0_2, a0_3, a0_4, a0_5, a0_6, a0_7, l0_8⟩ : S24)] : List (S24)))).bind fun t259 => (if (t259 != t255) = true then (pelotonlaw15_MsgBack.j1 kj1 bt251.1 bt251.2 t255 true a0_0 a0_1 a0_2 a0_3 a0_4 a0_5 a0_6 a0_7 l0_8) else ((pelotonref15_Same.f kj1 t239 t240 t241 t242 t243 t244 t245 t246 t247 a0_0 a0_1 a0_2 a0_3 a0_4 a0_5 a0_6 a0_7 l0_8).bind fun t260 => (if t260 = true then ((msg_Same.f kj1 t239 t240 t241 t242 t243 t244 t245 t246 t247 a0_0 a0_1 a0_2 a0_3 a0_4 a0_5 a0_6 a0_7 l0_8).bind fun t261 => (pelotonlaw15_MsgBack.j1 kj1 bt251.1 bt251.2 t255 (!t261) a0_0 a0_1 a0_2 a0_3 a0_4 a0_5 a0_6 a0_7 l0_8)) else (pelotonlaw15_MsgBack.j1 kj1 bt251.1 bt251.2 t255 true a0_0 a0_1 a0_2 a0_3 a0_4 a0_5 a0_6 a0_7 l0_8))))))) = some r := H
   have A12 := Aside0.mk A120
   clear A120
   replace H := Option.bind_eq_some_iff.mp H
   obtain ⟨⟨t251, t254⟩, A130, H⟩ := H
   replace H : ((pelotonref15_Right.f kj1 a0_0 a0_1 a0_2 a0_3 a0_4 a0_5 a0_6 a0_7 l0_8).bind fun t255 => ((msg_Right.f kj1 (([(⟨a0_0, a0_1, a0_2, a0_3, a0_4, a0_5, a0_6, a0_7, l0_8⟩ : S24)] : List (S24)))).bind fun t259 => (if (t259 != t255) = true then (pelotonlaw15_MsgBack.j1 kj1 t251 t254 t255 true a0_0 a0_1 a0_2 a0_3 a0_4 a0_5 a0_6 a0_7 l0_8) else ((pelotonref15_Same.f kj1 t239 t240 t241 t242 t243 t244 t245 t246 t247 a0_0 a0_1 a0_2 a0_3 a0_4 a0_5 a0_6 a0_7 l0_8).bind fun t260 => (if t260 = true then ((msg_Same.f kj1 t239 t240 t241 t242 t243 t244 t245 t246 t247 a0_0 a0_1 a0_2 a0_3 a0_4 a0_5 a0_6 a0_7 l0_8).bind fun t261 => (pelotonlaw15_MsgBack.j1 kj1 t251 t254 t255 (!t261) a0_0 a0_1 a0_2 a0_3 a0_4 a0_5 a0_6 a0_7 l0_8)) else (pelotonlaw15_MsgBack.j1 kj1 t251 t254 t255 true a0_0 a0_1 a0_2 a0_3 a0_4 a0_5 a0_6 a0_7 l0_8)))))) = some r := H
   have A13 := Aside0.mk A130
   clear A130
   replace H := Option.bind_eq_some_iff.mp H
   obtain ⟨t255, A140, H⟩ := H
   replace H : ((msg_Right.f kj1 (([(⟨a0_0, a0_1, a0_2, a0_3, a0_4, a0_5, a0_6, a0_7, l0_8⟩ : S24)] : List (S24)))).bind fun t259 => (if (t259 != t255) = true then (pelotonlaw15_MsgBack.j1 kj1 t251 t254 t255 true a0_0 a0_1 a0_2 a0_3 a0_4 a0_5 a0_6 a0_7 l0_8) else ((pelotonref15_Same.f kj1 t239 t240 t241 t242 t243 t244 t245 t246 t247 a0_0 a0_1 a0_2 a0_3 a0_4 a0_5 a0_6 a0_7 l0_8).bind fun t260 => (if t260 = true then ((msg_Same.f kj1 t239 t240 t241 t242 t243 t244 t245 t246 t247 a0_0 a0_1 a0_2 a0_3 a0_4 a0_5 a0_6 a0_7 l0_8).bind fun t261 => (pelotonlaw15_MsgBack.j1 kj1 t251 t254 t255 (!t261) a0_0 a0_1 a0_2 a0_3 a0_4 a0_5 a0_6 a0_7 l0_8)) else (pelotonlaw15_MsgBack.j1 kj1 t251 t254 t255 true a0_0 a0_1 a0_2 a0_3 a0_4 a0_5 a0_6 a0_7 l0_8))))) = some r := H
   have A14 := Aside0.mk A140
   clear A140
   have HC15 := Aside0.mk H
   clear H
   have hcz16_0 := bc_0 BK236
   have hcz16_1 := bc_1 BK236
   have hcz16_2 := bc_2 BK236
   have hcz16_3 := bc_3 BK236
   have hcz16_4 := bc_4 BK236
   have hcz16_5 := bc_5 BK236
   have hcz16_6 := bc_6 BK236
   have hcz16_7 := bc_7 BK236
   have hcz16_8 : wc.cell? ⟨gb236, 8, none⟩ = some (.slice A0_8 l0_8.length c0_8) := (blk_cell BK236.out 8).trans rfl
   have hfz16_0 := blk_frozen BK236.out 0
   have hfz16_1 := blk_frozen BK236.out 1
   have hfz16_2 := blk_frozen BK236.out 2
   have hfz16_3 := blk_frozen BK236.out 3
   have hfz16_4 := blk_frozen BK236.out 4
   have hfz16_5 := blk_frozen BK236.out 5
   have hfz16_6 := blk_frozen BK236.out 6
   have hfz16_7 := blk_frozen BK236.out 7
   have hfz16_8 := blk_frozen BK236.out 8
   go_upto_region 6 with (first | ((with_reducible refine gate_callee (f := 9) rfl ?_); refine goesL_ (some 19) rfl rfl Try.func9 (by kernel_rfl) rfl #[.agg #[.int .i64 a0_0, .int .i64 a0_1, .int .i64 a0_2, .int .i64 a0_3, .int .i64 a0_4, .int .i64 a0_5, .int .i64 a0_6, .int .i64 a0_7, .slice A0_8 l0_8.length c0_8]] rfl (by (try simp only [l_4, l_5, l_6]); first | done | rfl | (simp only [l_7, l_8]; rfl)) ?_; (with_reducible refine (msg_Clone.calls a0_0 a0_1 a0_2 a0_3 a0_4 a0_5 a0_6 a0_7 _ _ l0_8 t239 t240 t241 t242 t243 t244 t245 t246 t247 _ ?side1 ?side2 A12.out).mono ?_); (case side1 => repeat (first | exact (Kd.V_reads' HO_237008.out).2.2 | (with_reducible refine Kd.C_alloc ?_ _) | (with_reducible refine Kd.C_drewN ?_ _) | (with_reducible refine Kd.C_drew ?_))); (case side2 => exact (Kd.V_reads' HO_237008.out).2.1); rintro e w17 ⟨v248, rfl, ho0, hb⟩; (try clear A12); refine ⟨_, rfl, ?_⟩; have HO249 := Aside0.mk (Kd.R_lower (Kd.R_newM (M := fun k_ => (w.heap.size ≤ k_)) ho0 (below_size (bw_ HB)) (fun k_ h_ => h_)) (below_size (bw_ HB))); replace HO_237008 := Aside0.mk (Kd.V_elder' (tV_ HO_237008) (Kd.R_base ho0) hb); replace BK236 := Aside0.mk (blk_below (tk_ BK236) hb); replace HB := Aside0.mk (below_step (bw_ HB) hb); (try clear hb); (try clear hb2); (try clear hk); (try clear hi); (try clear ho0)) | ((with_reducible refine gate_dst (N := 3) rfl ?_); (try (refine gate_guard (by rfl) ?_; dsimp only)); refine box_event ?hg (N := 3) ?hd (cs := #[.int .i64 0, .int .i64 0, .int .i64 0, .int .i64 0, .int .i64 0, .int .i64 0, .int .i64 0, .int .i64 0, .slice none 0 0]) (t := 24) ?hr ?_; (case hd => rfl); (case hg => rfl); (case hr => first | (go_simp; done) | (go_simp; rfl)); intro gb250 hg w18 hbox hb; have BK250 := Aside0.mk (hbox); have GW250 := Aside0.mk ((by rw [hg]; exact (below_size (bw_ HB)) : w.heap.size ≤ gb250)); have GE250 := Aside0.mk ((by rw [hg]; exact (below_size (bw_ HB)) : w.heap.size ≤ gb250)); have NB236_250 := Aside0.mk ((by rw [hg]; exact Nat.ne_of_lt (blk_lt (tk_ BK236)) : gb236 ≠ gb250)); have NB250_236 := Aside0.mk ((by rw [hg]; exact Nat.ne_of_gt (blk_lt (tk_ BK236)) : gb250 ≠ gb236)); replace HO_237008 := Aside0.mk (Kd.V_below (Kd.V_elderB (tV_ HO_237008) gb250 (Nat.le_of_eq hg.symm)) hb); replace HO249 := Aside0.mk (Kd.R_below (tR_ HO249) hb); replace BK236 := Aside0.mk (blk_below (tk_ BK236) hb); replace HB := Aside0.mk (below_step (bw_ HB) hb); clear hb hbox hg; have hnb19 := NB250_236.out; have hnc19 := NB236_250.out; have hcz20_0 := bc_0 BK250; have hcz20_1 := bc_1 BK250; have hcz20_2 := bc_2 BK250; have hcz20_3 := bc_3 BK250; have hcz20_4 := bc_4 BK250; have hcz20_5 := bc_5 BK250; have hcz20_6 := bc_6 BK250; have hcz20_7 := bc_7 BK250; have hcz20_8 : w18.cell? ⟨gb250, 8, none⟩ = some (.slice none 0 0) := (blk_cell BK250.out 8).trans rfl; have hfz20_0 := blk_frozen BK250.out 0; have hfz20_1 := blk_frozen BK250.out 1; have hfz20_2 := blk_frozen BK250.out 2; have hfz20_3 := blk_frozen BK250.out 3; have hfz20_4 := blk_frozen BK250.out 4; have hfz20_5 := blk_frozen BK250.out 5; have hfz20_6 := blk_frozen BK250.out 6; have hfz20_7 := blk_frozen BK250.out 7; have hfz20_8 := blk_frozen BK250.out 8; obtain ⟨Ao21, co21, eo21⟩ := Kd.R_slice HO249.out; subst eo21; (first | ((with_reducible refine gate_store_ rfl ?_); refine st9_ rfl rfl rfl rfl rfl (by with_reducible assumption) (by kernel_rfl) (by simp [Value.oneCell']) ?_; clear hcz20_0 hfz20_0 hcz20_1 hfz20_1 hcz20_2 hfz20_2 hcz20_3 hfz20_3 hcz20_4 hfz20_4 hcz20_5 hfz20_5 hcz20_6 hfz20_6 hcz20_7 hfz20_7 hcz20_8 hfz20_8; intro hb9_; have BN20 := Aside0.mk hb9_; clear hb9_) | skip)) | ((with_reducible refine gate_callee (f := 11) rfl ?_); refine goesL_ (some 22) rfl rfl Try.func11 (by kernel_rfl) rfl #[.agg #[.int .i64 t239, .int .i64 t240, .int .i64 t241, .int .i64 t242, .int .i64 t243, .int .i64 t244, .int .i64 t245, .int .i64 t246, .slice Ao21 t247.length co21]] rfl (by (try simp only [l_4, l_5, l_6]); first | done | rfl | (simp only [l_7, l_8]; rfl)) ?_; (with_reducible refine (msg_Bytes.calls t239 t240 t241 t242 t243 t244 t245 t246 _ _ t247 t251 t254 _ ?side1 ?side2 A13.out).mono ?_); (case side1 => refine (Kd.R_reads' (e := 21) (base := w.heap.size) (ok := fun k_ => ((w.heap.size ≤ k_) ∧ True)) (n := t247.length) (c := co21) ?_).2.2; exact (by (with_reducible repeat (first | apply Kd.R_alloc | apply Kd.R_drewN | apply Kd.R_drew)); exact (Kd.R_mono (Kd.R_far (p := ⟨gb250, 8, none⟩) (Kd.R_far (p := ⟨gb250, 7, none⟩) (Kd.R_far (p := ⟨gb250, 6, none⟩) (Kd.R_far (p := ⟨gb250, 5, none⟩) (Kd.R_far (p := ⟨gb250, 4, none⟩) (Kd.R_far (p := ⟨gb250, 3, none⟩) (Kd.R_far (p := ⟨gb250, 2, none⟩) (Kd.R_far (p := ⟨gb250, 1, none⟩) (Kd.R_far (p := ⟨gb250, 0, none⟩) (Kd.R_types HO249.out BK250.out (by decide)) (fun _ hk => hk.2) (.int .i64 t239)) (fun _ hk => hk.2) (.int .i64 t240)) (fun _ hk => hk.2) (.int .i64 t241)) (fun _ hk => hk.2) (.int .i64 t242)) (fun _ hk => hk.2) (.int .i64 t243)) (fun _ hk => hk.2) (.int .i64 t244)) (fun _ hk => hk.2) (.int .i64 t245)) (fun _ hk => hk.2) (.int .i64 t246)) (fun _ hk => hk.2) (.slice Ao21 t247.length co21)) (fun _ h_ => h_.1)))); (case side2 => exact (Kd.R_reads' HO249.out).2.1); rintro e w22 ⟨v252, rfl, ho0, hb⟩; (try clear A13); refine ⟨_, rfl, ?_⟩; have HO253 := Aside0.mk (Kd.R_lower (Kd.R_newM (M := fun k_ => (w.heap.size ≤ k_)) ho0 (below_size (bw_ HB)) (fun k_ h_ => h_)) (below_size (bw_ HB))); replace HO_237008 := Aside0.mk (Kd.V_elder' (by (with_reducible repeat (first | apply Kd.V_alloc | apply Kd.V_drewN | apply Kd.V_drew)); exact (Kd.V_mono (Kd.V_far (p := ⟨gb250, 8, none⟩) (Kd.V_far (p := ⟨gb250, 7, none⟩) (Kd.V_far (p := ⟨gb250, 6, none⟩) (Kd.V_far (p := ⟨gb250, 5, none⟩) (Kd.V_far (p := ⟨gb250, 4, none⟩) (Kd.V_far (p := ⟨gb250, 3, none⟩) (Kd.V_far (p := ⟨gb250, 2, none⟩) (Kd.V_far (p := ⟨gb250, 1, none⟩) (Kd.V_far (p := ⟨gb250, 0, none⟩) (Kd.V_mono HO_237008.out (fun k_ hk => (⟨hk, hk.2⟩ : _ ∧ k_ ≠ gb250))) (fun _ hk => hk.2) (.int .i64 t239)) (fun _ hk => hk.2) (.int .i64 t240)) (fun _ hk => hk.2) (.int .i64 t241)) (fun _ hk => hk.2) (.int .i64 t242)) (fun _ hk => hk.2) (.int .i64 t243)) (fun _ hk => hk.2) (.int .i64 t244)) (fun _ hk => hk.2) (.int .i64 t245)) (fun _ hk => hk.2) (.int .i64 t246)) (fun _ hk => hk.2) (.slice Ao21 t247.length co21)) (fun _ h_ => h_.1))) (Kd.R_base ho0) hb); replace HO249 := Aside0.mk (Kd.R_below (by (with_reducible repeat (first | apply Kd.R_alloc | apply Kd.R_drewN | apply Kd.R_drew)); exact (Kd.R_mono (Kd.R_far (p := ⟨gb250, 8, none⟩) (Kd.R_far (p := ⟨gb250, 7, none⟩) (Kd.R_far (p := ⟨gb250, 6, none⟩) (Kd.R_far (p := ⟨gb250, 5, none⟩) (Kd.R_far (p := ⟨gb250, 4, none⟩) (Kd.R_far (p := ⟨gb250, 3, none⟩) (Kd.R_far (p := ⟨gb250, 2, none⟩) (Kd.R_far (p := ⟨gb250, 1, none⟩) (Kd.R_far (p := ⟨gb250, 0, none⟩) (Kd.R_types HO249.out BK250.out (by decide)) (fun _ hk => hk.2) (.int .i64 t239)) (fun _ hk => hk.2) (.int .i64 t240)) (fun _ hk => hk.2) (.int .i64 t241)) (fun _ hk => hk.2) (.int .i64 t242)) (fun _ hk => hk.2) (.int .i64 t243)) (fun _ hk => hk.2) (.int .i64 t244)) (fun _ hk => hk.2) (.int .i64 t245)) (fun _ hk => hk.2) (.int .i64 t246)) (fun _ hk => hk.2) (.slice Ao21 t247.length co21)) (fun _ h_ => h_.1))) hb); replace BK236 := Aside0.mk (blk_below (g := gb236) (o := .cells #[.int .i64 a0_0, .int .i64 a0_1, .int .i64 a0_2, .int .i64 a0_3, .int .i64 a0_4, .int .i64 a0_5, .int .i64 a0_6, .int .i64 a0_7, .slice A0_8 l0_8.length c0_8] 24 (0, 0)) (by (with_reducible repeat (first | refine k_n ?_ _ | refine k_d ?_ | refine k_a ?_ _)); refine blk_far ?_ NB236_250.out _; (with_reducible repeat (first | refine k_n ?_ _ | refine k_d ?_ | refine k_a ?_ _)); refine blk_far ?_ NB236_250.out _; (with_reducible repeat (first | refine k_n ?_ _ | refine k_d ?_ | refine k_a ?_ _)); refine blk_far ?_ NB236_250.out _; (with_reducible repeat (first | refine k_n ?_ _ | refine k_d ?_ | refine k_a ?_ _)); refine blk_far ?_ NB236_250.out _; (with_reducible repeat (first | refine k_n ?_ _ | refine k_d ?_ | refine k_a ?_ _)); refine blk_far ?_ NB236_250.out _; (with_reducible repeat (first | refine k_n ?_ _ | refine k_d ?_ | refine k_a ?_ _)); refine blk_far ?_ NB236_250.out _; (with_reducible repeat (first | refine k_n ?_ _ | refine k_d ?_ | refine k_a ?_ _)); refine blk_far ?_ NB236_250.out _; (with_reducible repeat (first | refine k_n ?_ _ | refine k_d ?_ | refine k_a ?_ _)); refine blk_far ?_ NB236_250.out _; (with_reducible repeat (first | refine k_n ?_ _ | refine k_d ?_ | refine k_a ?_ _)); refine blk_far ?_ NB236_250.out _; (with_reducible repeat (first | refine k_n ?_ _ | refine k_d ?_ | refine k_a ?_ _)); exact BK236.out) hb); replace BK250 := Aside0.mk (blk_below (g := gb250) (o := .cells #[.int .i64 t239, .int .i64 t240, .int .i64 t241, .int .i64 t242, .int .i64 t243, .int .i64 t244, .int .i64 t245, .int .i64 t246, .slice Ao21 t247.length co21] 24 (0, 0)) (by (with_reducible repeat (first | refine k_n ?_ _ | refine k_d ?_ | refine k_a ?_ _)); refine blk_put (cs := #[.int .i64 t239, .int .i64 t240, .int .i64 t241, .int .i64 t242, .int .i64 t243, .int .i64 t244, .int .i64 t245, .int .i64 t246, .slice none 0 0]) ?_ 8 _ rfl; (with_reducible repeat (first | refine k_n ?_ _ | refine k_d ?_ | refine k_a ?_ _)); refine blk_put (cs := #[.int .i64 t239, .int .i64 t240, .int .i64 t241, .int .i64 t242, .int .i64 t243, .int .i64 t244, .int .i64 t245, .int .i64 0, .slice none 0 0]) ?_ 7 _ rfl; (with_reducible repeat (first | refine k_n ?_ _ | refine k_d ?_ | refine k_a ?_ _)); refine blk_put (cs := #[.int .i64 t239, .int .i64 t240, .int .i64 t241, .int .i64 t242, .int .i64 t243, .int .i64 t244, .int .i64 0, .int .i64 0, .slice none 0 0]) ?_ 6 _ rfl; (with_reducible repeat (first | refine k_n ?_ _ | refine k_d ?_ | refine k_a ?_ _)); refine blk_put (cs := #[.int .i64 t239, .int .i64 t240, .int .i64 t241, .int .i64 t242, .int .i64 t243, .int .i64 0, .int .i64 0, .int .i64 0, .slice none 0 0]) ?_ 5 _ rfl; (with_reducible repeat (first | refine k_n ?_ _ | refine k_d ?_ | refine k_a ?_ _)); refine blk_put (cs := #[.int .i64 t239, .int .i64 t240, .int .i64 t241, .int .i64 t242, .int .i64 0, .int .i64 0, .int .i64 0, .int .i64 0, .slice none 0 0]) ?_ 4 _ rfl; (with_reducible repeat (first | refine k_n ?_ _ | refine k_d ?_ | refine k_a ?_ _)); refine blk_put (cs := #[.int .i64 t239, .int .i64 t240, .int .i64 t241, .int .i64 0, .int .i64 0, .int .i64 0, .int .i64 0, .int .i64 0, .slice none 0 0]) ?_ 3 _ rfl; (with_reducible repeat (first | refine k_n ?_ _ | refine k_d ?_ | refine k_a ?_ _)); refine blk_put (cs := #[.int .i64 t239, .int .i64 t240, .int .i64 0, .int .i64 0, .int .i64 0, .int .i64 0, .int .i64 0, .int .i64 0, .slice none 0 0]) ?_ 2 _ rfl; (with_reducible repeat (first | refine k_n ?_ _ | refine k_d ?_ | refine k_a ?_ _)); refine blk_put (cs := #[.int .i64 t239, .int .i64 0, .int .i64 0, .int .i64 0, .int .i64 0, .int .i64 0, .int .i64 0, .int .i64 0, .slice none 0 0]) ?_ 1 _ rfl; (with_reducible repeat (first | refine k_n ?_ _ | refine k_d ?_ | refine k_a ?_ _)); refine blk_put (cs := #[.int .i64 0, .int .i64 0, .int .i64 0, .int .i64 0, .int .i64 0, .int .i64 0, .int .i64 0, .int .i64 0, .slice none 0 0]) ?_ 0 _ rfl; (with_reducible repeat (first | refine k_n ?_ _ | refine k_d ?_ | refine k_a ?_ _)); exact BK250.out) hb); replace HB := Aside0.mk (below_step (bw_ HB) hb); (try clear hb); (try clear hb2); (try clear hk); (try clear hi); (try clear ho0); have hcz23_0 := bc_0 BK236; have hcz23_1 := bc_1 BK236; have hcz23_2 := bc_2 BK236; have hcz23_3 := bc_3 BK236; have hcz23_4 := bc_4 BK236; have hcz23_5 := bc_5 BK236; have hcz23_6 := bc_6 BK236; have hcz23_7 := bc_7 BK236; have hcz23_8 : w22.cell? ⟨gb236, 8, none⟩ = some (.slice A0_8 l0_8.length c0_8) := (blk_cell BK236.out 8).trans rfl; have hfz23_0 := blk_frozen BK236.out 0; have hfz23_1 := blk_frozen BK236.out 1; have hfz23_2 := blk_frozen BK236.out 2; have hfz23_3 := blk_frozen BK236.out 3; have hfz23_4 := blk_frozen BK236.out 4; have hfz23_5 := blk_frozen BK236.out 5; have hfz23_6 := blk_frozen BK236.out 6; have hfz23_7 := blk_frozen BK236.out 7; have hfz23_8 := blk_frozen BK236.out 8; (first | ((with_reducible refine gate_store_ rfl ?_); refine st9_ rfl rfl rfl rfl rfl (by with_reducible assumption) (by kernel_rfl) (by simp [Value.oneCell']) ?_; clear hcz23_0 hfz23_0 hcz23_1 hfz23_1 hcz23_2 hfz23_2 hcz23_3 hfz23_3 hcz23_4 hfz23_4 hcz23_5 hfz23_5 hcz23_6 hfz23_6 hcz23_7 hfz23_7 hcz23_8 hfz23_8; intro hb9_; have BN23 := Aside0.mk hb9_; clear hb9_) | skip)) | ((with_reducible refine gate_callee (f := 8) rfl ?_); refine goesL_ (some 26) rfl rfl Try.func8 (by kernel_rfl) rfl #[.agg #[.int .i64 a0_0, .int .i64 a0_1, .int .i64 a0_2, .int .i64 a0_3, .int .i64 a0_4, .int .i64 a0_5, .int .i64 a0_6, .int .i64 a0_7, .slice A0_8 l0_8.length c0_8]] rfl (by (try simp only [l_4, l_5, l_6]); first | done | rfl | (simp only [l_7, l_8]; rfl)) ?_; (with_reducible refine (pelotonref15_Right.calls kj1 a0_0 a0_1 a0_2 a0_3 a0_4 a0_5 a0_6 a0_7 _ _ l0_8 t255 _ ?side1 ?side2 A14.out).mono ?_); (case side1 => repeat (first | exact (Kd.V_reads' HO_237008.out).2.2 | (with_reducible refine Kd.C_alloc ?_ _) | (with_reducible refine Kd.C_drewN ?_ _) | (with_reducible refine Kd.C_drew ?_))); (case side2 => exact (Kd.V_reads' HO_237008.out).2.1); rintro e w24 ⟨rfl, hb⟩; (try clear A14); refine ⟨_, rfl, ?_⟩; replace HO_237008 := Aside0.mk (Kd.V_below (tV_ HO_237008) hb); replace HO249 := Aside0.mk (Kd.R_below (tR_ HO249) hb); replace HO253 := Aside0.mk (Kd.R_below (tR_ HO253) hb); replace BK236 := Aside0.mk (blk_below (tk_ BK236) hb); replace BK250 := Aside0.mk (blk_below (tk_ BK250) hb); replace HB := Aside0.mk (below_step (bw_ HB) hb); (try clear hb); (try clear hb2); (try clear hk); (try clear hi)) | (refine wpList_load_row rfl 24 _ rfl gb250 rfl _ _ _ _ BN20.out Try.underlying24 rfl (by kernel_rfl) ?_; clear BN20))
   (try simp only [Act.put, l_1, l_2, l_3])
   go_cut [43] (fun v43 wc => ∃ (kq : Nat) (x43_14 : Bool), v43 = .bool x43_14 ∧ Aside0 (pelotonlaw15_MsgBack.j1 kq t251 t254 t255 x43_14 a0_0 a0_1 a0_2 a0_3 a0_4 a0_5 a0_6 a0_7 l0_8 = some r) ∧ Aside0 (kq ≤ kj1) ∧ Aside0 (Kd.R (Kd.int .u8) 5 wc w.heap.size (fun k_ => (w.heap.size ≤ k_)) v252 t251) ∧ Aside0 (Kd.V (Kd.int .i32) 21 wc w.heap.size (fun k_ => (P0_8_ k_ ∨ w.heap.size ≤ k_) ∧ some k_ ≠ (v252 : Value).ownBlock ∧ some k_ ≠ ((.slice Ao21 t247.length co21) : Value).ownBlock ∧ k_ ≠ gb236 ∧ k_ ≠ gb250) (.slice A0_8 l0_8.length c0_8) l0_8) ∧ Aside0 (Kd.R (Kd.int .i32) 21 wc w.heap.size (fun k_ => (w.heap.size ≤ k_)) (.slice Ao21 t247.length co21) t247) ∧ Aside0 (wc.heap[gb236]? = some (.cells #[.int .i64 a0_0, .int .i64 a0_1, .int .i64 a0_2, .int .i64 a0_3, .int .i64 a0_4, .int .i64 a0_5, .int .i64 a0_6, .int .i64 a0_7, (.slice A0_8 l0_8.length c0_8)] 24 (0, 0))) ∧ Aside0 (wc.heap[gb250]? = some (.cells #[.int .i64 t239, .int .i64 t240, .int .i64 t241, .int .i64 t242, .int .i64 t243, .int .i64 t244, .int .i64 t245, .int .i64 t246, (.slice Ao21 t247.length co21)] 24 (0, 0))) ∧ Aside0 (Below w.heap.size w wc))
   case first =>
    have H := HC15.out
    clear HC15
    obtain ⟨y256, hy256⟩ : ∃ y_ : List (S24), y_ = (([(⟨a0_0, a0_1, a0_2, a0_3, a0_4, a0_5, a0_6, a0_7, l0_8⟩ : S24)] : List (S24))) := ⟨_, rfl⟩
    replace H : ((msg_Right.f kj1 y256).bind fun t259 => (if (t259 != t255) = true then (pelotonlaw15_MsgBack.j1 kj1 t251 t254 t255 true a0_0 a0_1 a0_2 a0_3 a0_4 a0_5 a0_6 a0_7 l0_8) else ((pelotonref15_Same.f kj1 t239 t240 t241 t242 t243 t244 t245 t246 t247 a0_0 a0_1 a0_2 a0_3 a0_4 a0_5 a0_6 a0_7 l0_8).bind fun t260 => (if t260 = true then ((msg_Same.f kj1 t239 t240 t241 t242 t243 t244 t245 t246 t247 a0_0 a0_1 a0_2 a0_3 a0_4 a0_5 a0_6 a0_7 l0_8).bind fun t261 => (pelotonlaw15_MsgBack.j1 kj1 t251 t254 t255 (!t261) a0_0 a0_1 a0_2 a0_3 a0_4 a0_5 a0_6 a0_7 l0_8)) else (pelotonlaw15_MsgBack.j1 kj1 t251 t254 t255 true a0_0 a0_1 a0_2 a0_3 a0_4 a0_5 a0_6 a0_7 l0_8))))) = some r := by first | (rw [hy256]; with_reducible exact H) | (have H2_ := (Option.bind_some _ _).symm.trans H; rw [hy256]; with_reducible exact H2_) | (have H2_ := (Option.bind_some _ _).symm.trans H; with_reducible exact H2_) | with_reducible exact H | (rw [hy256]; exact H) | exact H
    have Ny256 := Aside0.mk hy256
    clear hy256
    replace H := Option.bind_eq_some_iff.mp H
    obtain ⟨t259, A250, H⟩ := H
    replace H : (if (t259 != t255) = true then (pelotonlaw15_MsgBack.j1 kj1 t251 t254 t255 true a0_0 a0_1 a0_2 a0_3 a0_4 a0_5 a0_6 a0_7 l0_8) else ((pelotonref15_Same.f kj1 t239 t240 t241 t242 t243 t244 t245 t246 t247 a0_0 a0_1 a0_2 a0_3 a0_4 a0_5 a0_6 a0_7 l0_8).bind fun t260 => (if t260 = true then ((msg_Same.f kj1 t239 t240 t241 t242 t243 t244 t245 t246 t247 a0_0 a0_1 a0_2 a0_3 a0_4 a0_5 a0_6 a0_7 l0_8).bind fun t261 => (pelotonlaw15_MsgBack.j1 kj1 t251 t254 t255 (!t261) a0_0 a0_1 a0_2 a0_3 a0_4 a0_5 a0_6 a0_7 l0_8)) else (pelotonlaw15_MsgBack.j1 kj1 t251 t254 t255 true a0_0 a0_1 a0_2 a0_3 a0_4 a0_5 a0_6 a0_7 l0_8)))) = some r := H
    have A25 := Aside0.mk A250
    clear A250
    by_cases c26 : (t259 != t255) = true
    ·
     rw [if_pos c26] at H
     have c26b0 : (t259 != t255) = true := c26
     (try (have c26b1 : decide (t259 = t255) = false := by simpa using c26))
     (try (have c26b2 : (t259 == t255) = false := by simpa using c26))
     (try (have c26b3 : ¬ (t259 = t255) := by simpa using c26))
     clear c26
     (first | rw [c26b0] | (simp only [i64_w, i32_w]; rw [c26b0]) | skip)
     have H' := Aside0.mk H
     clear H
     have hnb27 := NB236_250.out
     have hnc27 := NB250_236.out
     have hcz28_0 := bc_0 BK236
     have hcz28_1 := bc_1 BK236
     have hcz28_2 := bc_2 BK236
     have hcz28_3 := bc_3 BK236
     have hcz28_4 := bc_4 BK236
     have hcz28_5 := bc_5 BK236
     have hcz28_6 := bc_6 BK236
     have hcz28_7 := bc_7 BK236
     have hcz28_8 : w24.cell? ⟨gb236, 8, none⟩ = some (.slice A0_8 l0_8.length c0_8) := (blk_cell BK236.out 8).trans rfl
     have hfz28_0 := blk_frozen BK236.out 0
     have hfz28_1 := blk_frozen BK236.out 1
     have hfz28_2 := blk_frozen BK236.out 2
     have hfz28_3 := blk_frozen BK236.out 3
     have hfz28_4 := blk_frozen BK236.out 4
     have hfz28_5 := blk_frozen BK236.out 5
     have hfz28_6 := blk_frozen BK236.out 6
     have hfz28_7 := blk_frozen BK236.out 7
     have hfz28_8 := blk_frozen BK236.out 8
     go_wp2_with (first | ((with_reducible refine gate_dst (N := 28) rfl ?_); (try (refine gate_guard (by rfl) ?_; dsimp only)); refine Kd.N_lit k24 _ 24 ?hg (N' := 28) ?hd (xs := ([(⟨a0_0, a0_1, a0_2, a0_3, a0_4, a0_5, a0_6, a0_7, l0_8⟩ : S24)] : List (S24))) (inner := [.int .i64 a0_0, .int .i64 a0_1, .int .i64 a0_2, .int .i64 a0_3, .int .i64 a0_4, .int .i64 a0_5, .int .i64 a0_6, .int .i64 a0_7, .slice A0_8 l0_8.length c0_8]) (ok := (fun k_ => (P0_8_ k_ ∨ w.heap.size ≤ k_) ∧ some k_ ≠ (.slice Ao21 t247.length co21 : Value).ownBlock ∧ some k_ ≠ (v252 : Value).ownBlock ∧ k_ ≠ gb236 ∧ k_ ≠ gb250)) (okp := (fun k_ => (P0_8_ k_ ∨ w.heap.size ≤ k_) ∧ some k_ ≠ (.slice Ao21 t247.length co21 : Value).ownBlock ∧ some k_ ≠ (v252 : Value).ownBlock ∧ k_ ≠ gb236 ∧ k_ ≠ gb250)) ?hr ?hp (fun _ hk => hk) ((show ∀ k_, (_ : Nat) ≤ k_ → (fun k_ => (P0_8_ k_ ∨ w.heap.size ≤ k_) ∧ some k_ ≠ (.slice Ao21 t247.length co21 : Value).ownBlock ∧ some k_ ≠ (v252 : Value).ownBlock ∧ k_ ≠ gb236 ∧ k_ ≠ gb250) k_ from fun k_ hk => ⟨(.inr (Nat.le_trans (below_size (bw_ HB)) hk)), Kd.fresh' (Kd.R_lt (tR_ HO249)) k_ hk, Kd.fresh' (Kd.R_lt (tR_ HO253)) k_ hk, Kd.freshB (tk_ BK236) k_ hk, Kd.freshB (tk_ BK250) k_ hk⟩) _ (Nat.le_refl _)) (Below.refl _ _) (Nat.le_refl _) (by simp) ?_; (case hd => rfl); (case hg => rfl); (case hr => first | exact bld9_ ((.int .i64 0)) ((.int .i64 0)) ((.int .i64 0)) ((.int .i64 0)) ((.int .i64 0)) ((.int .i64 0)) ((.int .i64 0)) ((.int .i64 0)) ((.slice none 0 0)) rfl rfl | (refine bld92_ ((.int .i64 0)) ((.int .i64 0)) ((.int .i64 0)) ((.int .i64 0)) ((.int .i64 0)) ((.int .i64 0)) ((.int .i64 0)) ((.int .i64 0)) ((.slice none 0 0)) rfl ?_ ?_ ?_ ?_ <;> rfl)); (case hp => exact (Reps.c9 (show Kd.FK k24 _ _ (⟨a0_0, a0_1, a0_2, a0_3, a0_4, a0_5, a0_6, a0_7, l0_8⟩ : S24) [.int .i64 a0_0, .int .i64 a0_1, .int .i64 a0_2, .int .i64 a0_3, .int .i64 a0_4, .int .i64 a0_5, .int .i64 a0_6, .int .i64 a0_7, .slice A0_8 l0_8.length c0_8] from (k24_mkF _ _ (⟨a0_0, a0_1, a0_2, a0_3, a0_4, a0_5, a0_6, a0_7, l0_8⟩ : S24) (Kd.V_reads' (Kd.V_mono (ok' := (fun k_ => (P0_8_ k_ ∨ w.heap.size ≤ k_) ∧ some k_ ≠ (.slice Ao21 t247.length co21 : Value).ownBlock ∧ some k_ ≠ (v252 : Value).ownBlock ∧ k_ ≠ gb236 ∧ k_ ≠ gb250)) (HO_237008.out) (fun k_ hk => ⟨hk.1.1.1.1, ⟨hk.1.1.2, ⟨hk.2, ⟨hk.1.1.1.2, hk.1.2⟩⟩⟩⟩))).2.1 (Kd.V_F (Kd.V_mono (ok' := (fun k_ => (P0_8_ k_ ∨ w.heap.size ≤ k_) ∧ some k_ ≠ (.slice Ao21 t247.length co21 : Value).ownBlock ∧ some k_ ≠ (v252 : Value).ownBlock ∧ k_ ≠ gb236 ∧ k_ ≠ gb250)) (HO_237008.out) (fun k_ hk => ⟨hk.1.1.1.1, ⟨hk.1.1.2, ⟨hk.2, ⟨hk.1.1.1.2, hk.1.2⟩⟩⟩⟩))))) (Reps.none _ _))); intro v257 w29 ho30 hb hg_ hnew_; clear hg_ hnew_; (first | rw [← Ny256.out] at ho30 | (simp only [Int.reduceToNat] at ho30; rw [← Ny256.out] at ho30)); have HO258 := Aside0.mk (Kd.N_lower ho30 (below_size (bw_ HB))); replace HO_237008 := Aside0.mk (Kd.V_elder' (tV_ HO_237008) (by first | exact Kd.N_base ho30 | exact Kd.N_base (Kd.S_N ho30)) hb); replace HO249 := Aside0.mk (Kd.R_below (tR_ HO249) hb); replace HO253 := Aside0.mk (Kd.R_below (tR_ HO253) hb); replace BK236 := Aside0.mk (blk_below (tk_ BK236) hb); replace BK250 := Aside0.mk (blk_below (tk_ BK250) hb); replace HB := Aside0.mk (below_step (bw_ HB) hb); clear hb ho30; obtain ⟨Ao31, co31, eo31⟩ := Kd.N_slice HO258.out; subst eo31) | ((with_reducible refine gate_callee (f := 12) rfl ?_); refine goesL_ (some 29) rfl rfl Try.func12 (by kernel_rfl) rfl #[.slice Ao31 y256.length co31] rfl (by (try simp only [l_4, l_5, l_6]); first | done | rfl | (simp only [l_7, l_8]; rfl)) ?_; (with_reducible refine (msg_Right.calls kj1 _ _ y256 t259 _ ?side1 ?side2 A25.out).mono ?_); (case side1 => repeat (first | exact (Kd.N_reads' HO258.out).2.2 | (with_reducible refine Kd.C_alloc ?_ _) | (with_reducible refine Kd.C_drewN ?_ _) | (with_reducible refine Kd.C_drew ?_))); (case side2 => exact (Kd.N_reads' HO258.out).2.1); rintro e w32 ⟨rfl, hb⟩; (try clear A25); refine ⟨_, rfl, ?_⟩; replace HO_237008 := Aside0.mk (Kd.V_below (tV_ HO_237008) hb); replace HO249 := Aside0.mk (Kd.R_below (tR_ HO249) hb); replace HO253 := Aside0.mk (Kd.R_below (tR_ HO253) hb); replace HO258 := Aside0.mk (Kd.N_below (tN_ HO258) hb); replace BK236 := Aside0.mk (blk_below (tk_ BK236) hb); replace BK250 := Aside0.mk (blk_below (tk_ BK250) hb); replace HB := Aside0.mk (below_step (bw_ HB) hb); (try clear hb); (try clear hb2); (try clear hk); (try clear hi)))
     go_meet
     case rel => exact ⟨_, (true), (by first | rfl | (simp; done) | (simp [*]; done)), H', ⟨by have := HJ1.out; first | exact Nat.le_refl _ | omega⟩, ⟨by (with_reducible repeat (first | apply Kd.R_alloc | apply Kd.R_drewN | apply Kd.R_drew)); exact Kd.R_mono HO253.out (fun _ hk => hk.1)⟩, ⟨by (with_reducible repeat (first | apply Kd.V_alloc | apply Kd.V_drewN | apply Kd.V_drew)); exact Kd.V_mono HO_237008.out (fun x_ hk => by first | exact ⟨hk.1.1.1.1.1, ⟨hk.1.2, ⟨hk.1.1.1.2, ⟨hk.1.1.1.1.2, hk.1.1.2⟩⟩⟩⟩ | (obtain ⟨⟨h1, h2, h3, h4, h5⟩, h6⟩ := hk; exact ⟨by assumption, by assumption, by assumption, by assumption, by assumption⟩))⟩, ⟨by (with_reducible repeat (first | apply Kd.R_alloc | apply Kd.R_drewN | apply Kd.R_drew)); exact Kd.R_mono HO249.out (fun _ hk => hk.1)⟩, ⟨tk_ BK236⟩, ⟨tk_ BK250⟩, ⟨by repeat (first | (with_reducible first | exact HB.out | apply b_a | apply b_n | apply b_d | refine b_s ?_ GE236.out | refine b_s ?_ GE250.out) | exact HB.out)⟩⟩
    rw [if_neg c26] at H
    have c26b0 : (t259 != t255) = false := by simpa using c26
    (try (have c26b1 : decide (t259 = t255) = true := by simpa using c26))
    (try (have c26b2 : (t259 == t255) = true := by simpa using c26))
    clear c26
    (first | rw [c26b0] | (simp only [i64_w, i32_w]; rw [c26b0]) | skip)
    replace H := Option.bind_eq_some_iff.mp H
    obtain ⟨t260, A330, H⟩ := H
    replace H : (if t260 = true then ((msg_Same.f kj1 t239 t240 t241 t242 t243 t244 t245 t246 t247 a0_0 a0_1 a0_2 a0_3 a0_4 a0_5 a0_6 a0_7 l0_8).bind fun t261 => (pelotonlaw15_MsgBack.j1 kj1 t251 t254 t255 (!t261) a0_0 a0_1 a0_2 a0_3 a0_4 a0_5 a0_6 a0_7 l0_8)) else (pelotonlaw15_MsgBack.j1 kj1 t251 t254 t255 true a0_0 a0_1 a0_2 a0_3 a0_4 a0_5 a0_6 a0_7 l0_8)) = some r := H
    have A33 := Aside0.mk A330
    clear A330
    by_cases c34 : t260 = true
    rotate_left
    ·
     replace c34 := Bool.eq_false_iff.mpr c34
     subst c34
     have H1 : (pelotonlaw15_MsgBack.j1 kj1 t251 t254 t255 true a0_0 a0_1 a0_2 a0_3 a0_4 a0_5 a0_6 a0_7 l0_8) = some r := by rw [if_neg (show ¬ (false = true) by decide)] at H; exact H
     clear H
     have H := H1
     clear H1
     have H' := Aside0.mk H
     clear H
     have hnb48 := NB236_250.out
     have hnc48 := NB250_236.out
     have hcz49_0 := bc_0 BK236
     have hcz49_1 := bc_1 BK236
     have hcz49_2 := bc_2 BK236
     have hcz49_3 := bc_3 BK236
     have hcz49_4 := bc_4 BK236
     have hcz49_5 := bc_5 BK236
     have hcz49_6 := bc_6 BK236
     have hcz49_7 := bc_7 BK236
     have hcz49_8 : w24.cell? ⟨gb236, 8, none⟩ = some (.slice A0_8 l0_8.length c0_8) := (blk_cell BK236.out 8).trans rfl
     have hfz49_0 := blk_frozen BK236.out 0
     have hfz49_1 := blk_frozen BK236.out 1
     have hfz49_2 := blk_frozen BK236.out 2
     have hfz49_3 := blk_frozen BK236.out 3
     have hfz49_4 := blk_frozen BK236.out 4
     have hfz49_5 := blk_frozen BK236.out 5
     have hfz49_6 := blk_frozen BK236.out 6
     have hfz49_7 := blk_frozen BK236.out 7
     have hfz49_8 := blk_frozen BK236.out 8
     go_wp2_with (first | ((with_reducible refine gate_dst (N := 28) rfl ?_); (try (refine gate_guard (by rfl) ?_; dsimp only)); refine Kd.N_lit k24 _ 24 ?hg (N' := 28) ?hd (xs := ([(⟨a0_0, a0_1, a0_2, a0_3, a0_4, a0_5, a0_6, a0_7, l0_8⟩ : S24)] : List (S24))) (inner := [.int .i64 a0_0, .int .i64 a0_1, .int .i64 a0_2, .int .i64 a0_3, .int .i64 a0_4, .int .i64 a0_5, .int .i64 a0_6, .int .i64 a0_7, .slice A0_8 l0_8.length c0_8]) (ok := (fun k_ => (P0_8_ k_ ∨ w.heap.size ≤ k_) ∧ some k_ ≠ (.slice Ao21 t247.length co21 : Value).ownBlock ∧ some k_ ≠ (v252 : Value).ownBlock ∧ k_ ≠ gb236 ∧ k_ ≠ gb250)) (okp := (fun k_ => (P0_8_ k_ ∨ w.heap.size ≤ k_) ∧ some k_ ≠ (.slice Ao21 t247.length co21 : Value).ownBlock ∧ some k_ ≠ (v252 : Value).ownBlock ∧ k_ ≠ gb236 ∧ k_ ≠ gb250)) ?hr ?hp (fun _ hk => hk) ((show ∀ k_, (_ : Nat) ≤ k_ → (fun k_ => (P0_8_ k_ ∨ w.heap.size ≤ k_) ∧ some k_ ≠ (.slice Ao21 t247.length co21 : Value).ownBlock ∧ some k_ ≠ (v252 : Value).ownBlock ∧ k_ ≠ gb236 ∧ k_ ≠ gb250) k_ from fun k_ hk => ⟨(.inr (Nat.le_trans (below_size (bw_ HB)) hk)), Kd.fresh' (Kd.R_lt (tR_ HO249)) k_ hk, Kd.fresh' (Kd.R_lt (tR_ HO253)) k_ hk, Kd.freshB (tk_ BK236) k_ hk, Kd.freshB (tk_ BK250) k_ hk⟩) _ (Nat.le_refl _)) (Below.refl _ _) (Nat.le_refl _) (by simp) ?_; (case hd => rfl); (case hg => rfl); (case hr => first | exact bld9_ ((.int .i64 0)) ((.int .i64 0)) ((.int .i64 0)) ((.int .i64 0)) ((.int .i64 0)) ((.int .i64 0)) ((.int .i64 0)) ((.int .i64 0)) ((.slice none 0 0)) rfl rfl | (refine bld92_ ((.int .i64 0)) ((.int .i64 0)) ((.int .i64 0)) ((.int .i64 0)) ((.int .i64 0)) ((.int .i64 0)) ((.int .i64 0)) ((.int .i64 0)) ((.slice none 0 0)) rfl ?_ ?_ ?_ ?_ <;> rfl)); (case hp => exact (Reps.c9 (show Kd.FK k24 _ _ (⟨a0_0, a0_1, a0_2, a0_3, a0_4, a0_5, a0_6, a0_7, l0_8⟩ : S24) [.int .i64 a0_0, .int .i64 a0_1, .int .i64 a0_2, .int .i64 a0_3, .int .i64 a0_4, .int .i64 a0_5, .int .i64 a0_6, .int .i64 a0_7, .slice A0_8 l0_8.length c0_8] from (k24_mkF _ _ (⟨a0_0, a0_1, a0_2, a0_3, a0_4, a0_5, a0_6, a0_7, l0_8⟩ : S24) (Kd.V_reads' (Kd.V_mono (ok' := (fun k_ => (P0_8_ k_ ∨ w.heap.size ≤ k_) ∧ some k_ ≠ (.slice Ao21 t247.length co21 : Value).ownBlock ∧ some k_ ≠ (v252 : Value).ownBlock ∧ k_ ≠ gb236 ∧ k_ ≠ gb250)) (HO_237008.out) (fun k_ hk => ⟨hk.1.1.1.1, ⟨hk.1.1.2, ⟨hk.2, ⟨hk.1.1.1.2, hk.1.2⟩⟩⟩⟩))).2.1 (Kd.V_F (Kd.V_mono (ok' := (fun k_ => (P0_8_ k_ ∨ w.heap.size ≤ k_) ∧ some k_ ≠ (.slice Ao21 t247.length co21 : Value).ownBlock ∧ some k_ ≠ (v252 : Value).ownBlock ∧ k_ ≠ gb236 ∧ k_ ≠ gb250)) (HO_237008.out) (fun k_ hk => ⟨hk.1.1.1.1, ⟨hk.1.1.2, ⟨hk.2, ⟨hk.1.1.1.2, hk.1.2⟩⟩⟩⟩))))) (Reps.none _ _))); intro v257 w50 ho51 hb hg_ hnew_; clear hg_ hnew_; (first | rw [← Ny256.out] at ho51 | (simp only [Int.reduceToNat] at ho51; rw [← Ny256.out] at ho51)); have HO258 := Aside0.mk (Kd.N_lower ho51 (below_size (bw_ HB))); replace HO_237008 := Aside0.mk (Kd.V_elder' (tV_ HO_237008) (by first | exact Kd.N_base ho51 | exact Kd.N_base (Kd.S_N ho51)) hb); replace HO249 := Aside0.mk (Kd.R_below (tR_ HO249) hb); replace HO253 := Aside0.mk (Kd.R_below (tR_ HO253) hb); replace BK236 := Aside0.mk (blk_below (tk_ BK236) hb); replace BK250 := Aside0.mk (blk_below (tk_ BK250) hb); replace HB := Aside0.mk (below_step (bw_ HB) hb); clear hb ho51; obtain ⟨Ao52, co52, eo52⟩ := Kd.N_slice HO258.out; subst eo52) | ((with_reducible refine gate_callee (f := 12) rfl ?_); refine goesL_ (some 29) rfl rfl Try.func12 (by kernel_rfl) rfl #[.slice Ao52 y256.length co52] rfl (by (try simp only [l_4, l_5, l_6]); first | done | rfl | (simp only [l_7, l_8]; rfl)) ?_; (with_reducible refine (msg_Right.calls kj1 _ _ y256 t259 _ ?side1 ?side2 A25.out).mono ?_); (case side1 => repeat (first | exact (Kd.N_reads' HO258.out).2.2 | (with_reducible refine Kd.C_alloc ?_ _) | (with_reducible refine Kd.C_drewN ?_ _) | (with_reducible refine Kd.C_drew ?_))); (case side2 => exact (Kd.N_reads' HO258.out).2.1); rintro e w53 ⟨rfl, hb⟩; (try clear A25); refine ⟨_, rfl, ?_⟩; replace HO_237008 := Aside0.mk (Kd.V_below (tV_ HO_237008) hb); replace HO249 := Aside0.mk (Kd.R_below (tR_ HO249) hb); replace HO253 := Aside0.mk (Kd.R_below (tR_ HO253) hb); replace HO258 := Aside0.mk (Kd.N_below (tN_ HO258) hb); replace BK236 := Aside0.mk (blk_below (tk_ BK236) hb); replace BK250 := Aside0.mk (blk_below (tk_ BK250) hb); replace HB := Aside0.mk (below_step (bw_ HB) hb); (try clear hb); (try clear hb2); (try clear hk); (try clear hi); have hcz54_0 := bc_0 BK250; have hcz54_1 := bc_1 BK250; have hcz54_2 := bc_2 BK250; have hcz54_3 := bc_3 BK250; have hcz54_4 := bc_4 BK250; have hcz54_5 := bc_5 BK250; have hcz54_6 := bc_6 BK250; have hcz54_7 := bc_7 BK250; have hcz54_8 : w53.cell? ⟨gb250, 8, none⟩ = some (.slice Ao21 t247.length co21) := (blk_cell BK250.out 8).trans rfl; have hfz54_0 := blk_frozen BK250.out 0; have hfz54_1 := blk_frozen BK250.out 1; have hfz54_2 := blk_frozen BK250.out 2; have hfz54_3 := blk_frozen BK250.out 3; have hfz54_4 := blk_frozen BK250.out 4; have hfz54_5 := blk_frozen BK250.out 5; have hfz54_6 := blk_frozen BK250.out 6; have hfz54_7 := blk_frozen BK250.out 7; have hfz54_8 := blk_frozen BK250.out 8; have hcz55_0 := bc_0 BK236; have hcz55_1 := bc_1 BK236; have hcz55_2 := bc_2 BK236; have hcz55_3 := bc_3 BK236; have hcz55_4 := bc_4 BK236; have hcz55_5 := bc_5 BK236; have hcz55_6 := bc_6 BK236; have hcz55_7 := bc_7 BK236; have hcz55_8 : w53.cell? ⟨gb236, 8, none⟩ = some (.slice A0_8 l0_8.length c0_8) := (blk_cell BK236.out 8).trans rfl; have hfz55_0 := blk_frozen BK236.out 0; have hfz55_1 := blk_frozen BK236.out 1; have hfz55_2 := blk_frozen BK236.out 2; have hfz55_3 := blk_frozen BK236.out 3; have hfz55_4 := blk_frozen BK236.out 4; have hfz55_5 := blk_frozen BK236.out 5; have hfz55_6 := blk_frozen BK236.out 6; have hfz55_7 := blk_frozen BK236.out 7; have hfz55_8 := blk_frozen BK236.out 8; (first | ((with_reducible refine gate_store_ rfl ?_); refine st9_ rfl rfl rfl rfl rfl (by with_reducible assumption) (by kernel_rfl) (by simp [Value.oneCell']) ?_; clear hcz54_0 hfz54_0 hcz54_1 hfz54_1 hcz54_2 hfz54_2 hcz54_3 hfz54_3 hcz54_4 hfz54_4 hcz54_5 hfz54_5 hcz54_6 hfz54_6 hcz54_7 hfz54_7 hcz54_8 hfz54_8 hcz55_0 hfz55_0 hcz55_1 hfz55_1 hcz55_2 hfz55_2 hcz55_3 hfz55_3 hcz55_4 hfz55_4 hcz55_5 hfz55_5 hcz55_6 hfz55_6 hcz55_7 hfz55_7 hcz55_8 hfz55_8; intro hb9_; have BN55 := Aside0.mk hb9_; clear hb9_) | skip)) | (go_at_call 13; (with_reducible refine (pelotonref15_Same.calls kj1 t239 t240 t241 t242 t243 t244 t245 t246 _ _ t247 a0_0 a0_1 a0_2 a0_3 a0_4 a0_5 a0_6 a0_7 _ _ l0_8 false _ ?side1 ?side2 ?side3 ?side4 A33.out).mono ?_); (case side1 => repeat (first | exact (Kd.R_reads' HO249.out).2.2 | (with_reducible refine Kd.C_alloc ?_ _) | (with_reducible refine Kd.C_drewN ?_ _) | (with_reducible refine Kd.C_drew ?_))); (case side2 => exact (Kd.R_reads' HO249.out).2.1); (case side3 => repeat (first | exact (Kd.V_reads' HO_237008.out).2.2 | (with_reducible refine Kd.C_alloc ?_ _) | (with_reducible refine Kd.C_drewN ?_ _) | (with_reducible refine Kd.C_drew ?_))); (case side4 => exact (Kd.V_reads' HO_237008.out).2.1); rintro e w56 ⟨rfl, hb⟩; (try clear A33); replace HO_237008 := Aside0.mk (Kd.V_below (tV_ HO_237008) hb); replace HO249 := Aside0.mk (Kd.R_below (tR_ HO249) hb); replace HO253 := Aside0.mk (Kd.R_below (tR_ HO253) hb); replace HO258 := Aside0.mk (Kd.N_below (tN_ HO258) hb); replace BK236 := Aside0.mk (blk_below (tk_ BK236) hb); replace BK250 := Aside0.mk (blk_below (tk_ BK250) hb); replace HB := Aside0.mk (below_step (bw_ HB) hb); (try clear hb); (try clear hb2); (try clear hk); (try clear hi)))
     go_meet
     case rel => exact ⟨_, (true), (by first | rfl | (simp; done) | (simp [*]; done)), H', ⟨by have := HJ1.out; first | exact Nat.le_refl _ | omega⟩, ⟨by (with_reducible repeat (first | apply Kd.R_alloc | apply Kd.R_drewN | apply Kd.R_drew)); exact Kd.R_mono HO253.out (fun _ hk => hk.1)⟩, ⟨by (with_reducible repeat (first | apply Kd.V_alloc | apply Kd.V_drewN | apply Kd.V_drew)); exact Kd.V_mono HO_237008.out (fun x_ hk => by first | exact ⟨hk.1.1.1.1.1, ⟨hk.1.2, ⟨hk.1.1.1.2, ⟨hk.1.1.1.1.2, hk.1.1.2⟩⟩⟩⟩ | (obtain ⟨⟨h1, h2, h3, h4, h5⟩, h6⟩ := hk; exact ⟨by assumption, by assumption, by assumption, by assumption, by assumption⟩))⟩, ⟨by (with_reducible repeat (first | apply Kd.R_alloc | apply Kd.R_drewN | apply Kd.R_drew)); exact Kd.R_mono HO249.out (fun _ hk => hk.1)⟩, ⟨tk_ BK236⟩, ⟨tk_ BK250⟩, ⟨by repeat (first | (with_reducible first | exact HB.out | apply b_a | apply b_n | apply b_d | refine b_s ?_ GE236.out | refine b_s ?_ GE250.out) | exact HB.out)⟩⟩
    subst c34
    have H1 : ((msg_Same.f kj1 t239 t240 t241 t242 t243 t244 t245 t246 t247 a0_0 a0_1 a0_2 a0_3 a0_4 a0_5 a0_6 a0_7 l0_8).bind fun t261 => (pelotonlaw15_MsgBack.j1 kj1 t251 t254 t255 (!t261) a0_0 a0_1 a0_2 a0_3 a0_4 a0_5 a0_6 a0_7 l0_8)) = some r := by rw [if_pos rfl] at H; exact H
    clear H
    have H := H1
    clear H1
    replace H := Option.bind_eq_some_iff.mp H
    obtain ⟨t261, A350, H⟩ := H
    replace H : (pelotonlaw15_MsgBack.j1 kj1 t251 t254 t255 (!t261) a0_0 a0_1 a0_2 a0_3 a0_4 a0_5 a0_6 a0_7 l0_8) = some r := H
    have A35 := Aside0.mk A350
    clear A350
    have H' := Aside0.mk H
    clear H
    have hnb36 := NB236_250.out
    have hnc36 := NB250_236.out
    have hcz37_0 := bc_0 BK236
    have hcz37_1 := bc_1 BK236
    have hcz37_2 := bc_2 BK236
    have hcz37_3 := bc_3 BK236
    have hcz37_4 := bc_4 BK236
    have hcz37_5 := bc_5 BK236
    have hcz37_6 := bc_6 BK236
    have hcz37_7 := bc_7 BK236
    have hcz37_8 : w24.cell? ⟨gb236, 8, none⟩ = some (.slice A0_8 l0_8.length c0_8) := (blk_cell BK236.out 8).trans rfl
    have hfz37_0 := blk_frozen BK236.out 0
    have hfz37_1 := blk_frozen BK236.out 1
    have hfz37_2 := blk_frozen BK236.out 2
    have hfz37_3 := blk_frozen BK236.out 3
    have hfz37_4 := blk_frozen BK236.out 4
    have hfz37_5 := blk_frozen BK236.out 5
    have hfz37_6 := blk_frozen BK236.out 6
    have hfz37_7 := blk_frozen BK236.out 7
    have hfz37_8 := blk_frozen BK236.out 8
    go_wp2_with (first | ((with_reducible refine gate_dst (N := 28) rfl ?_); (try (refine gate_guard (by rfl) ?_; dsimp only)); refine Kd.N_lit k24 _ 24 ?hg (N' := 28) ?hd (xs := ([(⟨a0_0, a0_1, a0_2, a0_3, a0_4, a0_5, a0_6, a0_7, l0_8⟩ : S24)] : List (S24))) (inner := [.int .i64 a0_0, .int .i64 a0_1, .int .i64 a0_2, .int .i64 a0_3, .int .i64 a0_4, .int .i64 a0_5, .int .i64 a0_6, .int .i64 a0_7, .slice A0_8 l0_8.length c0_8]) (ok := (fun k_ => (P0_8_ k_ ∨ w.heap.size ≤ k_) ∧ some k_ ≠ (.slice Ao21 t247.length co21 : Value).ownBlock ∧ some k_ ≠ (v252 : Value).ownBlock ∧ k_ ≠ gb236 ∧ k_ ≠ gb250)) (okp := (fun k_ => (P0_8_ k_ ∨ w.heap.size ≤ k_) ∧ some k_ ≠ (.slice Ao21 t247.length co21 : Value).ownBlock ∧ some k_ ≠ (v252 : Value).ownBlock ∧ k_ ≠ gb236 ∧ k_ ≠ gb250)) ?hr ?hp (fun _ hk => hk) ((show ∀ k_, (_ : Nat) ≤ k_ → (fun k_ => (P0_8_ k_ ∨ w.heap.size ≤ k_) ∧ some k_ ≠ (.slice Ao21 t247.length co21 : Value).ownBlock ∧ some k_ ≠ (v252 : Value).ownBlock ∧ k_ ≠ gb236 ∧ k_ ≠ gb250) k_ from fun k_ hk => ⟨(.inr (Nat.le_trans (below_size (bw_ HB)) hk)), Kd.fresh' (Kd.R_lt (tR_ HO249)) k_ hk, Kd.fresh' (Kd.R_lt (tR_ HO253)) k_ hk, Kd.freshB (tk_ BK236) k_ hk, Kd.freshB (tk_ BK250) k_ hk⟩) _ (Nat.le_refl _)) (Below.refl _ _) (Nat.le_refl _) (by simp) ?_; (case hd => rfl); (case hg => rfl); (case hr => first | exact bld9_ ((.int .i64 0)) ((.int .i64 0)) ((.int .i64 0)) ((.int .i64 0)) ((.int .i64 0)) ((.int .i64 0)) ((.int .i64 0)) ((.int .i64 0)) ((.slice none 0 0)) rfl rfl | (refine bld92_ ((.int .i64 0)) ((.int .i64 0)) ((.int .i64 0)) ((.int .i64 0)) ((.int .i64 0)) ((.int .i64 0)) ((.int .i64 0)) ((.int .i64 0)) ((.slice none 0 0)) rfl ?_ ?_ ?_ ?_ <;> rfl)); (case hp => exact (Reps.c9 (show Kd.FK k24 _ _ (⟨a0_0, a0_1, a0_2, a0_3, a0_4, a0_5, a0_6, a0_7, l0_8⟩ : S24) [.int .i64 a0_0, .int .i64 a0_1, .int .i64 a0_2, .int .i64 a0_3, .int .i64 a0_4, .int .i64 a0_5, .int .i64 a0_6, .int .i64 a0_7, .slice A0_8 l0_8.length c0_8] from (k24_mkF _ _ (⟨a0_0, a0_1, a0_2, a0_3, a0_4, a0_5, a0_6, a0_7, l0_8⟩ : S24) (Kd.V_reads' (Kd.V_mono (ok' := (fun k_ => (P0_8_ k_ ∨ w.heap.size ≤ k_) ∧ some k_ ≠ (.slice Ao21 t247.length co21 : Value).ownBlock ∧ some k_ ≠ (v252 : Value).ownBlock ∧ k_ ≠ gb236 ∧ k_ ≠ gb250)) (HO_237008.out) (fun k_ hk => ⟨hk.1.1.1.1, ⟨hk.1.1.2, ⟨hk.2, ⟨hk.1.1.1.2, hk.1.2⟩⟩⟩⟩))).2.1 (Kd.V_F (Kd.V_mono (ok' := (fun k_ => (P0_8_ k_ ∨ w.heap.size ≤ k_) ∧ some k_ ≠ (.slice Ao21 t247.length co21 : Value).ownBlock ∧ some k_ ≠ (v252 : Value).ownBlock ∧ k_ ≠ gb236 ∧ k_ ≠ gb250)) (HO_237008.out) (fun k_ hk => ⟨hk.1.1.1.1, ⟨hk.1.1.2, ⟨hk.2, ⟨hk.1.1.1.2, hk.1.2⟩⟩⟩⟩))))) (Reps.none _ _))); intro v257 w38 ho39 hb hg_ hnew_; clear hg_ hnew_; (first | rw [← Ny256.out] at ho39 | (simp only [Int.reduceToNat] at ho39; rw [← Ny256.out] at ho39)); have HO258 := Aside0.mk (Kd.N_lower ho39 (below_size (bw_ HB))); replace HO_237008 := Aside0.mk (Kd.V_elder' (tV_ HO_237008) (by first | exact Kd.N_base ho39 | exact Kd.N_base (Kd.S_N ho39)) hb); replace HO249 := Aside0.mk (Kd.R_below (tR_ HO249) hb); replace HO253 := Aside0.mk (Kd.R_below (tR_ HO253) hb); replace BK236 := Aside0.mk (blk_below (tk_ BK236) hb); replace BK250 := Aside0.mk (blk_below (tk_ BK250) hb); replace HB := Aside0.mk (below_step (bw_ HB) hb); clear hb ho39; obtain ⟨Ao40, co40, eo40⟩ := Kd.N_slice HO258.out; subst eo40) | ((with_reducible refine gate_callee (f := 12) rfl ?_); refine goesL_ (some 29) rfl rfl Try.func12 (by kernel_rfl) rfl #[.slice Ao40 y256.length co40] rfl (by (try simp only [l_4, l_5, l_6]); first | done | rfl | (simp only [l_7, l_8]; rfl)) ?_; (with_reducible refine (msg_Right.calls kj1 _ _ y256 t259 _ ?side1 ?side2 A25.out).mono ?_); (case side1 => repeat (first | exact (Kd.N_reads' HO258.out).2.2 | (with_reducible refine Kd.C_alloc ?_ _) | (with_reducible refine Kd.C_drewN ?_ _) | (with_reducible refine Kd.C_drew ?_))); (case side2 => exact (Kd.N_reads' HO258.out).2.1); rintro e w41 ⟨rfl, hb⟩; (try clear A25); refine ⟨_, rfl, ?_⟩; replace HO_237008 := Aside0.mk (Kd.V_below (tV_ HO_237008) hb); replace HO249 := Aside0.mk (Kd.R_below (tR_ HO249) hb); replace HO253 := Aside0.mk (Kd.R_below (tR_ HO253) hb); replace HO258 := Aside0.mk (Kd.N_below (tN_ HO258) hb); replace BK236 := Aside0.mk (blk_below (tk_ BK236) hb); replace BK250 := Aside0.mk (blk_below (tk_ BK250) hb); replace HB := Aside0.mk (below_step (bw_ HB) hb); (try clear hb); (try clear hb2); (try clear hk); (try clear hi); have hcz42_0 := bc_0 BK250; have hcz42_1 := bc_1 BK250; have hcz42_2 := bc_2 BK250; have hcz42_3 := bc_3 BK250; have hcz42_4 := bc_4 BK250; have hcz42_5 := bc_5 BK250; have hcz42_6 := bc_6 BK250; have hcz42_7 := bc_7 BK250; have hcz42_8 : w41.cell? ⟨gb250, 8, none⟩ = some (.slice Ao21 t247.length co21) := (blk_cell BK250.out 8).trans rfl; have hfz42_0 := blk_frozen BK250.out 0; have hfz42_1 := blk_frozen BK250.out 1; have hfz42_2 := blk_frozen BK250.out 2; have hfz42_3 := blk_frozen BK250.out 3; have hfz42_4 := blk_frozen BK250.out 4; have hfz42_5 := blk_frozen BK250.out 5; have hfz42_6 := blk_frozen BK250.out 6; have hfz42_7 := blk_frozen BK250.out 7; have hfz42_8 := blk_frozen BK250.out 8; have hcz43_0 := bc_0 BK236; have hcz43_1 := bc_1 BK236; have hcz43_2 := bc_2 BK236; have hcz43_3 := bc_3 BK236; have hcz43_4 := bc_4 BK236; have hcz43_5 := bc_5 BK236; have hcz43_6 := bc_6 BK236; have hcz43_7 := bc_7 BK236; have hcz43_8 : w41.cell? ⟨gb236, 8, none⟩ = some (.slice A0_8 l0_8.length c0_8) := (blk_cell BK236.out 8).trans rfl; have hfz43_0 := blk_frozen BK236.out 0; have hfz43_1 := blk_frozen BK236.out 1; have hfz43_2 := blk_frozen BK236.out 2; have hfz43_3 := blk_frozen BK236.out 3; have hfz43_4 := blk_frozen BK236.out 4; have hfz43_5 := blk_frozen BK236.out 5; have hfz43_6 := blk_frozen BK236.out 6; have hfz43_7 := blk_frozen BK236.out 7; have hfz43_8 := blk_frozen BK236.out 8; (first | ((with_reducible refine gate_store_ rfl ?_); refine st9_ rfl rfl rfl rfl rfl (by with_reducible assumption) (by kernel_rfl) (by simp [Value.oneCell']) ?_; clear hcz42_0 hfz42_0 hcz42_1 hfz42_1 hcz42_2 hfz42_2 hcz42_3 hfz42_3 hcz42_4 hfz42_4 hcz42_5 hfz42_5 hcz42_6 hfz42_6 hcz42_7 hfz42_7 hcz42_8 hfz42_8 hcz43_0 hfz43_0 hcz43_1 hfz43_1 hcz43_2 hfz43_2 hcz43_3 hfz43_3 hcz43_4 hfz43_4 hcz43_5 hfz43_5 hcz43_6 hfz43_6 hcz43_7 hfz43_7 hcz43_8 hfz43_8; intro hb9_; have BN43 := Aside0.mk hb9_; clear hb9_) | skip)) | (go_at_call 13; (with_reducible refine (pelotonref15_Same.calls kj1 t239 t240 t241 t242 t243 t244 t245 t246 _ _ t247 a0_0 a0_1 a0_2 a0_3 a0_4 a0_5 a0_6 a0_7 _ _ l0_8 true _ ?side1 ?side2 ?side3 ?side4 A33.out).mono ?_); (case side1 => repeat (first | exact (Kd.R_reads' HO249.out).2.2 | (with_reducible refine Kd.C_alloc ?_ _) | (with_reducible refine Kd.C_drewN ?_ _) | (with_reducible refine Kd.C_drew ?_))); (case side2 => exact (Kd.R_reads' HO249.out).2.1); (case side3 => repeat (first | exact (Kd.V_reads' HO_237008.out).2.2 | (with_reducible refine Kd.C_alloc ?_ _) | (with_reducible refine Kd.C_drewN ?_ _) | (with_reducible refine Kd.C_drew ?_))); (case side4 => exact (Kd.V_reads' HO_237008.out).2.1); rintro e w44 ⟨rfl, hb⟩; (try clear A33); replace HO_237008 := Aside0.mk (Kd.V_below (tV_ HO_237008) hb); replace HO249 := Aside0.mk (Kd.R_below (tR_ HO249) hb); replace HO253 := Aside0.mk (Kd.R_below (tR_ HO253) hb); replace HO258 := Aside0.mk (Kd.N_below (tN_ HO258) hb); replace BK236 := Aside0.mk (blk_below (tk_ BK236) hb); replace BK250 := Aside0.mk (blk_below (tk_ BK250) hb); replace HB := Aside0.mk (below_step (bw_ HB) hb); (try clear hb); (try clear hb2); (try clear hk); (try clear hi); have hcz45_0 := bc_0 BK250; have hcz45_1 := bc_1 BK250; have hcz45_2 := bc_2 BK250; have hcz45_3 := bc_3 BK250; have hcz45_4 := bc_4 BK250; have hcz45_5 := bc_5 BK250; have hcz45_6 := bc_6 BK250; have hcz45_7 := bc_7 BK250; have hcz45_8 : w44.cell? ⟨gb250, 8, none⟩ = some (.slice Ao21 t247.length co21) := (blk_cell BK250.out 8).trans rfl; have hfz45_0 := blk_frozen BK250.out 0; have hfz45_1 := blk_frozen BK250.out 1; have hfz45_2 := blk_frozen BK250.out 2; have hfz45_3 := blk_frozen BK250.out 3; have hfz45_4 := blk_frozen BK250.out 4; have hfz45_5 := blk_frozen BK250.out 5; have hfz45_6 := blk_frozen BK250.out 6; have hfz45_7 := blk_frozen BK250.out 7; have hfz45_8 := blk_frozen BK250.out 8; have hcz46_0 := bc_0 BK236; have hcz46_1 := bc_1 BK236; have hcz46_2 := bc_2 BK236; have hcz46_3 := bc_3 BK236; have hcz46_4 := bc_4 BK236; have hcz46_5 := bc_5 BK236; have hcz46_6 := bc_6 BK236; have hcz46_7 := bc_7 BK236; have hcz46_8 : w44.cell? ⟨gb236, 8, none⟩ = some (.slice A0_8 l0_8.length c0_8) := (blk_cell BK236.out 8).trans rfl; have hfz46_0 := blk_frozen BK236.out 0; have hfz46_1 := blk_frozen BK236.out 1; have hfz46_2 := blk_frozen BK236.out 2; have hfz46_3 := blk_frozen BK236.out 3; have hfz46_4 := blk_frozen BK236.out 4; have hfz46_5 := blk_frozen BK236.out 5; have hfz46_6 := blk_frozen BK236.out 6; have hfz46_7 := blk_frozen BK236.out 7; have hfz46_8 := blk_frozen BK236.out 8; (first | ((with_reducible refine gate_store_ rfl ?_); refine st9_ rfl rfl rfl rfl rfl (by with_reducible assumption) (by kernel_rfl) (by simp [Value.oneCell']) ?_; clear hcz45_0 hfz45_0 hcz45_1 hfz45_1 hcz45_2 hfz45_2 hcz45_3 hfz45_3 hcz45_4 hfz45_4 hcz45_5 hfz45_5 hcz45_6 hfz45_6 hcz45_7 hfz45_7 hcz45_8 hfz45_8 hcz46_0 hfz46_0 hcz46_1 hfz46_1 hcz46_2 hfz46_2 hcz46_3 hfz46_3 hcz46_4 hfz46_4 hcz46_5 hfz46_5 hcz46_6 hfz46_6 hcz46_7 hfz46_7 hcz46_8 hfz46_8; intro hb9_; have BN46 := Aside0.mk hb9_; clear hb9_) | skip)) | (go_at_call 14; (with_reducible refine (msg_Same.calls kj1 t239 t240 t241 t242 t243 t244 t245 t246 _ _ t247 a0_0 a0_1 a0_2 a0_3 a0_4 a0_5 a0_6 a0_7 _ _ l0_8 t261 _ ?side1 ?side2 ?side3 ?side4 A35.out).mono ?_); (case side1 => repeat (first | exact (Kd.R_reads' HO249.out).2.2 | (with_reducible refine Kd.C_alloc ?_ _) | (with_reducible refine Kd.C_drewN ?_ _) | (with_reducible refine Kd.C_drew ?_))); (case side2 => exact (Kd.R_reads' HO249.out).2.1); (case side3 => repeat (first | exact (Kd.V_reads' HO_237008.out).2.2 | (with_reducible refine Kd.C_alloc ?_ _) | (with_reducible refine Kd.C_drewN ?_ _) | (with_reducible refine Kd.C_drew ?_))); (case side4 => exact (Kd.V_reads' HO_237008.out).2.1); rintro e w47 ⟨rfl, hb⟩; (try clear A35); replace HO_237008 := Aside0.mk (Kd.V_below (tV_ HO_237008) hb); replace HO249 := Aside0.mk (Kd.R_below (tR_ HO249) hb); replace HO253 := Aside0.mk (Kd.R_below (tR_ HO253) hb); replace HO258 := Aside0.mk (Kd.N_below (tN_ HO258) hb); replace BK236 := Aside0.mk (blk_below (tk_ BK236) hb); replace BK250 := Aside0.mk (blk_below (tk_ BK250) hb); replace HB := Aside0.mk (below_step (bw_ HB) hb); (try clear hb); (try clear hb2); (try clear hk); (try clear hi)))
    go_meet
    case rel => exact ⟨_, (!t261), (by first | rfl | (simp; done) | (simp [*]; done)), H', ⟨by have := HJ1.out; first | exact Nat.le_refl _ | omega⟩, ⟨by (with_reducible repeat (first | apply Kd.R_alloc | apply Kd.R_drewN | apply Kd.R_drew)); exact Kd.R_mono HO253.out (fun _ hk => hk.1)⟩, ⟨by (with_reducible repeat (first | apply Kd.V_alloc | apply Kd.V_drewN | apply Kd.V_drew)); exact Kd.V_mono HO_237008.out (fun x_ hk => by first | exact ⟨hk.1.1.1.1.1, ⟨hk.1.2, ⟨hk.1.1.1.2, ⟨hk.1.1.1.1.2, hk.1.1.2⟩⟩⟩⟩ | (obtain ⟨⟨h1, h2, h3, h4, h5⟩, h6⟩ := hk; exact ⟨by assumption, by assumption, by assumption, by assumption, by assumption⟩))⟩, ⟨by (with_reducible repeat (first | apply Kd.R_alloc | apply Kd.R_drewN | apply Kd.R_drew)); exact Kd.R_mono HO249.out (fun _ hk => hk.1)⟩, ⟨tk_ BK236⟩, ⟨tk_ BK250⟩, ⟨by repeat (first | (with_reducible first | exact HB.out | apply b_a | apply b_n | apply b_d | refine b_s ?_ GE236.out | refine b_s ?_ GE250.out) | exact HB.out)⟩⟩
   case rest => as_aux_lemma =>
    clear HC15
    try clear c1
    try clear c2
    try clear p2
    try clear c3
    try clear c4
    try clear c5
    try clear c6
    try clear c7
    try clear c8
    try clear c9
    try clear c11
    try clear c12
    try clear c19
    try clear c26
    try clear c26b0
    try clear c26b1
    try clear c26b2
    try clear c27
    try clear c34
    try clear c36
    try clear c48
    try clear hcz16_0
    try clear hcz16_1
    try clear hcz16_2
    try clear hcz16_3
    try clear hcz16_4
    try clear hcz16_5
    try clear hcz16_6
    try clear hcz16_7
    try clear hcz16_8
    try clear hcz20_0
    try clear hcz20_1
    try clear hcz20_2
    try clear hcz20_3
    try clear hcz20_4
    try clear hcz20_5
    try clear hcz20_6
    try clear hcz20_7
    try clear hcz20_8
    try clear hcz23_0
    try clear hcz23_1
    try clear hcz23_2
    try clear hcz23_3
    try clear hcz23_4
    try clear hcz23_5
    try clear hcz23_6
    try clear hcz23_7
    try clear hcz23_8
    try clear hcz28_0
    try clear hcz28_1
    try clear hcz28_2
    try clear hcz28_3
    try clear hcz28_4
    try clear hcz28_5
    try clear hcz28_6
    try clear hcz28_7
    try clear hcz28_8
    try clear hcz37_0
    try clear hcz37_1
    try clear hcz37_2
    try clear hcz37_3
    try clear hcz37_4
    try clear hcz37_5
    try clear hcz37_6
    try clear hcz37_7
    try clear hcz37_8
    try clear hcz42_0
    try clear hcz42_1
    try clear hcz42_2
    try clear hcz42_3
    try clear hcz42_4
    try clear hcz42_5
    try clear hcz42_6
    try clear hcz42_7
    try clear hcz42_8
    try clear hcz43_0
    try clear hcz43_1
    try clear hcz43_2
    try clear hcz43_3
    try clear hcz43_4
    try clear hcz43_5
    try clear hcz43_6
    try clear hcz43_7
    try clear hcz43_8
    try clear hcz45_0
    try clear hcz45_1
    try clear hcz45_2
    try clear hcz45_3
    try clear hcz45_4
    try clear hcz45_5
    try clear hcz45_6
    try clear hcz45_7
    try clear hcz45_8
    try clear hcz46_0
    try clear hcz46_1
    try clear hcz46_2
    try clear hcz46_3
    try clear hcz46_4
    try clear hcz46_5
    try clear hcz46_6
    try clear hcz46_7
    try clear hcz46_8
    try clear hcz49_0
    try clear hcz49_1
    try clear hcz49_2
    try clear hcz49_3
    try clear hcz49_4
    try clear hcz49_5
    try clear hcz49_6
    try clear hcz49_7
    try clear hcz49_8
    try clear hcz54_0
    try clear hcz54_1
    try clear hcz54_2
    try clear hcz54_3
    try clear hcz54_4
    try clear hcz54_5
    try clear hcz54_6
    try clear hcz54_7
    try clear hcz54_8
    try clear hcz55_0
    try clear hcz55_1
    try clear hcz55_2
    try clear hcz55_3
    try clear hcz55_4
    try clear hcz55_5
    try clear hcz55_6
    try clear hcz55_7
    try clear hcz55_8
    try clear hcz7_0
    try clear hcz7_1
    try clear hcz7_2
    try clear hcz7_3
    try clear hcz7_4
    try clear hcz7_5
    try clear hcz7_6
    try clear hcz7_7
    try clear hcz7_8
    try clear hfz16_0
    try clear hfz16_1
    try clear hfz16_2
    try clear hfz16_3
    try clear hfz16_4
    try clear hfz16_5
    try clear hfz16_6
    try clear hfz16_7
    try clear hfz16_8
    try clear hfz20_0
    try clear hfz20_1
    try clear hfz20_2
    try clear hfz20_3
    try clear hfz20_4
    try clear hfz20_5
    try clear hfz20_6
    try clear hfz20_7
    try clear hfz20_8
    try clear hfz23_0
    try clear hfz23_1
    try clear hfz23_2
    try clear hfz23_3
    try clear hfz23_4
    try clear hfz23_5
    try clear hfz23_6
    try clear hfz23_7
    try clear hfz23_8
    try clear hfz28_0
    try clear hfz28_1
    try clear hfz28_2
    try clear hfz28_3
    try clear hfz28_4
    try clear hfz28_5
    try clear hfz28_6
    try clear hfz28_7
    try clear hfz28_8
    try clear hfz37_0
    try clear hfz37_1
    try clear hfz37_2
    try clear hfz37_3
    try clear hfz37_4
    try clear hfz37_5
    try clear hfz37_6
    try clear hfz37_7
    try clear hfz37_8
    try clear hfz42_0
    try clear hfz42_1
    try clear hfz42_2
    try clear hfz42_3
    try clear hfz42_4
    try clear hfz42_5
    try clear hfz42_6
    try clear hfz42_7
    try clear hfz42_8
    try clear hfz43_0
    try clear hfz43_1
    try clear hfz43_2
    try clear hfz43_3
    try clear hfz43_4
    try clear hfz43_5
    try clear hfz43_6
    try clear hfz43_7
    try clear hfz43_8
    try clear hfz45_0
    try clear hfz45_1
    try clear hfz45_2
    try clear hfz45_3
    try clear hfz45_4
    try clear hfz45_5
    try clear hfz45_6
    try clear hfz45_7
    try clear hfz45_8
    try clear hfz46_0
    try clear hfz46_1
    try clear hfz46_2
    try clear hfz46_3
    try clear hfz46_4
    try clear hfz46_5
    try clear hfz46_6
    try clear hfz46_7
    try clear hfz46_8
    try clear hfz49_0
    try clear hfz49_1
    try clear hfz49_2
    try clear hfz49_3
    try clear hfz49_4
    try clear hfz49_5
    try clear hfz49_6
    try clear hfz49_7
    try clear hfz49_8
    try clear hfz54_0
    try clear hfz54_1
    try clear hfz54_2
    try clear hfz54_3
    try clear hfz54_4
    try clear hfz54_5
    try clear hfz54_6
    try clear hfz54_7
    try clear hfz54_8
    try clear hfz55_0
    try clear hfz55_1
    try clear hfz55_2
    try clear hfz55_3
    try clear hfz55_4
    try clear hfz55_5
    try clear hfz55_6
    try clear hfz55_7
    try clear hfz55_8
    try clear hfz7_0
    try clear hfz7_1
    try clear hfz7_2
    try clear hfz7_3
    try clear hfz7_4
    try clear hfz7_5
    try clear hfz7_6
    try clear hfz7_7
    try clear hfz7_8
    try clear p2
    obtain ⟨kq, x43_14, rfl, HA, HJ14, HO_4, HO_237008, HO_251008, BK236, BK250, HB⟩ := hcut
    cases kq with
    | zero => exact absurd HA.out (by simp [pelotonlaw15_MsgBack.j1])
    | succ kj14 =>
     have H := HA.out
     clear HA
     simp only [pelotonlaw15_MsgBack.j1] at H
     by_cases c57 : x43_14 = true
     ·
      subst c57
      have H1 : (some false) = some r := by rw [if_pos rfl] at H; exact H
      clear H
      have H := H1
      clear H1
      obtain rfl := Option.some.inj H
      go_wp2_with (first | ((with_reducible refine gate_store_ rfl ?_); refine st1_ rfl rfl rfl rfl rfl (by with_reducible assumption) (by simp) (by kernel_rfl) ?_))
      go_ret
      exact ⟨by first | rfl | (simp [errW_none, errW_some] <;> rfl) | (simp [*, errW_none, errW_some] <;> rfl), by repeat (first | (with_reducible first | exact HB.out | apply b_a | apply b_n | apply b_d | refine b_s ?_ GE236.out | refine b_s ?_ GE250.out) | exact HB.out)⟩
     replace c57 := Bool.eq_false_iff.mpr c57
     subst c57
     have H1 : (if t255 = true then (if t254 = 0 then ((pelotonref15_Bytes.f kj14 a0_0 a0_1 a0_2 a0_3 a0_4 a0_5 a0_6 a0_7 l0_8).bind fun t262 => (pelotonlaw15_MsgBack.j2 kj14 t251 ((strOfNums t251).toList != (strOfNums t262).toList) a0_0 a0_1 a0_2 a0_3 a0_4 a0_5 a0_6 a0_7 l0_8)) else (pelotonlaw15_MsgBack.j2 kj14 t251 true a0_0 a0_1 a0_2 a0_3 a0_4 a0_5 a0_6 a0_7 l0_8)) else (if t254 = 150 then (some ((t251.length : Int) == 0)) else (some false))) = some r := by rw [if_neg (show ¬ (false = true) by decide)] at H; exact H
     clear H
     have H := H1
     clear H1
     by_cases c58 : t255 = true
     rotate_left
     ·
      replace c58 := Bool.eq_false_iff.mpr c58
      subst c58
      have H1 : (if t254 = 150 then (some ((t251.length : Int) == 0)) else (some false)) = some r := by rw [if_neg (show ¬ (false = true) by decide)] at H; exact H
      clear H
      have H := H1
      clear H1
      by_cases c89 : t254 = 150
      rotate_left
      ·
       rw [if_neg c89] at H
       have c89b0 : (t254 == 150) = false := beq_eq_false_iff_ne.mpr c89
       have c89b1 : (t254 != 150) = true := bne_iff_ne.mpr c89
       obtain rfl := Option.some.inj H
       go_wp2_with (first | ((with_reducible refine gate_store_ rfl ?_); refine st1_ rfl rfl rfl rfl rfl (by with_reducible assumption) (by simp) (by kernel_rfl) ?_))
       go_ret
       exact ⟨by first | rfl | (simp [errW_none, errW_some] <;> rfl) | (simp [*, errW_none, errW_some] <;> rfl), by repeat (first | (with_reducible first | exact HB.out | apply b_a | apply b_n | apply b_d | refine b_s ?_ GE236.out | refine b_s ?_ GE250.out) | exact HB.out)⟩

      rw [if_pos c89] at H
      have c89b0 : (t254 == 150) = true := beq_iff_eq.mpr c89
      have c89b1 : (t254 != 150) = false := bne_eq_false_iff_eq.mpr c89
      clear c89
      obtain rfl := Option.some.inj H
      obtain ⟨Ao90, co90, eo90⟩ := Kd.R_slice HO_4.out
      subst eo90
      go_wp2_with (first | ((with_reducible refine gate_store_ rfl ?_); refine st1_ rfl rfl rfl rfl rfl (by with_reducible assumption) (by simp) (by kernel_rfl) ?_))
      go_ret
      exact ⟨by first | rfl | (simp [errW_none, errW_some] <;> rfl) | (simp [*, errW_none, errW_some] <;> rfl), by repeat (first | (with_reducible first | exact HB.out | apply b_a | apply b_n | apply b_d | refine b_s ?_ GE236.out | refine b_s ?_ GE250.out) | exact HB.out)⟩
     subst c58
     have H1 : (if t254 = 0 then ((pelotonref15_Bytes.f kj14 a0_0 a0_1 a0_2 a0_3 a0_4 a0_5 a0_6 a0_7 l0_8).bind fun t262 => (pelotonlaw15_MsgBack.j2 kj14 t251 ((strOfNums t251).toList != (strOfNums t262).toList) a0_0 a0_1 a0_2 a0_3 a0_4 a0_5 a0_6 a0_7 l0_8)) else (pelotonlaw15_MsgBack.j2 kj14 t251 true a0_0 a0_1 a0_2 a0_3 a0_4 a0_5 a0_6 a0_7 l0_8)) = some r := by rw [if_pos rfl] at H; exact H
     clear H
     have H := H1
     clear H1
     have HC59 := Aside0.mk H
     clear H
     go_upto_region 10 with (fail)
     go_cut [62] (fun v62 wc => ∃ (kq : Nat) (x62_58 : Bool), v62 = .bool x62_58 ∧ Aside0 (pelotonlaw15_MsgBack.j2 kq t251 x62_58 a0_0 a0_1 a0_2 a0_3 a0_4 a0_5 a0_6 a0_7 l0_8 = some r) ∧ Aside0 (kq ≤ kj14) ∧ Aside0 (Kd.R (Kd.int .u8) 5 wc w.heap.size (fun k_ => (w.heap.size ≤ k_)) v252 t251) ∧ Aside0 (Kd.V (Kd.int .i32) 21 wc w.heap.size (fun k_ => (P0_8_ k_ ∨ w.heap.size ≤ k_) ∧ some k_ ≠ (v252 : Value).ownBlock ∧ some k_ ≠ ((.slice Ao21 t247.length co21) : Value).ownBlock ∧ k_ ≠ gb236 ∧ k_ ≠ gb250) (.slice A0_8 l0_8.length c0_8) l0_8) ∧ Aside0 (Kd.R (Kd.int .i32) 21 wc w.heap.size (fun k_ => (w.heap.size ≤ k_)) (.slice Ao21 t247.length co21) t247) ∧ Aside0 (wc.heap[gb236]? = some (.cells #[.int .i64 a0_0, .int .i64 a0_1, .int .i64 a0_2, .int .i64 a0_3, .int .i64 a0_4, .int .i64 a0_5, .int .i64 a0_6, .int .i64 a0_7, (.slice A0_8 l0_8.length c0_8)] 24 (0, 0))) ∧ Aside0 (wc.heap[gb250]? = some (.cells #[.int .i64 t239, .int .i64 t240, .int .i64 t241, .int .i64 t242, .int .i64 t243, .int .i64 t244, .int .i64 t245, .int .i64 t246, (.slice Ao21 t247.length co21)] 24 (0, 0))) ∧ Aside0 (Below w.heap.size w wc))
     case first =>
      have H := HC59.out
      clear HC59
      by_cases c60 : t254 = 0
      rotate_left
      ·
       rw [if_neg c60] at H
       have c60b0 : (t254 == 0) = false := beq_eq_false_iff_ne.mpr c60
       have c60b1 : (t254 != 0) = true := bne_iff_ne.mpr c60
       (first | rw [c60b0] | (simp only [i64_w, i32_w]; rw [c60b0]) | skip)
       have H' := Aside0.mk H
       clear H
       try go_wp2
       replace HO_4 := Aside0.mk (Kd.R_drew HO_4.out)
       replace HO_237008 := Aside0.mk (Kd.V_drew HO_237008.out)
       replace HO_251008 := Aside0.mk (Kd.R_drew HO_251008.out)
       replace BK236 := Aside0.mk (k_d BK236.out)
       replace BK250 := Aside0.mk (k_d BK250.out)
       replace HB := Aside0.mk (b_d HB.out)
       refine start_ (n := 10) (S := fun w' => True) (ds := []) #[false, false, false, false, false, false, false, false, false, false] (by kernel_rfl) rfl rfl trivial (fun hHeld => ?_); refine with_tabW pelotonlaw15_MsgBack.tab10 pelotonlaw15_MsgBack.bits10 (fun HT_ HW_ => ?_)
       generalize wc.drew = w67 at HO_4 HO_237008 HO_251008 BK236 BK250 HB hHeld ⊢
       refine pu_ (i := 0) (N := some 53) (bs_ 10 1) rfl rfl HT_ ?_
       refine pu_ (i := 1) (N := some 54) (bs_ 10 3) rfl rfl HT_ ?_
       refine pu_ (i := 2) (N := some 55) (bs_ 10 7) rfl rfl HT_ ?_
       refine pn_ (i := 3) (N := some 56) (bs_ 10 15) rfl rfl HT_ ?_
       refine pn_ (i := 4) (N := some 57) (bs_ 10 31) rfl rfl HT_ ?_
       refine pn_ (i := 5) (N := some 58) (bs_ 10 63) rfl rfl HT_ ?_
       refine pn_ (i := 6) (N := some 59) (bs_ 10 127) rfl rfl HT_ ?_
       refine pn_ (i := 7) (N := some 60) (bs_ 10 255) rfl rfl HT_ ?_
       refine pn_ (i := 8) (N := some 61) (bs_ 10 511) rfl rfl HT_ ?_
       refine pu_ (i := 9) (N := some 62) (bs_ 10 1023) rfl rfl HT_ ?_
       refine done_ (done_of HT_.out (by kernel_rfl)) ?_
       try go_wp2
       go_meet
       case rel => exact ⟨_, (true), (by first | rfl | (simp; done) | (simp [*]; done)), H', ⟨by have := HJ1.out; have := HJ14.out; first | exact Nat.le_refl _ | omega⟩, ⟨tR_ HO_4⟩, ⟨tV_ HO_237008⟩, ⟨tR_ HO_251008⟩, ⟨tk_ BK236⟩, ⟨tk_ BK250⟩, ⟨by repeat (first | (with_reducible first | exact HB.out | apply b_a | apply b_n | apply b_d | refine b_s ?_ GE236.out | refine b_s ?_ GE250.out) | exact HB.out)⟩⟩
      rw [if_pos c60] at H
      have c60b0 : (t254 == 0) = true := beq_iff_eq.mpr c60
      have c60b1 : (t254 != 0) = false := bne_eq_false_iff_eq.mpr c60
      clear c60
      (first | rw [c60b0] | (simp only [i64_w, i32_w]; rw [c60b0]) | skip)
      replace H := Option.bind_eq_some_iff.mp H
      obtain ⟨t262, A610, H⟩ := H
      replace H : (pelotonlaw15_MsgBack.j2 kj14 t251 ((strOfNums t251).toList != (strOfNums t262).toList) a0_0 a0_1 a0_2 a0_3 a0_4 a0_5 a0_6 a0_7 l0_8) = some r := H
      have A61 := Aside0.mk A610
      clear A610
      have H' := Aside0.mk H
      clear H
      try go_wp2
      replace HO_4 := Aside0.mk (Kd.R_drew HO_4.out)
      replace HO_237008 := Aside0.mk (Kd.V_drew HO_237008.out)
      replace HO_251008 := Aside0.mk (Kd.R_drew HO_251008.out)
      replace BK236 := Aside0.mk (k_d BK236.out)
      replace BK250 := Aside0.mk (k_d BK250.out)
      replace HB := Aside0.mk (b_d HB.out)
      refine start_ (n := 10) (S := fun w' => w'.cell? ⟨gb236, 0, none⟩ = some (.int .i64 a0_0) ∧ w'.cell? ⟨gb236, 1, none⟩ = some (.int .i64 a0_1) ∧ w'.cell? ⟨gb236, 2, none⟩ = some (.int .i64 a0_2) ∧ w'.cell? ⟨gb236, 3, none⟩ = some (.int .i64 a0_3) ∧ w'.cell? ⟨gb236, 4, none⟩ = some (.int .i64 a0_4) ∧ w'.cell? ⟨gb236, 5, none⟩ = some (.int .i64 a0_5) ∧ w'.cell? ⟨gb236, 6, none⟩ = some (.int .i64 a0_6) ∧ w'.cell? ⟨gb236, 7, none⟩ = some (.int .i64 a0_7) ∧ w'.cell? ⟨gb236, 8, none⟩ = some (.slice A0_8 l0_8.length c0_8) ∧ (convert 29 9 (v252)).run Try.prog w' = .ok (.string (strOfNums t251)) w') (ds := []) #[false, false, false, false, false, false, false, false, false, false] (by kernel_rfl) rfl rfl ⟨(blk_cell BK236.out 0).trans rfl, (blk_cell BK236.out 1).trans rfl, (blk_cell BK236.out 2).trans rfl, (blk_cell BK236.out 3).trans rfl, (blk_cell BK236.out 4).trans rfl, (blk_cell BK236.out 5).trans rfl, (blk_cell BK236.out 6).trans rfl, (blk_cell BK236.out 7).trans rfl, (blk_cell BK236.out 8).trans rfl, (own_string (P := Try.prog) Try.underlying29 Try.underlying5 Try.underlying9 (Kd.own_of_R HO_4.out))⟩ (fun hHeld => ?_); refine with_tabW pelotonlaw15_MsgBack.tab10 pelotonlaw15_MsgBack.bits10 (fun HT_ HW_ => ?_)
      generalize wc.drew = w62 at HO_4 HO_237008 HO_251008 BK236 BK250 HB hHeld ⊢
      refine pu_ (i := 0) (N := some 53) (bs_ 10 1) rfl rfl HT_ ?_
      refine pu_ (i := 1) (N := some 54) (bs_ 10 3) rfl rfl HT_ ?_
      refine pu_ (i := 2) (N := some 55) (bs_ 10 7) rfl rfl HT_ ?_
      refine pu_ (i := 3) (N := some 56) (bs_ 10 15) rfl rfl HT_ ?_
      refine take_ (i := 4) (N := some 57) (v := ?_) (a' := ?_) (bs_ 10 31) rfl rfl (take_ofW HT_.out HW_.out (by kernel_rfl)) (fun _ _ _ h => h) (Or.inl ⟨by rfl, ?_⟩) hHeld ?_ ?_
      rotate_left
      ·
       rintro w' ⟨s0, s1, s2, s3, s4, s5, s6, s7, s8, s9⟩
       go_simp
       with_reducible rfl
      rotate_left
      ·
       simp only [Act.put, l_1, l_2, l_3, i64_w, i32_w]
       rfl
      refine take_ (i := 5) (N := some 58) (v := ?_) (a' := ?_) (bs_ 10 63) rfl rfl (take_ofW HT_.out HW_.out (by kernel_rfl)) (fun _ _ _ h => h) (Or.inl ⟨by rfl, ?_⟩) hHeld ?_ ?_
      rotate_left
      ·
       rintro w' ⟨s0, s1, s2, s3, s4, s5, s6, s7, s8, s9⟩
       go_simp
       with_reducible rfl
      rotate_left
      ·
       simp only [Act.put, l_1, l_2, l_3, i64_w, i32_w]
       rfl
      refine one_ (i := 6) (N := some 59) (bs_ 10 127) rfl rfl (one_of HT_.out (by kernel_rfl)) (by decide) (fun K hK => ?_)
      refine goes_ Try.func17 (by kernel_rfl) rfl #[.agg #[.int .i64 a0_0, .int .i64 a0_1, .int .i64 a0_2, .int .i64 a0_3, .int .i64 a0_4, .int .i64 a0_5, .int .i64 a0_6, .int .i64 a0_7, .slice A0_8 l0_8.length c0_8]] (by rfl) rfl rfl (by (try simp only [l_4, l_5, l_6]); first | done | rfl | (simp only [l_7, l_8]; rfl)) ?_
      with_reducible refine (pelotonref15_Bytes.calls kj14 a0_0 a0_1 a0_2 a0_3 a0_4 a0_5 a0_6 a0_7 _ _ l0_8 t262 _ ?side1 ?side2 A61.out).mono ?_
      (case side1 => repeat (first | exact (Kd.V_reads' HO_237008.out).2.2 | (with_reducible refine Kd.C_alloc ?_ _) | (with_reducible refine Kd.C_drewN ?_ _) | (with_reducible refine Kd.C_drew ?_)))
      (case side2 => exact (Kd.V_reads' HO_237008.out).2.1)
      rintro e w64 ⟨v263, rfl, ho0, hb⟩
      refine ⟨_, rfl, ?_⟩
      have HO264 := Aside0.mk (Kd.R_lower (Kd.R_new' (Kd.R_newM (M := fun k_ => (w.heap.size ≤ k_)) ho0 (below_size (bw_ HB)) (fun k_ h_ => h_)) (Kd.R_lt (tR_ HO_4))) (below_size (bw_ HB)))
      replace HO_4 := Aside0.mk (Kd.R_elder' (tR_ HO_4) (Kd.R_base ho0) hb)
      replace HO_237008 := Aside0.mk (Kd.V_elder' (tV_ HO_237008) (Kd.R_base ho0) hb)
      replace HO_251008 := Aside0.mk (Kd.R_below (tR_ HO_251008) hb)
      replace BK236 := Aside0.mk (blk_below (tk_ BK236) hb)
      replace BK250 := Aside0.mk (blk_below (tk_ BK250) hb)
      replace HB := Aside0.mk (below_step (bw_ HB) hb)
      (try clear hb)
      (try clear hb2)
      (try clear hk)
      (try clear hi)
      (try clear ho0)
      refine hK.out _ _ ⟨(blk_cell BK236.out 0).trans rfl, (blk_cell BK236.out 1).trans rfl, (blk_cell BK236.out 2).trans rfl, (blk_cell BK236.out 3).trans rfl, (blk_cell BK236.out 4).trans rfl, (blk_cell BK236.out 5).trans rfl, (blk_cell BK236.out 6).trans rfl, (blk_cell BK236.out 7).trans rfl, (blk_cell BK236.out 8).trans rfl, (own_string (P := Try.prog) Try.underlying29 Try.underlying5 Try.underlying9 (Kd.own_of_R HO_4.out))⟩ (fun hHeld => ?_)
      clear hK K
      refine no_ (N := some 59) ?_
      refine one_ (i := 7) (N := some 60) (bs_ 10 255) rfl rfl (one_of HT_.out (by kernel_rfl)) (by decide) (fun K hK => ?_)
      have hcv65 := own_string (P := Try.prog) Try.underlying29 Try.underlying5 Try.underlying9 (Kd.own_of_R HO264.out)
      refine value_ (w1 := ?_) (v := ?_) (by rfl) rfl ?_ ?_
      rotate_left 2
      ·
       go_simp
       constructor
       ·
        rfl
       ·
        rfl
      clear hcv65
      refine hK.out _ _ ⟨(blk_cell BK236.out 0).trans rfl, (blk_cell BK236.out 1).trans rfl, (blk_cell BK236.out 2).trans rfl, (blk_cell BK236.out 3).trans rfl, (blk_cell BK236.out 4).trans rfl, (blk_cell BK236.out 5).trans rfl, (blk_cell BK236.out 6).trans rfl, (blk_cell BK236.out 7).trans rfl, (blk_cell BK236.out 8).trans rfl, (own_string (P := Try.prog) Try.underlying29 Try.underlying5 Try.underlying9 (Kd.own_of_R HO_4.out))⟩ (fun hHeld => ?_)
      clear hK K
      refine no_ (N := some 60) ?_
      refine pu_ (i := 8) (N := some 61) (bs_ 10 511) rfl rfl HT_ ?_
      refine pu_ (i := 9) (N := some 62) (bs_ 10 1023) rfl rfl HT_ ?_
      refine done_ (done_of HT_.out (by kernel_rfl)) ?_
      try go_wp2
      go_meet
      case rel => exact ⟨_, (((strOfNums t251).toList != (strOfNums t262).toList)), (by first | rfl | (simp; done) | (simp [*]; done)), H', ⟨by have := HJ1.out; have := HJ14.out; first | exact Nat.le_refl _ | omega⟩, ⟨by (with_reducible repeat (first | apply Kd.R_alloc | apply Kd.R_drewN | apply Kd.R_drew)); exact Kd.R_mono HO_4.out (fun _ hk => hk.1)⟩, ⟨by (with_reducible repeat (first | apply Kd.V_alloc | apply Kd.V_drewN | apply Kd.V_drew)); exact Kd.V_mono HO_237008.out (fun x_ hk => by first | exact ⟨hk.1, ⟨hk.2.2.2.1, ⟨hk.2.2.1, ⟨hk.2.2.2.2.1, hk.2.2.2.2.2⟩⟩⟩⟩ | (obtain ⟨⟨h1, h2, h3, h4, h5⟩, h6⟩ := hk; exact ⟨by assumption, by assumption, by assumption, by assumption, by assumption⟩))⟩, ⟨tR_ HO_251008⟩, ⟨tk_ BK236⟩, ⟨tk_ BK250⟩, ⟨by repeat (first | (with_reducible first | exact HB.out | apply b_a | apply b_n | apply b_d | refine b_s ?_ GE236.out | refine b_s ?_ GE250.out) | exact HB.out)⟩⟩
     case rest => as_aux_lemma =>
      clear HC59
      try clear c1
      try clear c2
      try clear p2
      try clear c3
      try clear c4
      try clear c5
      try clear c6
      try clear hcv6
      try clear c7
      try clear c8
      try clear c9
      try clear c11
      try clear c12
      try clear c17
      try clear c19
      try clear c26
      try clear c26b0
      try clear c26b1
      try clear c26b2
      try clear c27
      try clear c34
      try clear c36
      try clear c48
      try clear c57
      try clear c58
      try clear c60
      try clear c60b0
      try clear c60b1
      try clear hcv65
      try clear hcz16_0
      try clear hcz16_1
      try clear hcz16_2
      try clear hcz16_3
      try clear hcz16_4
      try clear hcz16_5
      try clear hcz16_6
      try clear hcz16_7
      try clear hcz16_8
      try clear hcz20_0
      try clear hcz20_1
      try clear hcz20_2
      try clear hcz20_3
      try clear hcz20_4
      try clear hcz20_5
      try clear hcz20_6
      try clear hcz20_7
      try clear hcz20_8
      try clear hcz23_0
      try clear hcz23_1
      try clear hcz23_2
      try clear hcz23_3
      try clear hcz23_4
      try clear hcz23_5
      try clear hcz23_6
      try clear hcz23_7
      try clear hcz23_8
      try clear hcz28_0
      try clear hcz28_1
      try clear hcz28_2
      try clear hcz28_3
      try clear hcz28_4
      try clear hcz28_5
      try clear hcz28_6
      try clear hcz28_7
      try clear hcz28_8
      try clear hcz37_0
      try clear hcz37_1
      try clear hcz37_2
      try clear hcz37_3
      try clear hcz37_4
      try clear hcz37_5
      try clear hcz37_6
      try clear hcz37_7
      try clear hcz37_8
      try clear hcz42_0
      try clear hcz42_1
      try clear hcz42_2
      try clear hcz42_3
      try clear hcz42_4
      try clear hcz42_5
      try clear hcz42_6
      try clear hcz42_7
      try clear hcz42_8
      try clear hcz43_0
      try clear hcz43_1
      try clear hcz43_2
      try clear hcz43_3
      try clear hcz43_4
      try clear hcz43_5
      try clear hcz43_6
      try clear hcz43_7
      try clear hcz43_8
      try clear hcz45_0
      try clear hcz45_1
      try clear hcz45_2
      try clear hcz45_3
      try clear hcz45_4
      try clear hcz45_5
      try clear hcz45_6
      try clear hcz45_7
      try clear hcz45_8
      try clear hcz46_0
      try clear hcz46_1
      try clear hcz46_2
      try clear hcz46_3
      try clear hcz46_4
      try clear hcz46_5
      try clear hcz46_6
      try clear hcz46_7
      try clear hcz46_8
      try clear hcz49_0
      try clear hcz49_1
      try clear hcz49_2
      try clear hcz49_3
      try clear hcz49_4
      try clear hcz49_5
      try clear hcz49_6
      try clear hcz49_7
      try clear hcz49_8
      try clear hcz54_0
      try clear hcz54_1
      try clear hcz54_2
      try clear hcz54_3
      try clear hcz54_4
      try clear hcz54_5
      try clear hcz54_6
      try clear hcz54_7
      try clear hcz54_8
      try clear hcz55_0
      try clear hcz55_1
      try clear hcz55_2
      try clear hcz55_3
      try clear hcz55_4
      try clear hcz55_5
      try clear hcz55_6
      try clear hcz55_7
      try clear hcz55_8
      try clear hcz7_0
      try clear hcz7_1
      try clear hcz7_2
      try clear hcz7_3
      try clear hcz7_4
      try clear hcz7_5
      try clear hcz7_6
      try clear hcz7_7
      try clear hcz7_8
      try clear hfz16_0
      try clear hfz16_1
      try clear hfz16_2
      try clear hfz16_3
      try clear hfz16_4
      try clear hfz16_5
      try clear hfz16_6
      try clear hfz16_7
      try clear hfz16_8
      try clear hfz20_0
      try clear hfz20_1
      try clear hfz20_2
      try clear hfz20_3
      try clear hfz20_4
      try clear hfz20_5
      try clear hfz20_6
      try clear hfz20_7
      try clear hfz20_8
      try clear hfz23_0
      try clear hfz23_1
      try clear hfz23_2
      try clear hfz23_3
      try clear hfz23_4
      try clear hfz23_5
      try clear hfz23_6
      try clear hfz23_7
      try clear hfz23_8
      try clear hfz28_0
      try clear hfz28_1
      try clear hfz28_2
      try clear hfz28_3
      try clear hfz28_4
      try clear hfz28_5
      try clear hfz28_6
      try clear hfz28_7
      try clear hfz28_8
      try clear hfz37_0
      try clear hfz37_1
      try clear hfz37_2
      try clear hfz37_3
      try clear hfz37_4
      try clear hfz37_5
      try clear hfz37_6
      try clear hfz37_7
      try clear hfz37_8
      try clear hfz42_0
      try clear hfz42_1
      try clear hfz42_2
      try clear hfz42_3
      try clear hfz42_4
      try clear hfz42_5
      try clear hfz42_6
      try clear hfz42_7
      try clear hfz42_8
      try clear hfz43_0
      try clear hfz43_1
      try clear hfz43_2
      try clear hfz43_3
      try clear hfz43_4
      try clear hfz43_5
      try clear hfz43_6
      try clear hfz43_7
      try clear hfz43_8
      try clear hfz45_0
      try clear hfz45_1
      try clear hfz45_2
      try clear hfz45_3
      try clear hfz45_4
      try clear hfz45_5
      try clear hfz45_6
      try clear hfz45_7
      try clear hfz45_8
      try clear hfz46_0
      try clear hfz46_1
      try clear hfz46_2
      try clear hfz46_3
      try clear hfz46_4
      try clear hfz46_5
      try clear hfz46_6
      try clear hfz46_7
      try clear hfz46_8
      try clear hfz49_0
      try clear hfz49_1
      try clear hfz49_2
      try clear hfz49_3
      try clear hfz49_4
      try clear hfz49_5
      try clear hfz49_6
      try clear hfz49_7
      try clear hfz49_8
      try clear hfz54_0
      try clear hfz54_1
      try clear hfz54_2
      try clear hfz54_3
      try clear hfz54_4
      try clear hfz54_5
      try clear hfz54_6
      try clear hfz54_7
      try clear hfz54_8
      try clear hfz55_0
      try clear hfz55_1
      try clear hfz55_2
      try clear hfz55_3
      try clear hfz55_4
      try clear hfz55_5
      try clear hfz55_6
      try clear hfz55_7
      try clear hfz55_8
      try clear hfz7_0
      try clear hfz7_1
      try clear hfz7_2
      try clear hfz7_3
      try clear hfz7_4
      try clear hfz7_5
      try clear hfz7_6
      try clear hfz7_7
      try clear hfz7_8
      try clear p2
      obtain ⟨kq, x62_58, rfl, HA, HJ58, HO_4, HO_237008, HO_251008, BK236, BK250, HB⟩ := hcut
      cases kq with
      | zero => exact absurd HA.out (by simp [pelotonlaw15_MsgBack.j2])
      | succ kj58 =>
       have H := HA.out
       clear HA
       simp only [pelotonlaw15_MsgBack.j2] at H
       by_cases c68 : x62_58 = true
       ·
        subst c68
        have H1 : (some false) = some r := by rw [if_pos rfl] at H; exact H
        clear H
        have H := H1
        clear H1
        obtain rfl := Option.some.inj H
        go_wp2_with (first | ((with_reducible refine gate_store_ rfl ?_); refine st1_ rfl rfl rfl rfl rfl (by with_reducible assumption) (by simp) (by kernel_rfl) ?_))
        go_ret
        exact ⟨by first | rfl | (simp [errW_none, errW_some] <;> rfl) | (simp [*, errW_none, errW_some] <;> rfl), by repeat (first | (with_reducible first | exact HB.out | apply b_a | apply b_n | apply b_d | refine b_s ?_ GE236.out | refine b_s ?_ GE250.out) | exact HB.out)⟩
       replace c68 := Bool.eq_false_iff.mpr c68
       subst c68
       have H1 : ((msg_Parse.f kj58 t251).bind fun bt265 => (if bt265.2.2.2.2.2.2.2.2.2 = 0 then ((pelotonref15_Same.f kj58 bt265.1 bt265.2.1 bt265.2.2.1 bt265.2.2.2.1 bt265.2.2.2.2.1 bt265.2.2.2.2.2.1 bt265.2.2.2.2.2.2.1 bt265.2.2.2.2.2.2.2.1 bt265.2.2.2.2.2.2.2.2.1 a0_0 a0_1 a0_2 a0_3 a0_4 a0_5 a0_6 a0_7 l0_8).bind fun t278 => (some t278)) else (some false))) = some r := by rw [if_neg (show ¬ (false = true) by decide)] at H; exact H
       clear H
       have H := H1
       clear H1
       replace H := Option.bind_eq_some_iff.mp H
       obtain ⟨⟨t265, t266, t267, t268, t269, t270, t271, t272, t273, t276⟩, A690, H⟩ := H
       replace H : (if t276 = 0 then ((pelotonref15_Same.f kj58 t265 t266 t267 t268 t269 t270 t271 t272 t273 a0_0 a0_1 a0_2 a0_3 a0_4 a0_5 a0_6 a0_7 l0_8).bind fun t278 => (some t278)) else (some false)) = some r := H
       have A69 := Aside0.mk A690
       clear A690
       by_cases c70 : t276 = 0
       rotate_left
       ·
        rw [if_neg c70] at H
        have c70b0 : (t276 == 0) = false := beq_eq_false_iff_ne.mpr c70
        have c70b1 : (t276 != 0) = true := bne_iff_ne.mpr c70
        obtain rfl := Option.some.inj H
        obtain ⟨Ao82, co82, eo82⟩ := Kd.R_slice HO_4.out
        subst eo82
        go_wp2_with (first | ((with_reducible refine gate_callee (f := 15) rfl ?_); refine goesL_ (some 65) rfl rfl Try.func15 (by kernel_rfl) rfl #[.slice Ao82 t251.length co82] rfl (by (try simp only [l_4, l_5, l_6]); first | done | rfl | (simp only [l_7, l_8]; rfl)) ?_; (with_reducible refine (msg_Parse.calls kj58 _ _ t251 t265 t266 t267 t268 t269 t270 t271 t272 t273 t276 _ ?side1 ?side2 A69.out).mono ?_); (case side1 => repeat (first | exact (Kd.R_reads' HO_4.out).2.2 | (with_reducible refine Kd.C_alloc ?_ _) | (with_reducible refine Kd.C_drewN ?_ _) | (with_reducible refine Kd.C_drew ?_))); (case side2 => exact (Kd.R_reads' HO_4.out).2.1); rintro e w83 ⟨v274, rfl, ho0, hb⟩; (try clear A69); refine ⟨_, rfl, ?_⟩; have HO275 := Aside0.mk (Kd.R_lower (Kd.R_new' (Kd.R_newM (M := fun k_ => (w.heap.size ≤ k_)) ho0 (below_size (bw_ HB)) (fun k_ h_ => h_)) (Kd.R_lt (tR_ HO_251008))) (below_size (bw_ HB))); replace HO_4 := Aside0.mk (Kd.R_below (tR_ HO_4) hb); replace HO_237008 := Aside0.mk (Kd.V_elder' (tV_ HO_237008) (Kd.R_base ho0) hb); replace HO_251008 := Aside0.mk (Kd.R_elder' (tR_ HO_251008) (Kd.R_base ho0) hb); replace BK236 := Aside0.mk (blk_below (tk_ BK236) hb); replace BK250 := Aside0.mk (blk_below (tk_ BK250) hb); replace HB := Aside0.mk (below_step (bw_ HB) hb); (try clear hb); (try clear hb2); (try clear hk); (try clear hi); (try clear ho0)) | ((with_reducible refine gate_dst (N := 7) rfl ?_); (try (refine gate_guard (by rfl) ?_; dsimp only)); refine box_event ?hg (N := 7) ?hd (cs := #[.int .i64 0, .int .i64 0, .int .i64 0, .int .i64 0, .int .i64 0, .int .i64 0, .int .i64 0, .int .i64 0, .slice none 0 0]) (t := 24) ?hr ?_; (case hd => rfl); (case hg => rfl); (case hr => first | (go_simp; done) | (go_simp; rfl)); intro gb277 hg w84 hbox hb; have BK277 := Aside0.mk (hbox); have GW277 := Aside0.mk ((by rw [hg]; exact (below_size (bw_ HB)) : w.heap.size ≤ gb277)); have GE277 := Aside0.mk ((by rw [hg]; exact (below_size (bw_ HB)) : w.heap.size ≤ gb277)); have NB236_277 := Aside0.mk ((by rw [hg]; exact Nat.ne_of_lt (blk_lt (tk_ BK236)) : gb236 ≠ gb277)); have NB277_236 := Aside0.mk ((by rw [hg]; exact Nat.ne_of_gt (blk_lt (tk_ BK236)) : gb277 ≠ gb236)); have NB250_277 := Aside0.mk ((by rw [hg]; exact Nat.ne_of_lt (blk_lt (tk_ BK250)) : gb250 ≠ gb277)); have NB277_250 := Aside0.mk ((by rw [hg]; exact Nat.ne_of_gt (blk_lt (tk_ BK250)) : gb277 ≠ gb250)); replace HO_4 := Aside0.mk (Kd.R_below (tR_ HO_4) hb); replace HO_237008 := Aside0.mk (Kd.V_below (Kd.V_elderB (tV_ HO_237008) gb277 (Nat.le_of_eq hg.symm)) hb); replace HO_251008 := Aside0.mk (Kd.R_below (tR_ HO_251008) hb); replace HO275 := Aside0.mk (Kd.R_below (tR_ HO275) hb); replace BK236 := Aside0.mk (blk_below (tk_ BK236) hb); replace BK250 := Aside0.mk (blk_below (tk_ BK250) hb); replace HB := Aside0.mk (below_step (bw_ HB) hb); clear hb hbox hg; have hnb85 := NB277_236.out; have hnc85 := NB236_277.out; have hnb86 := NB277_250.out; have hnc86 := NB250_277.out; have hcz87_0 := bc_0 BK277; have hcz87_1 := bc_1 BK277; have hcz87_2 := bc_2 BK277; have hcz87_3 := bc_3 BK277; have hcz87_4 := bc_4 BK277; have hcz87_5 := bc_5 BK277; have hcz87_6 := bc_6 BK277; have hcz87_7 := bc_7 BK277; have hcz87_8 : w84.cell? ⟨gb277, 8, none⟩ = some (.slice none 0 0) := (blk_cell BK277.out 8).trans rfl; have hfz87_0 := blk_frozen BK277.out 0; have hfz87_1 := blk_frozen BK277.out 1; have hfz87_2 := blk_frozen BK277.out 2; have hfz87_3 := blk_frozen BK277.out 3; have hfz87_4 := blk_frozen BK277.out 4; have hfz87_5 := blk_frozen BK277.out 5; have hfz87_6 := blk_frozen BK277.out 6; have hfz87_7 := blk_frozen BK277.out 7; have hfz87_8 := blk_frozen BK277.out 8; obtain ⟨Ao88, co88, eo88⟩ := Kd.R_slice HO275.out; subst eo88; (first | ((with_reducible refine gate_store_ rfl ?_); refine st9_ rfl rfl rfl rfl rfl (by with_reducible assumption) (by kernel_rfl) (by simp [Value.oneCell']) ?_; clear hcz87_0 hfz87_0 hcz87_1 hfz87_1 hcz87_2 hfz87_2 hcz87_3 hfz87_3 hcz87_4 hfz87_4 hcz87_5 hfz87_5 hcz87_6 hfz87_6 hcz87_7 hfz87_7 hcz87_8 hfz87_8; intro hb9_; have BN87 := Aside0.mk hb9_; clear hb9_) | skip)) | ((with_reducible refine gate_dst (N := 71) rfl ?_); (try (refine gate_guard (by rfl) ?_; dsimp only)); refine wpList_load_row rfl 24 _ rfl gb277 rfl _ _ _ _ BN87.out Try.underlying24 rfl (by kernel_rfl) ?_; clear BN87) | ((with_reducible refine gate_dst (N := 72) rfl ?_); (try (refine gate_guard (by rfl) ?_; dsimp only)); refine wpList_load_row rfl 24 _ rfl gb236 rfl _ _ _ _ ((Below.heap_setCell _ _ _ _ NB236_277.out).trans ((Below.heap_setCell _ _ _ _ NB236_277.out).trans ((Below.heap_setCell _ _ _ _ NB236_277.out).trans ((Below.heap_setCell _ _ _ _ NB236_277.out).trans ((Below.heap_setCell _ _ _ _ NB236_277.out).trans ((Below.heap_setCell _ _ _ _ NB236_277.out).trans ((Below.heap_setCell _ _ _ _ NB236_277.out).trans ((Below.heap_setCell _ _ _ _ NB236_277.out).trans ((Below.heap_setCell _ _ _ _ NB236_277.out).trans BK236.out))))))))) Try.underlying24 rfl (by kernel_rfl) ?_))
        go_ret
        exact ⟨by first | rfl | (simp [errW_none, errW_some] <;> rfl) | (simp [*, errW_none, errW_some] <;> rfl), by repeat (first | (with_reducible first | exact HB.out | apply b_a | apply b_n | apply b_d | refine b_s ?_ GE236.out | refine b_s ?_ GE250.out | refine b_s ?_ GE277.out) | exact HB.out)⟩
       rw [if_pos c70] at H
       have c70b0 : (t276 == 0) = true := beq_iff_eq.mpr c70
       have c70b1 : (t276 != 0) = false := bne_eq_false_iff_eq.mpr c70
       clear c70
       replace H := Option.bind_eq_some_iff.mp H
       obtain ⟨t278, A710, H⟩ := H
       replace H : (some t278) = some r := H
       have A71 := Aside0.mk A710
       clear A710
       obtain rfl := Option.some.inj H
       obtain ⟨Ao72, co72, eo72⟩ := Kd.R_slice HO_4.out
       subst eo72
       go_wp2_with (first | ((with_reducible refine gate_callee (f := 15) rfl ?_); refine goesL_ (some 65) rfl rfl Try.func15 (by kernel_rfl) rfl #[.slice Ao72 t251.length co72] rfl (by (try simp only [l_4, l_5, l_6]); first | done | rfl | (simp only [l_7, l_8]; rfl)) ?_; (with_reducible refine (msg_Parse.calls kj58 _ _ t251 t265 t266 t267 t268 t269 t270 t271 t272 t273 t276 _ ?side1 ?side2 A69.out).mono ?_); (case side1 => repeat (first | exact (Kd.R_reads' HO_4.out).2.2 | (with_reducible refine Kd.C_alloc ?_ _) | (with_reducible refine Kd.C_drewN ?_ _) | (with_reducible refine Kd.C_drew ?_))); (case side2 => exact (Kd.R_reads' HO_4.out).2.1); rintro e w73 ⟨v274, rfl, ho0, hb⟩; (try clear A69); refine ⟨_, rfl, ?_⟩; have HO275 := Aside0.mk (Kd.R_lower (Kd.R_new' (Kd.R_newM (M := fun k_ => (w.heap.size ≤ k_)) ho0 (below_size (bw_ HB)) (fun k_ h_ => h_)) (Kd.R_lt (tR_ HO_251008))) (below_size (bw_ HB))); replace HO_4 := Aside0.mk (Kd.R_below (tR_ HO_4) hb); replace HO_237008 := Aside0.mk (Kd.V_elder' (tV_ HO_237008) (Kd.R_base ho0) hb); replace HO_251008 := Aside0.mk (Kd.R_elder' (tR_ HO_251008) (Kd.R_base ho0) hb); replace BK236 := Aside0.mk (blk_below (tk_ BK236) hb); replace BK250 := Aside0.mk (blk_below (tk_ BK250) hb); replace HB := Aside0.mk (below_step (bw_ HB) hb); (try clear hb); (try clear hb2); (try clear hk); (try clear hi); (try clear ho0)) | ((with_reducible refine gate_dst (N := 7) rfl ?_); (try (refine gate_guard (by rfl) ?_; dsimp only)); refine box_event ?hg (N := 7) ?hd (cs := #[.int .i64 0, .int .i64 0, .int .i64 0, .int .i64 0, .int .i64 0, .int .i64 0, .int .i64 0, .int .i64 0, .slice none 0 0]) (t := 24) ?hr ?_; (case hd => rfl); (case hg => rfl); (case hr => first | (go_simp; done) | (go_simp; rfl)); intro gb277 hg w74 hbox hb; have BK277 := Aside0.mk (hbox); have GW277 := Aside0.mk ((by rw [hg]; exact (below_size (bw_ HB)) : w.heap.size ≤ gb277)); have GE277 := Aside0.mk ((by rw [hg]; exact (below_size (bw_ HB)) : w.heap.size ≤ gb277)); have NB236_277 := Aside0.mk ((by rw [hg]; exact Nat.ne_of_lt (blk_lt (tk_ BK236)) : gb236 ≠ gb277)); have NB277_236 := Aside0.mk ((by rw [hg]; exact Nat.ne_of_gt (blk_lt (tk_ BK236)) : gb277 ≠ gb236)); have NB250_277 := Aside0.mk ((by rw [hg]; exact Nat.ne_of_lt (blk_lt (tk_ BK250)) : gb250 ≠ gb277)); have NB277_250 := Aside0.mk ((by rw [hg]; exact Nat.ne_of_gt (blk_lt (tk_ BK250)) : gb277 ≠ gb250)); replace HO_4 := Aside0.mk (Kd.R_below (tR_ HO_4) hb); replace HO_237008 := Aside0.mk (Kd.V_below (Kd.V_elderB (tV_ HO_237008) gb277 (Nat.le_of_eq hg.symm)) hb); replace HO_251008 := Aside0.mk (Kd.R_below (tR_ HO_251008) hb); replace HO275 := Aside0.mk (Kd.R_below (tR_ HO275) hb); replace BK236 := Aside0.mk (blk_below (tk_ BK236) hb); replace BK250 := Aside0.mk (blk_below (tk_ BK250) hb); replace HB := Aside0.mk (below_step (bw_ HB) hb); clear hb hbox hg; have hnb75 := NB277_236.out; have hnc75 := NB236_277.out; have hnb76 := NB277_250.out; have hnc76 := NB250_277.out; have hcz77_0 := bc_0 BK277; have hcz77_1 := bc_1 BK277; have hcz77_2 := bc_2 BK277; have hcz77_3 := bc_3 BK277; have hcz77_4 := bc_4 BK277; have hcz77_5 := bc_5 BK277; have hcz77_6 := bc_6 BK277; have hcz77_7 := bc_7 BK277; have hcz77_8 : w74.cell? ⟨gb277, 8, none⟩ = some (.slice none 0 0) := (blk_cell BK277.out 8).trans rfl; have hfz77_0 := blk_frozen BK277.out 0; have hfz77_1 := blk_frozen BK277.out 1; have hfz77_2 := blk_frozen BK277.out 2; have hfz77_3 := blk_frozen BK277.out 3; have hfz77_4 := blk_frozen BK277.out 4; have hfz77_5 := blk_frozen BK277.out 5; have hfz77_6 := blk_frozen BK277.out 6; have hfz77_7 := blk_frozen BK277.out 7; have hfz77_8 := blk_frozen BK277.out 8; obtain ⟨Ao78, co78, eo78⟩ := Kd.R_slice HO275.out; subst eo78; have hnb79 := NB236_250.out; have hnc79 := NB250_236.out; have hcz80_0 := bc_0 BK236; have hcz80_1 := bc_1 BK236; have hcz80_2 := bc_2 BK236; have hcz80_3 := bc_3 BK236; have hcz80_4 := bc_4 BK236; have hcz80_5 := bc_5 BK236; have hcz80_6 := bc_6 BK236; have hcz80_7 := bc_7 BK236; have hcz80_8 : w74.cell? ⟨gb236, 8, none⟩ = some (.slice A0_8 l0_8.length c0_8) := (blk_cell BK236.out 8).trans rfl; have hfz80_0 := blk_frozen BK236.out 0; have hfz80_1 := blk_frozen BK236.out 1; have hfz80_2 := blk_frozen BK236.out 2; have hfz80_3 := blk_frozen BK236.out 3; have hfz80_4 := blk_frozen BK236.out 4; have hfz80_5 := blk_frozen BK236.out 5; have hfz80_6 := blk_frozen BK236.out 6; have hfz80_7 := blk_frozen BK236.out 7; have hfz80_8 := blk_frozen BK236.out 8; (first | ((with_reducible refine gate_store_ rfl ?_); refine st9_ rfl rfl rfl rfl rfl (by with_reducible assumption) (by kernel_rfl) (by simp [Value.oneCell']) ?_; clear hcz77_0 hfz77_0 hcz77_1 hfz77_1 hcz77_2 hfz77_2 hcz77_3 hfz77_3 hcz77_4 hfz77_4 hcz77_5 hfz77_5 hcz77_6 hfz77_6 hcz77_7 hfz77_7 hcz77_8 hfz77_8 hcz80_0 hfz80_0 hcz80_1 hfz80_1 hcz80_2 hfz80_2 hcz80_3 hfz80_3 hcz80_4 hfz80_4 hcz80_5 hfz80_5 hcz80_6 hfz80_6 hcz80_7 hfz80_7 hcz80_8 hfz80_8; intro hb9_; have BN80 := Aside0.mk hb9_; clear hb9_) | skip)) | (go_at_call 13; (with_reducible refine (pelotonref15_Same.calls kj58 t265 t266 t267 t268 t269 t270 t271 t272 _ _ t273 a0_0 a0_1 a0_2 a0_3 a0_4 a0_5 a0_6 a0_7 _ _ l0_8 t278 _ ?side1 ?side2 ?side3 ?side4 A71.out).mono ?_); (case side1 => refine (Kd.R_reads' (e := 21) (base := w.heap.size) (ok := fun k_ => (((w.heap.size ≤ k_) ∧ True) ∧ some k_ ≠ (.slice Ao21 t247.length co21 : Value).ownBlock)) (n := t273.length) (c := co78) ?_).2.2; exact (by (with_reducible repeat (first | apply Kd.R_alloc | apply Kd.R_drewN | apply Kd.R_drew)); exact (Kd.R_mono (Kd.R_far (p := ⟨gb277, 8, none⟩) (Kd.R_far (p := ⟨gb277, 7, none⟩) (Kd.R_far (p := ⟨gb277, 6, none⟩) (Kd.R_far (p := ⟨gb277, 5, none⟩) (Kd.R_far (p := ⟨gb277, 4, none⟩) (Kd.R_far (p := ⟨gb277, 3, none⟩) (Kd.R_far (p := ⟨gb277, 2, none⟩) (Kd.R_far (p := ⟨gb277, 1, none⟩) (Kd.R_far (p := ⟨gb277, 0, none⟩) (Kd.R_types HO275.out BK277.out (by decide)) (fun _ hk => hk.2) (.int .i64 t265)) (fun _ hk => hk.2) (.int .i64 t266)) (fun _ hk => hk.2) (.int .i64 t267)) (fun _ hk => hk.2) (.int .i64 t268)) (fun _ hk => hk.2) (.int .i64 t269)) (fun _ hk => hk.2) (.int .i64 t270)) (fun _ hk => hk.2) (.int .i64 t271)) (fun _ hk => hk.2) (.int .i64 t272)) (fun _ hk => hk.2) (.slice Ao78 t273.length co78)) (fun _ h_ => h_.1)))); (case side2 => exact (Kd.R_reads' HO275.out).2.1); (case side3 => refine (Kd.V_reads' (e := 21) (base := w.heap.size) (ok := fun k_ => (((((P0_8_ k_ ∨ w.heap.size ≤ k_)) ∧ (some k_ ≠ (.slice Ao72 t251.length co72 : Value).ownBlock ∧ (some k_ ≠ (.slice Ao21 t247.length co21 : Value).ownBlock ∧ (k_ ≠ gb236 ∧ k_ ≠ gb250)))) ∧ some k_ ≠ (.slice Ao78 t273.length co78 : Value).ownBlock) ∧ k_ ≠ gb277)) (n := l0_8.length) (c := c0_8) ?_).2.2; exact (by (with_reducible repeat (first | apply Kd.V_alloc | apply Kd.V_drewN | apply Kd.V_drew)); exact (Kd.V_mono (Kd.V_far (p := ⟨gb277, 8, none⟩) (Kd.V_far (p := ⟨gb277, 7, none⟩) (Kd.V_far (p := ⟨gb277, 6, none⟩) (Kd.V_far (p := ⟨gb277, 5, none⟩) (Kd.V_far (p := ⟨gb277, 4, none⟩) (Kd.V_far (p := ⟨gb277, 3, none⟩) (Kd.V_far (p := ⟨gb277, 2, none⟩) (Kd.V_far (p := ⟨gb277, 1, none⟩) (Kd.V_far (p := ⟨gb277, 0, none⟩) (Kd.V_mono HO_237008.out (fun k_ hk => (⟨hk, hk.2⟩ : _ ∧ k_ ≠ gb277))) (fun _ hk => hk.2) (.int .i64 t265)) (fun _ hk => hk.2) (.int .i64 t266)) (fun _ hk => hk.2) (.int .i64 t267)) (fun _ hk => hk.2) (.int .i64 t268)) (fun _ hk => hk.2) (.int .i64 t269)) (fun _ hk => hk.2) (.int .i64 t270)) (fun _ hk => hk.2) (.int .i64 t271)) (fun _ hk => hk.2) (.int .i64 t272)) (fun _ hk => hk.2) (.slice Ao78 t273.length co78)) (fun _ h_ => h_.1)))); (case side4 => exact (Kd.V_reads' HO_237008.out).2.1); rintro e w81 ⟨rfl, hb⟩; (try clear A71); replace HO_4 := Aside0.mk (Kd.R_below (by (with_reducible repeat (first | apply Kd.R_alloc | apply Kd.R_drewN | apply Kd.R_drew)); exact (Kd.R_mono (Kd.R_far (p := ⟨gb277, 8, none⟩) (Kd.R_far (p := ⟨gb277, 7, none⟩) (Kd.R_far (p := ⟨gb277, 6, none⟩) (Kd.R_far (p := ⟨gb277, 5, none⟩) (Kd.R_far (p := ⟨gb277, 4, none⟩) (Kd.R_far (p := ⟨gb277, 3, none⟩) (Kd.R_far (p := ⟨gb277, 2, none⟩) (Kd.R_far (p := ⟨gb277, 1, none⟩) (Kd.R_far (p := ⟨gb277, 0, none⟩) (Kd.R_types HO_4.out BK277.out (by decide)) (fun _ hk => hk.2) (.int .i64 t265)) (fun _ hk => hk.2) (.int .i64 t266)) (fun _ hk => hk.2) (.int .i64 t267)) (fun _ hk => hk.2) (.int .i64 t268)) (fun _ hk => hk.2) (.int .i64 t269)) (fun _ hk => hk.2) (.int .i64 t270)) (fun _ hk => hk.2) (.int .i64 t271)) (fun _ hk => hk.2) (.int .i64 t272)) (fun _ hk => hk.2) (.slice Ao78 t273.length co78)) (fun _ h_ => h_.1))) hb); replace HO_237008 := Aside0.mk (Kd.V_below (by (with_reducible repeat (first | apply Kd.V_alloc | apply Kd.V_drewN | apply Kd.V_drew)); exact (Kd.V_mono (Kd.V_far (p := ⟨gb277, 8, none⟩) (Kd.V_far (p := ⟨gb277, 7, none⟩) (Kd.V_far (p := ⟨gb277, 6, none⟩) (Kd.V_far (p := ⟨gb277, 5, none⟩) (Kd.V_far (p := ⟨gb277, 4, none⟩) (Kd.V_far (p := ⟨gb277, 3, none⟩) (Kd.V_far (p := ⟨gb277, 2, none⟩) (Kd.V_far (p := ⟨gb277, 1, none⟩) (Kd.V_far (p := ⟨gb277, 0, none⟩) (Kd.V_mono HO_237008.out (fun k_ hk => (⟨hk, hk.2⟩ : _ ∧ k_ ≠ gb277))) (fun _ hk => hk.2) (.int .i64 t265)) (fun _ hk => hk.2) (.int .i64 t266)) (fun _ hk => hk.2) (.int .i64 t267)) (fun _ hk => hk.2) (.int .i64 t268)) (fun _ hk => hk.2) (.int .i64 t269)) (fun _ hk => hk.2) (.int .i64 t270)) (fun _ hk => hk.2) (.int .i64 t271)) (fun _ hk => hk.2) (.int .i64 t272)) (fun _ hk => hk.2) (.slice Ao78 t273.length co78)) (fun _ h_ => h_.1))) hb); replace HO_251008 := Aside0.mk (Kd.R_below (by (with_reducible repeat (first | apply Kd.R_alloc | apply Kd.R_drewN | apply Kd.R_drew)); exact (Kd.R_mono (Kd.R_far (p := ⟨gb277, 8, none⟩) (Kd.R_far (p := ⟨gb277, 7, none⟩) (Kd.R_far (p := ⟨gb277, 6, none⟩) (Kd.R_far (p := ⟨gb277, 5, none⟩) (Kd.R_far (p := ⟨gb277, 4, none⟩) (Kd.R_far (p := ⟨gb277, 3, none⟩) (Kd.R_far (p := ⟨gb277, 2, none⟩) (Kd.R_far (p := ⟨gb277, 1, none⟩) (Kd.R_far (p := ⟨gb277, 0, none⟩) (Kd.R_types HO_251008.out BK277.out (by decide)) (fun _ hk => hk.2) (.int .i64 t265)) (fun _ hk => hk.2) (.int .i64 t266)) (fun _ hk => hk.2) (.int .i64 t267)) (fun _ hk => hk.2) (.int .i64 t268)) (fun _ hk => hk.2) (.int .i64 t269)) (fun _ hk => hk.2) (.int .i64 t270)) (fun _ hk => hk.2) (.int .i64 t271)) (fun _ hk => hk.2) (.int .i64 t272)) (fun _ hk => hk.2) (.slice Ao78 t273.length co78)) (fun _ h_ => h_.1))) hb); replace HO275 := Aside0.mk (Kd.R_below (by (with_reducible repeat (first | apply Kd.R_alloc | apply Kd.R_drewN | apply Kd.R_drew)); exact (Kd.R_mono (Kd.R_far (p := ⟨gb277, 8, none⟩) (Kd.R_far (p := ⟨gb277, 7, none⟩) (Kd.R_far (p := ⟨gb277, 6, none⟩) (Kd.R_far (p := ⟨gb277, 5, none⟩) (Kd.R_far (p := ⟨gb277, 4, none⟩) (Kd.R_far (p := ⟨gb277, 3, none⟩) (Kd.R_far (p := ⟨gb277, 2, none⟩) (Kd.R_far (p := ⟨gb277, 1, none⟩) (Kd.R_far (p := ⟨gb277, 0, none⟩) (Kd.R_types HO275.out BK277.out (by decide)) (fun _ hk => hk.2) (.int .i64 t265)) (fun _ hk => hk.2) (.int .i64 t266)) (fun _ hk => hk.2) (.int .i64 t267)) (fun _ hk => hk.2) (.int .i64 t268)) (fun _ hk => hk.2) (.int .i64 t269)) (fun _ hk => hk.2) (.int .i64 t270)) (fun _ hk => hk.2) (.int .i64 t271)) (fun _ hk => hk.2) (.int .i64 t272)) (fun _ hk => hk.2) (.slice Ao78 t273.length co78)) (fun _ h_ => h_.1))) hb); replace BK236 := Aside0.mk (blk_below (g := gb236) (o := .cells #[.int .i64 a0_0, .int .i64 a0_1, .int .i64 a0_2, .int .i64 a0_3, .int .i64 a0_4, .int .i64 a0_5, .int .i64 a0_6, .int .i64 a0_7, .slice A0_8 l0_8.length c0_8] 24 (0, 0)) (by (with_reducible repeat (first | refine k_n ?_ _ | refine k_d ?_ | refine k_a ?_ _)); refine blk_far ?_ NB236_277.out _; (with_reducible repeat (first | refine k_n ?_ _ | refine k_d ?_ | refine k_a ?_ _)); refine blk_far ?_ NB236_277.out _; (with_reducible repeat (first | refine k_n ?_ _ | refine k_d ?_ | refine k_a ?_ _)); refine blk_far ?_ NB236_277.out _; (with_reducible repeat (first | refine k_n ?_ _ | refine k_d ?_ | refine k_a ?_ _)); refine blk_far ?_ NB236_277.out _; (with_reducible repeat (first | refine k_n ?_ _ | refine k_d ?_ | refine k_a ?_ _)); refine blk_far ?_ NB236_277.out _; (with_reducible repeat (first | refine k_n ?_ _ | refine k_d ?_ | refine k_a ?_ _)); refine blk_far ?_ NB236_277.out _; (with_reducible repeat (first | refine k_n ?_ _ | refine k_d ?_ | refine k_a ?_ _)); refine blk_far ?_ NB236_277.out _; (with_reducible repeat (first | refine k_n ?_ _ | refine k_d ?_ | refine k_a ?_ _)); refine blk_far ?_ NB236_277.out _; (with_reducible repeat (first | refine k_n ?_ _ | refine k_d ?_ | refine k_a ?_ _)); refine blk_far ?_ NB236_277.out _; (with_reducible repeat (first | refine k_n ?_ _ | refine k_d ?_ | refine k_a ?_ _)); exact BK236.out) hb); replace BK250 := Aside0.mk (blk_below (g := gb250) (o := .cells #[.int .i64 t239, .int .i64 t240, .int .i64 t241, .int .i64 t242, .int .i64 t243, .int .i64 t244, .int .i64 t245, .int .i64 t246, .slice Ao21 t247.length co21] 24 (0, 0)) (by (with_reducible repeat (first | refine k_n ?_ _ | refine k_d ?_ | refine k_a ?_ _)); refine blk_far ?_ NB250_277.out _; (with_reducible repeat (first | refine k_n ?_ _ | refine k_d ?_ | refine k_a ?_ _)); refine blk_far ?_ NB250_277.out _; (with_reducible repeat (first | refine k_n ?_ _ | refine k_d ?_ | refine k_a ?_ _)); refine blk_far ?_ NB250_277.out _; (with_reducible repeat (first | refine k_n ?_ _ | refine k_d ?_ | refine k_a ?_ _)); refine blk_far ?_ NB250_277.out _; (with_reducible repeat (first | refine k_n ?_ _ | refine k_d ?_ | refine k_a ?_ _)); refine blk_far ?_ NB250_277.out _; (with_reducible repeat (first | refine k_n ?_ _ | refine k_d ?_ | refine k_a ?_ _)); refine blk_far ?_ NB250_277.out _; (with_reducible repeat (first | refine k_n ?_ _ | refine k_d ?_ | refine k_a ?_ _)); refine blk_far ?_ NB250_277.out _; (with_reducible repeat (first | refine k_n ?_ _ | refine k_d ?_ | refine k_a ?_ _)); refine blk_far ?_ NB250_277.out _; (with_reducible repeat (first | refine k_n ?_ _ | refine k_d ?_ | refine k_a ?_ _)); refine blk_far ?_ NB250_277.out _; (with_reducible repeat (first | refine k_n ?_ _ | refine k_d ?_ | refine k_a ?_ _)); exact BK250.out) hb); replace BK277 := Aside0.mk (blk_below (g := gb277) (o := .cells #[.int .i64 t265, .int .i64 t266, .int .i64 t267, .int .i64 t268, .int .i64 t269, .int .i64 t270, .int .i64 t271, .int .i64 t272, .slice Ao78 t273.length co78] 24 (0, 0)) (by (with_reducible repeat (first | refine k_n ?_ _ | refine k_d ?_ | refine k_a ?_ _)); refine blk_put (cs := #[.int .i64 t265, .int .i64 t266, .int .i64 t267, .int .i64 t268, .int .i64 t269, .int .i64 t270, .int .i64 t271, .int .i64 t272, .slice none 0 0]) ?_ 8 _ rfl; (with_reducible repeat (first | refine k_n ?_ _ | refine k_d ?_ | refine k_a ?_ _)); refine blk_put (cs := #[.int .i64 t265, .int .i64 t266, .int .i64 t267, .int .i64 t268, .int .i64 t269, .int .i64 t270, .int .i64 t271, .int .i64 0, .slice none 0 0]) ?_ 7 _ rfl; (with_reducible repeat (first | refine k_n ?_ _ | refine k_d ?_ | refine k_a ?_ _)); refine blk_put (cs := #[.int .i64 t265, .int .i64 t266, .int .i64 t267, .int .i64 t268, .int .i64 t269, .int .i64 t270, .int .i64 0, .int .i64 0, .slice none 0 0]) ?_ 6 _ rfl; (with_reducible repeat (first | refine k_n ?_ _ | refine k_d ?_ | refine k_a ?_ _)); refine blk_put (cs := #[.int .i64 t265, .int .i64 t266, .int .i64 t267, .int .i64 t268, .int .i64 t269, .int .i64 0, .int .i64 0, .int .i64 0, .slice none 0 0]) ?_ 5 _ rfl; (with_reducible repeat (first | refine k_n ?_ _ | refine k_d ?_ | refine k_a ?_ _)); refine blk_put (cs := #[.int .i64 t265, .int .i64 t266, .int .i64 t267, .int .i64 t268, .int .i64 0, .int .i64 0, .int .i64 0, .int .i64 0, .slice none 0 0]) ?_ 4 _ rfl; (with_reducible repeat (first | refine k_n ?_ _ | refine k_d ?_ | refine k_a ?_ _)); refine blk_put (cs := #[.int .i64 t265, .int .i64 t266, .int .i64 t267, .int .i64 0, .int .i64 0, .int .i64 0, .int .i64 0, .int .i64 0, .slice none 0 0]) ?_ 3 _ rfl; (with_reducible repeat (first | refine k_n ?_ _ | refine k_d ?_ | refine k_a ?_ _)); refine blk_put (cs := #[.int .i64 t265, .int .i64 t266, .int .i64 0, .int .i64 0, .int .i64 0, .int .i64 0, .int .i64 0, .int .i64 0, .slice none 0 0]) ?_ 2 _ rfl; (with_reducible repeat (first | refine k_n ?_ _ | refine k_d ?_ | refine k_a ?_ _)); refine blk_put (cs := #[.int .i64 t265, .int .i64 0, .int .i64 0, .int .i64 0, .int .i64 0, .int .i64 0, .int .i64 0, .int .i64 0, .slice none 0 0]) ?_ 1 _ rfl; (with_reducible repeat (first | refine k_n ?_ _ | refine k_d ?_ | refine k_a ?_ _)); refine blk_put (cs := #[.int .i64 0, .int .i64 0, .int .i64 0, .int .i64 0, .int .i64 0, .int .i64 0, .int .i64 0, .int .i64 0, .slice none 0 0]) ?_ 0 _ rfl; (with_reducible repeat (first | refine k_n ?_ _ | refine k_d ?_ | refine k_a ?_ _)); exact BK277.out) hb); replace HB := Aside0.mk (below_step (bw_ HB) hb); (try clear hb); (try clear hb2); (try clear hk); (try clear hi)) | ((with_reducible refine gate_dst (N := 71) rfl ?_); (try (refine gate_guard (by rfl) ?_; dsimp only)); refine wpList_load_row rfl 24 _ rfl gb277 rfl _ _ _ _ BN80.out Try.underlying24 rfl (by kernel_rfl) ?_; clear BN80) | ((with_reducible refine gate_dst (N := 72) rfl ?_); (try (refine gate_guard (by rfl) ?_; dsimp only)); refine wpList_load_row rfl 24 _ rfl gb236 rfl _ _ _ _ ((Below.heap_setCell _ _ _ _ NB236_277.out).trans ((Below.heap_setCell _ _ _ _ NB236_277.out).trans ((Below.heap_setCell _ _ _ _ NB236_277.out).trans ((Below.heap_setCell _ _ _ _ NB236_277.out).trans ((Below.heap_setCell _ _ _ _ NB236_277.out).trans ((Below.heap_setCell _ _ _ _ NB236_277.out).trans ((Below.heap_setCell _ _ _ _ NB236_277.out).trans ((Below.heap_setCell _ _ _ _ NB236_277.out).trans ((Below.heap_setCell _ _ _ _ NB236_277.out).trans BK236.out))))))))) Try.underlying24 rfl (by kernel_rfl) ?_))
       go_ret
       exact ⟨by first | rfl | (simp [errW_none, errW_some] <;> rfl) | (simp [*, errW_none, errW_some] <;> rfl), by repeat (first | (with_reducible first | exact HB.out | apply b_a | apply b_n | apply b_d | refine b_s ?_ GE236.out | refine b_s ?_ GE250.out | refine b_s ?_ GE277.out) | exact HB.out)⟩
/-- THE ONE PURE STATEMENT of pelotonlaw15_MsgBack. -/
def pelotonlaw15_MsgBack.Pure : Prop := ∀ (a0_0 : Int) (a0_1 : Int) (a0_2 : Int) (a0_3 : Int) (a0_4 : Int) (a0_5 : Int) (a0_6 : Int) (a0_7 : Int) (l0_8 : List Int), ((Lit.int .i64 a0_0).wf = true ∧ (Lit.int .i64 a0_1).wf = true ∧ (Lit.int .i64 a0_2).wf = true ∧ (Lit.int .i64 a0_3).wf = true ∧ (Lit.int .i64 a0_4).wf = true ∧ (Lit.int .i64 a0_5).wf = true ∧ (Lit.int .i64 a0_6).wf = true ∧ (Lit.int .i64 a0_7).wf = true ∧ l0_8.length ≤ maxLen ∧ ∀ y0 ∈ l0_8, (Lit.int .i32 y0).wf = true) → ∃ k, pelotonlaw15_MsgBack.f k a0_0 a0_1 a0_2 a0_3 a0_4 a0_5 a0_6 a0_7 l0_8 = some true

theorem pelotonlaw15_MsgBack.calls (k : Nat) (a0_0 : Int) (a0_1 : Int) (a0_2 : Int) (a0_3 : Int) (a0_4 : Int) (a0_5 : Int) (a0_6 : Int) (a0_7 : Int) (A0_8 : Option Addr) (c0_8 : Nat) (l0_8 : List Int) (r : Bool) (w : World) (hr0_8 : Kd.C (Kd.int .i32) w A0_8 l0_8.length l0_8) (hc0_8 : l0_8.length ≤ c0_8) (h : pelotonlaw15_MsgBack.f k a0_0 a0_1 a0_2 a0_3 a0_4 a0_5 a0_6 a0_7 l0_8 = some r) :
  Calls Try.prog 6 #[.agg #[.int .i64 a0_0, .int .i64 a0_1, .int .i64 a0_2, .int .i64 a0_3, .int .i64 a0_4, .int .i64 a0_5, .int .i64 a0_6, .int .i64 a0_7, .slice A0_8 l0_8.length c0_8]] w fun e w' => e = .returned (.bool r) ∧ Below w.heap.size w w' := pelotonlaw15_MsgBack.callsV k a0_0 a0_1 a0_2 a0_3 a0_4 a0_5 a0_6 a0_7 (fun _ => True) A0_8 c0_8 l0_8 r w (Kd.V_mk hc0_8 (C_F hr0_8)) h
end Go.Proofs.Ytnkphgiodpledaa.QMsgBack
