-- Written by a program of this session (a turned copy of the print) out of the translation. Lean checks it.
import Derived.Test.YtnkphgiodpledaaQMsgBackx0
import Derived.Test.YtnkphgiodpledaaQMsgBackx3
namespace Go.Proofs.Ytnkphgiodpledaa.QMsgBack
open Go.RowKit Go.Proofs.YtnkphgiodpledaaW.PrintWords Go.Proofs.YtnkphgiodpledaaW.PrintLast Go.Proofs.YtnkphgiodpledaaW.PrintMore
attribute [local go_sem] max2_int min2_int max_two min_two max_three min_three max_four min_four   -- for this text's walks alone
open Go.Proofs.YtnkphgiodpledaaW.PrintWords renaming below_alloc → b_a, pw_below_drewN → b_n, below_drew1 → b_d, below_set → b_s, blk_drewN → k_n, blk_drew → k_d, blk_alloc → k_a
open List renaming setIfInBounds_toArray → l_1, set_cons_zero → l_2, set_cons_succ → l_3, map_toArray → l_4, map_cons → l_5, map_nil → l_6, length_drop → l_7, length_take → l_8
set_option linter.unusedVariables false
set_option linter.unusedSimpArgs false

/-! ### pelotonref15_Right: function 8 -/
mutual
def pelotonref15_Right.j0 : Nat → ByteArray → Bool → Int → Int → Int → Int → Int → Int → Int → Int → List Int → Option (Bool)
 | 0, _, _, _, _, _, _, _, _, _, _, _ => none
 | k + 1, x3, x28, x143000, x143001, x143002, x143003, x143004, x143005, x143006, x143007, x143008 => if x28 = true then (some false) else (pelotonref15_Right.l0 k x3 (⟨#[101, 114, 112, 108, 115, 116, 107]⟩ : ByteArray) 0 x143000 x143001 x143002 x143003 x143004 x143005 x143006 x143007 x143008)
def pelotonref15_Right.l0 : Nat → ByteArray → ByteArray → Int → Int → Int → Int → Int → Int → Int → Int → Int → List Int → Option (Bool)
 | 0, _, _, _, _, _, _, _, _, _, _, _, _ => none
 | k + 1, x3, x4, x5, x143000, x143001, x143002, x143003, x143004, x143005, x143006, x143007, x143008 => if x5 < (x4.size : Int) then (if 0 ≤ x5 then ((pelotonref15_Num.f x143000 x143001 x143002 x143003 x143004 x143005 x143006 x143007 x143008 (bt x4 x5)).bind fun t145 => (if t145 < 0 then (some false) else (if t145 ≥ 1099511627776 then (some false) else (if t145 > 0 then ((pelotonref15_has.f k x3 (bt x4 x5)).bind fun t146 => (if t146 = true then (pelotonref15_Right.l0 k x3 x4 (wrap64 (x5 + 1)) x143000 x143001 x143002 x143003 x143004 x143005 x143006 x143007 x143008) else (some false))) else (pelotonref15_Right.l0 k x3 x4 (wrap64 (x5 + 1)) x143000 x143001 x143002 x143003 x143004 x143005 x143006 x143007 x143008))))) else (none)) else (some true)
end
def pelotonref15_Right.f (k : Nat) (a0_0 : Int) (a0_1 : Int) (a0_2 : Int) (a0_3 : Int) (a0_4 : Int) (a0_5 : Int) (a0_6 : Int) (a0_7 : Int) (l0_8 : List Int) : Option (Bool) := (pelotonref15_Form.f k a0_0).bind fun t143 => (if t143.toList = ([] : List UInt8) then (pelotonref15_Right.j0 k t143 true a0_0 a0_1 a0_2 a0_3 a0_4 a0_5 a0_6 a0_7 l0_8) else (if (l0_8.length : Int) > 4096 then (pelotonref15_Right.j0 k t143 true a0_0 a0_1 a0_2 a0_3 a0_4 a0_5 a0_6 a0_7 l0_8) else (if (l0_8.length : Int) > 0 then ((pelotonref15_has.f k t143 43).bind fun t144 => (pelotonref15_Right.j0 k t143 (!t144) a0_0 a0_1 a0_2 a0_3 a0_4 a0_5 a0_6 a0_7 l0_8)) else (pelotonref15_Right.j0 k t143 false a0_0 a0_1 a0_2 a0_3 a0_4 a0_5 a0_6 a0_7 l0_8))))
theorem pelotonref15_Right.mono_l : ∀ k, (∀ y0 y1 y2 y3 y4 y5 y6 y7 y8 y9 y10, LeO (pelotonref15_Right.j0 k y0 y1 y2 y3 y4 y5 y6 y7 y8 y9 y10) (pelotonref15_Right.j0 (k + 1) y0 y1 y2 y3 y4 y5 y6 y7 y8 y9 y10)) ∧ (∀ y0 y1 y2 y3 y4 y5 y6 y7 y8 y9 y10 y11, LeO (pelotonref15_Right.l0 k y0 y1 y2 y3 y4 y5 y6 y7 y8 y9 y10 y11) (pelotonref15_Right.l0 (k + 1) y0 y1 y2 y3 y4 y5 y6 y7 y8 y9 y10 y11))
 | 0 => ⟨fun _ _ _ _ _ _ _ _ _ _ _ r h => by simp [pelotonref15_Right.j0] at h, fun _ _ _ _ _ _ _ _ _ _ _ _ r h => by simp [pelotonref15_Right.l0] at h⟩
 | k + 1 => by
  obtain ⟨ih0, ih1⟩ := pelotonref15_Right.mono_l k
  refine ⟨?_, ?_⟩
  ·
   intro y0 y1 y2 y3 y4 y5 y6 y7 y8 y9 y10
   unfold pelotonref15_Right.j0
   repeat' first
   | (with_reducible exact ih0 _ _ _ _ _ _ _ _ _ _ _)
   | (with_reducible exact ih1 _ _ _ _ _ _ _ _ _ _ _ _)
   | (with_reducible exact pelotonref15_Form.mono _ _)
   | (with_reducible exact pelotonref15_has.mono _ _ _)
   | (with_reducible exact LeO.refl _)
   | (with_reducible exact LeO.none _)
   | (with_reducible refine LeO.ite ?_ ?_)
   | (with_reducible refine LeO.bind ?_ (fun _ => ?_))
   | exact ih0 _ _ _ _ _ _ _ _ _ _ _
   | exact ih1 _ _ _ _ _ _ _ _ _ _ _ _
   | exact pelotonref15_Form.mono _ _
   | exact pelotonref15_has.mono _ _ _
   | exact LeO.none _
   | refine LeO.ite ?_ ?_
   | refine LeO.bind ?_ (fun _ => ?_)
  ·
   intro y0 y1 y2 y3 y4 y5 y6 y7 y8 y9 y10 y11
   unfold pelotonref15_Right.l0
   repeat' first
   | (with_reducible exact ih0 _ _ _ _ _ _ _ _ _ _ _)
   | (with_reducible exact ih1 _ _ _ _ _ _ _ _ _ _ _ _)
   | (with_reducible exact pelotonref15_Form.mono _ _)
   | (with_reducible exact pelotonref15_has.mono _ _ _)
   | (with_reducible exact LeO.refl _)
   | (with_reducible exact LeO.none _)
   | (with_reducible refine LeO.ite ?_ ?_)
   | (with_reducible refine LeO.bind ?_ (fun _ => ?_))
   | exact ih0 _ _ _ _ _ _ _ _ _ _ _
   | exact ih1 _ _ _ _ _ _ _ _ _ _ _ _
   | exact pelotonref15_Form.mono _ _
   | exact pelotonref15_has.mono _ _ _
   | exact LeO.none _
   | refine LeO.ite ?_ ?_
   | refine LeO.bind ?_ (fun _ => ?_)
theorem pelotonref15_Right.mono : ∀ a0 a1 a2 a3 a4 a5 a6 a7 a8 k, LeO (pelotonref15_Right.f k a0 a1 a2 a3 a4 a5 a6 a7 a8) (pelotonref15_Right.f (k + 1) a0 a1 a2 a3 a4 a5 a6 a7 a8) := by
 intro a0 a1 a2 a3 a4 a5 a6 a7 a8 k
 obtain ⟨ih0, ih1⟩ := pelotonref15_Right.mono_l k
 unfold pelotonref15_Right.f
 repeat' first
   | (with_reducible exact ih0 _ _ _ _ _ _ _ _ _ _ _)
   | (with_reducible exact ih1 _ _ _ _ _ _ _ _ _ _ _ _)
   | (with_reducible exact pelotonref15_Form.mono _ _)
   | (with_reducible exact pelotonref15_has.mono _ _ _)
   | (with_reducible exact LeO.refl _)
   | (with_reducible exact LeO.none _)
   | (with_reducible refine LeO.ite ?_ ?_)
   | (with_reducible refine LeO.bind ?_ (fun _ => ?_))
   | exact ih0 _ _ _ _ _ _ _ _ _ _ _
   | exact ih1 _ _ _ _ _ _ _ _ _ _ _ _
   | exact pelotonref15_Form.mono _ _
   | exact pelotonref15_has.mono _ _ _
   | exact LeO.none _
   | refine LeO.ite ?_ ?_
   | refine LeO.bind ?_ (fun _ => ?_)
set_option maxHeartbeats 60000000 in
set_option maxRecDepth 100000 in
theorem pelotonref15_Right.calls (k : Nat) (a0_0 : Int) (a0_1 : Int) (a0_2 : Int) (a0_3 : Int) (a0_4 : Int) (a0_5 : Int) (a0_6 : Int) (a0_7 : Int) (A0_8 : Option Addr) (c0_8 : Nat) (l0_8 : List Int) (r : Bool) (w : World) (hr0_8 : Kd.C (Kd.int .i32) w A0_8 l0_8.length l0_8) (hc0_8 : l0_8.length ≤ c0_8) (h : pelotonref15_Right.f k a0_0 a0_1 a0_2 a0_3 a0_4 a0_5 a0_6 a0_7 l0_8 = some r) :
  Calls Try.prog 8 #[.agg #[.int .i64 a0_0, .int .i64 a0_1, .int .i64 a0_2, .int .i64 a0_3, .int .i64 a0_4, .int .i64 a0_5, .int .i64 a0_6, .int .i64 a0_7, .slice A0_8 l0_8.length c0_8]] w fun e w' => e = .returned (.bool r) ∧ Below w.heap.size w w' := by
 have hu24 := Try.underlying24
 have HR0_8 := Aside0.mk hr0_8
 have HC0_8 := Aside0.mk hc0_8
 clear hr0_8 hc0_8
 have HB := Aside0.mk (Below.refl w.heap.size w)
 have H : ((pelotonref15_Form.f k a0_0).bind fun t143 => (if t143.toList = ([] : List UInt8) then (pelotonref15_Right.j0 k t143 true a0_0 a0_1 a0_2 a0_3 a0_4 a0_5 a0_6 a0_7 l0_8) else (if (l0_8.length : Int) > 4096 then (pelotonref15_Right.j0 k t143 true a0_0 a0_1 a0_2 a0_3 a0_4 a0_5 a0_6 a0_7 l0_8) else (if (l0_8.length : Int) > 0 then ((pelotonref15_has.f k t143 43).bind fun t144 => (pelotonref15_Right.j0 k t143 (!t144) a0_0 a0_1 a0_2 a0_3 a0_4 a0_5 a0_6 a0_7 l0_8)) else (pelotonref15_Right.j0 k t143 false a0_0 a0_1 a0_2 a0_3 a0_4 a0_5 a0_6 a0_7 l0_8))))) = some r := h
 clear h
 replace H := Option.bind_eq_some_iff.mp H
 obtain ⟨t143, A20, H⟩ := H
 replace H : (if t143.toList = ([] : List UInt8) then (pelotonref15_Right.j0 k t143 true a0_0 a0_1 a0_2 a0_3 a0_4 a0_5 a0_6 a0_7 l0_8) else (if (l0_8.length : Int) > 4096 then (pelotonref15_Right.j0 k t143 true a0_0 a0_1 a0_2 a0_3 a0_4 a0_5 a0_6 a0_7 l0_8) else (if (l0_8.length : Int) > 0 then ((pelotonref15_has.f k t143 43).bind fun t144 => (pelotonref15_Right.j0 k t143 (!t144) a0_0 a0_1 a0_2 a0_3 a0_4 a0_5 a0_6 a0_7 l0_8)) else (pelotonref15_Right.j0 k t143 false a0_0 a0_1 a0_2 a0_3 a0_4 a0_5 a0_6 a0_7 l0_8)))) = some r := H
 have A2 := Aside0.mk A20
 clear A20
 have HC3 := Aside0.mk H
 clear H
 go_enter Try.func8, Try.ntmps8
 go_upto_region 2 with (first | ((with_reducible refine gate_dst (N := 1) rfl ?_); (try (refine gate_guard (by rfl) ?_; dsimp only)); refine box_event ?hg (N := 1) ?hd (cs := #[.int .i64 a0_0, .int .i64 a0_1, .int .i64 a0_2, .int .i64 a0_3, .int .i64 a0_4, .int .i64 a0_5, .int .i64 a0_6, .int .i64 a0_7, .slice A0_8 l0_8.length c0_8]) (t := 24) ?hr ?_; (case hd => rfl); (case hg => rfl); (case hr => first | (go_simp; done) | (go_simp; rfl)); intro gb142 hg w4 hbox hb; have BK142 := Aside0.mk (hbox); have GW142 := Aside0.mk ((by rw [hg]; exact (below_size (bw_ HB)) : w.heap.size ≤ gb142)); have GE142 := Aside0.mk ((by rw [hg]; exact (below_size (bw_ HB)) : w.heap.size ≤ gb142)); replace HB := Aside0.mk (below_step (bw_ HB) hb); clear hb hbox hg; have hcz5_0 := bc_0 BK142; have hcz5_1 := bc_1 BK142; have hcz5_2 := bc_2 BK142; have hcz5_3 := bc_3 BK142; have hcz5_4 := bc_4 BK142; have hcz5_5 := bc_5 BK142; have hcz5_6 := bc_6 BK142; have hcz5_7 := bc_7 BK142; have hcz5_8 : w4.cell? ⟨gb142, 8, none⟩ = some (.slice A0_8 l0_8.length c0_8) := (blk_cell BK142.out 8).trans rfl; have hfz5_0 := blk_frozen BK142.out 0; have hfz5_1 := blk_frozen BK142.out 1; have hfz5_2 := blk_frozen BK142.out 2; have hfz5_3 := blk_frozen BK142.out 3; have hfz5_4 := blk_frozen BK142.out 4; have hfz5_5 := blk_frozen BK142.out 5; have hfz5_6 := blk_frozen BK142.out 6; have hfz5_7 := blk_frozen BK142.out 7; have hfz5_8 := blk_frozen BK142.out 8) | ((with_reducible refine gate_callee (f := 10) rfl ?_); refine goesL_ (some 9) rfl rfl Try.func10 (by kernel_rfl) rfl #[.int .i64 a0_0] rfl (by (try simp only [l_4, l_5, l_6]); first | done | rfl | (simp only [l_7, l_8]; rfl)) ?_; (with_reducible refine (pelotonref15_Form.calls k a0_0 t143 _ A2.out).mono ?_); rintro e w' ⟨rfl, ⟨nd, rfl⟩⟩; refine ⟨_, rfl, ?_⟩))
 (try simp only [Act.put, l_1, l_2, l_3])
 go_cut [28] (fun v28 wc => ∃ (kq : Nat) (x28_2 : Bool), v28 = .bool x28_2 ∧ Aside0 (pelotonref15_Right.j0 kq t143 x28_2 a0_0 a0_1 a0_2 a0_3 a0_4 a0_5 a0_6 a0_7 l0_8 = some r) ∧ Aside0 (kq ≤ k) ∧ Aside0 (wc.heap[gb142]? = some (.cells #[.int .i64 a0_0, .int .i64 a0_1, .int .i64 a0_2, .int .i64 a0_3, .int .i64 a0_4, .int .i64 a0_5, .int .i64 a0_6, .int .i64 a0_7, (.slice A0_8 l0_8.length c0_8)] 24 (0, 0))) ∧ Aside0 (Below w.heap.size w wc))
 case first =>
  have H := HC3.out
  clear HC3
  by_cases c6 : t143.toList = ([] : List UInt8)
  ·
   rw [if_pos c6] at H
   have c6b0 : (t143.toList == ([] : List UInt8)) = true := beq_iff_eq.mpr c6
   have c6b1 : (t143.toList != ([] : List UInt8)) = false := bne_eq_false_iff_eq.mpr c6
   clear c6
   (first | rw [c6b0] | (simp only [i64_w, i32_w]; rw [c6b0]) | skip)
   have H' := Aside0.mk H
   clear H
   go_wp2
   go_meet
   case rel => exact ⟨_, (true), (by first | rfl | (simp; done) | (simp [*]; done)), H', ⟨by first | exact Nat.le_refl _ | omega⟩, ⟨tk_ BK142⟩, ⟨by repeat (first | (with_reducible first | exact HB.out | apply b_a | apply b_n | apply b_d | refine b_s ?_ GE142.out) | exact HB.out)⟩⟩
  rw [if_neg c6] at H
  have c6b0 : (t143.toList == ([] : List UInt8)) = false := beq_eq_false_iff_ne.mpr c6
  have c6b1 : (t143.toList != ([] : List UInt8)) = true := bne_iff_ne.mpr c6
  (first | rw [c6b0] | (simp only [i64_w, i32_w]; rw [c6b0]) | skip)
  by_cases c7 : (l0_8.length : Int) > 4096
  ·
   rw [if_pos c7] at H
   have c7b0 : decide (4096 < (l0_8.length : Int)) = true := decide_eq_true c7
   have c7b1 : decide (4096 < l0_8.length) = true := decide_eq_true (by omega)
   clear c7
   have H' := Aside0.mk H
   clear H
   have hcz8_0 := bc_0 BK142
   have hcz8_1 := bc_1 BK142
   have hcz8_2 := bc_2 BK142
   have hcz8_3 := bc_3 BK142
   have hcz8_4 := bc_4 BK142
   have hcz8_5 := bc_5 BK142
   have hcz8_6 := bc_6 BK142
   have hcz8_7 := bc_7 BK142
   have hcz8_8 : w4.cell? ⟨gb142, 8, none⟩ = some (.slice A0_8 l0_8.length c0_8) := (blk_cell BK142.out 8).trans rfl
   have hfz8_0 := blk_frozen BK142.out 0
   have hfz8_1 := blk_frozen BK142.out 1
   have hfz8_2 := blk_frozen BK142.out 2
   have hfz8_3 := blk_frozen BK142.out 3
   have hfz8_4 := blk_frozen BK142.out 4
   have hfz8_5 := blk_frozen BK142.out 5
   have hfz8_6 := blk_frozen BK142.out 6
   have hfz8_7 := blk_frozen BK142.out 7
   have hfz8_8 := blk_frozen BK142.out 8
   go_wp2
   go_meet
   case rel => exact ⟨_, (true), (by first | rfl | (simp; done) | (simp [*]; done)), H', ⟨by first | exact Nat.le_refl _ | omega⟩, ⟨tk_ BK142⟩, ⟨by repeat (first | (with_reducible first | exact HB.out | apply b_a | apply b_n | apply b_d | refine b_s ?_ GE142.out) | exact HB.out)⟩⟩
  rw [if_neg c7] at H
  have c7b0 : decide (4096 < (l0_8.length : Int)) = false := decide_eq_false c7
  have c7b1 : decide (4096 < l0_8.length) = false := decide_eq_false (by omega)
  clear c7
  by_cases c9 : (l0_8.length : Int) > 0
  rotate_left
  ·
   rw [if_neg c9] at H
   have c9b0 : decide (0 < (l0_8.length : Int)) = false := decide_eq_false c9
   have c9b1 : decide (0 < l0_8.length) = false := decide_eq_false (by omega)
   clear c9
   have H' := Aside0.mk H
   clear H
   have hcz12_0 := bc_0 BK142
   have hcz12_1 := bc_1 BK142
   have hcz12_2 := bc_2 BK142
   have hcz12_3 := bc_3 BK142
   have hcz12_4 := bc_4 BK142
   have hcz12_5 := bc_5 BK142
   have hcz12_6 := bc_6 BK142
   have hcz12_7 := bc_7 BK142
   have hcz12_8 : w4.cell? ⟨gb142, 8, none⟩ = some (.slice A0_8 l0_8.length c0_8) := (blk_cell BK142.out 8).trans rfl
   have hfz12_0 := blk_frozen BK142.out 0
   have hfz12_1 := blk_frozen BK142.out 1
   have hfz12_2 := blk_frozen BK142.out 2
   have hfz12_3 := blk_frozen BK142.out 3
   have hfz12_4 := blk_frozen BK142.out 4
   have hfz12_5 := blk_frozen BK142.out 5
   have hfz12_6 := blk_frozen BK142.out 6
   have hfz12_7 := blk_frozen BK142.out 7
   have hfz12_8 := blk_frozen BK142.out 8
   go_wp2
   go_meet
   case rel => exact ⟨_, (false), (by first | rfl | (simp; done) | (simp [*]; done)), H', ⟨by first | exact Nat.le_refl _ | omega⟩, ⟨tk_ BK142⟩, ⟨by repeat (first | (with_reducible first | exact HB.out | apply b_a | apply b_n | apply b_d | refine b_s ?_ GE142.out) | exact HB.out)⟩⟩
  rw [if_pos c9] at H
  have c9b0 : decide (0 < (l0_8.length : Int)) = true := decide_eq_true c9
  have c9b1 : decide (0 < l0_8.length) = true := decide_eq_true (by omega)
  clear c9
  replace H := Option.bind_eq_some_iff.mp H
  obtain ⟨t144, A100, H⟩ := H
  replace H : (pelotonref15_Right.j0 k t143 (!t144) a0_0 a0_1 a0_2 a0_3 a0_4 a0_5 a0_6 a0_7 l0_8) = some r := H
  have A10 := Aside0.mk A100
  clear A100
  have H' := Aside0.mk H
  clear H
  have hcz11_0 := bc_0 BK142
  have hcz11_1 := bc_1 BK142
  have hcz11_2 := bc_2 BK142
  have hcz11_3 := bc_3 BK142
  have hcz11_4 := bc_4 BK142
  have hcz11_5 := bc_5 BK142
  have hcz11_6 := bc_6 BK142
  have hcz11_7 := bc_7 BK142
  have hcz11_8 : w4.cell? ⟨gb142, 8, none⟩ = some (.slice A0_8 l0_8.length c0_8) := (blk_cell BK142.out 8).trans rfl
  have hfz11_0 := blk_frozen BK142.out 0
  have hfz11_1 := blk_frozen BK142.out 1
  have hfz11_2 := blk_frozen BK142.out 2
  have hfz11_3 := blk_frozen BK142.out 3
  have hfz11_4 := blk_frozen BK142.out 4
  have hfz11_5 := blk_frozen BK142.out 5
  have hfz11_6 := blk_frozen BK142.out 6
  have hfz11_7 := blk_frozen BK142.out 7
  have hfz11_8 := blk_frozen BK142.out 8
  go_wp2_with (first | (go_at_call 19; (with_reducible refine (pelotonref15_has.calls k t143 43 t144 _ A10.out).mono ?_); rintro e w' ⟨rfl, ⟨nd, rfl⟩⟩))
  go_meet
  case rel => exact ⟨_, (!t144), (by first | rfl | (simp; done) | (simp [*]; done)), H', ⟨by first | exact Nat.le_refl _ | omega⟩, ⟨tk_ BK142⟩, ⟨by repeat (first | (with_reducible first | exact HB.out | apply b_a | apply b_n | apply b_d | refine b_s ?_ GE142.out) | exact HB.out)⟩⟩
 case rest => as_aux_lemma =>
  clear HC3
  try clear c1
  try clear p2
  try clear c6
  try clear c6b0
  try clear c6b1
  try clear c7
  try clear c7b0
  try clear c7b1
  try clear c8
  try clear c9
  try clear c9b0
  try clear c9b1
  try clear c10
  try clear hcz11_0
  try clear hcz11_1
  try clear hcz11_2
  try clear hcz11_3
  try clear hcz11_4
  try clear hcz11_5
  try clear hcz11_6
  try clear hcz11_7
  try clear hcz11_8
  try clear hcz12_0
  try clear hcz12_1
  try clear hcz12_2
  try clear hcz12_3
  try clear hcz12_4
  try clear hcz12_5
  try clear hcz12_6
  try clear hcz12_7
  try clear hcz12_8
  try clear hcz5_0
  try clear hcz5_1
  try clear hcz5_2
  try clear hcz5_3
  try clear hcz5_4
  try clear hcz5_5
  try clear hcz5_6
  try clear hcz5_7
  try clear hcz5_8
  try clear hcz8_0
  try clear hcz8_1
  try clear hcz8_2
  try clear hcz8_3
  try clear hcz8_4
  try clear hcz8_5
  try clear hcz8_6
  try clear hcz8_7
  try clear hcz8_8
  try clear hfz11_0
  try clear hfz11_1
  try clear hfz11_2
  try clear hfz11_3
  try clear hfz11_4
  try clear hfz11_5
  try clear hfz11_6
  try clear hfz11_7
  try clear hfz11_8
  try clear hfz12_0
  try clear hfz12_1
  try clear hfz12_2
  try clear hfz12_3
  try clear hfz12_4
  try clear hfz12_5
  try clear hfz12_6
  try clear hfz12_7
  try clear hfz12_8
  try clear hfz5_0
  try clear hfz5_1
  try clear hfz5_2
  try clear hfz5_3
  try clear hfz5_4
  try clear hfz5_5
  try clear hfz5_6
  try clear hfz5_7
  try clear hfz5_8
  try clear hfz8_0
  try clear hfz8_1
  try clear hfz8_2
  try clear hfz8_3
  try clear hfz8_4
  try clear hfz8_5
  try clear hfz8_6
  try clear hfz8_7
  try clear hfz8_8
  obtain ⟨kq, x28_2, rfl, HA, HJ2, BK142, HB⟩ := hcut
  cases kq with
  | zero => exact absurd HA.out (by simp [pelotonref15_Right.j0])
  | succ kj2 =>
   have H := HA.out
   clear HA
   simp only [pelotonref15_Right.j0] at H
   by_cases c13 : x28_2 = true
   ·
    subst c13
    have H1 : (some false) = some r := by rw [if_pos rfl] at H; exact H
    clear H
    have H := H1
    clear H1
    obtain rfl := Option.some.inj H
    go_wp2
    go_ret
    exact ⟨by first | rfl | (simp [errW_none, errW_some] <;> rfl) | (simp [*, errW_none, errW_some] <;> rfl), by repeat (first | (with_reducible first | exact HB.out | apply b_a | apply b_n | apply b_d | refine b_s ?_ GE142.out) | exact HB.out)⟩
   replace c13 := Bool.eq_false_iff.mpr c13
   subst c13
   have H1 : (pelotonref15_Right.l0 kj2 t143 (⟨#[101, 114, 112, 108, 115, 116, 107]⟩ : ByteArray) 0 a0_0 a0_1 a0_2 a0_3 a0_4 a0_5 a0_6 a0_7 l0_8) = some r := by rw [if_neg (show ¬ (false = true) by decide)] at H; exact H
   clear H
   have H := H1
   clear H1
   have H' := Aside0.mk H
   clear H
   go_wp2
   go_loopg [5] kj2 (fun kq v5 w' => ∃ (x5_2 : Int), v5 = .int .i64 x5_2 ∧ Aside0 (pelotonref15_Right.l0 kq t143 (⟨#[101, 114, 112, 108, 115, 116, 107]⟩ : ByteArray) x5_2 a0_0 a0_1 a0_2 a0_3 a0_4 a0_5 a0_6 a0_7 l0_8 = some r) ∧ Aside0 (kq ≤ kj2) ∧ Aside0 (w'.heap[gb142]? = some (.cells #[.int .i64 a0_0, .int .i64 a0_1, .int .i64 a0_2, .int .i64 a0_3, .int .i64 a0_4, .int .i64 a0_5, .int .i64 a0_6, .int .i64 a0_7, (.slice A0_8 l0_8.length c0_8)] 24 (0, 0))) ∧ Aside0 (Below w.heap.size w w'))
   case atStart => exact ⟨(0), (by first | rfl | (simp; done) | (simp [*]; done)), H', ⟨Nat.le_refl _⟩, ⟨tk_ BK142⟩, ⟨by repeat (first | (with_reducible first | exact HB.out | apply b_a | apply b_n | apply b_d | refine b_s ?_ GE142.out) | exact HB.out)⟩⟩
   case round =>
    clear H'
    try clear c1
    try clear p2
    try clear c6
    try clear c6b0
    try clear c6b1
    try clear c7
    try clear c7b0
    try clear c7b1
    try clear c8
    try clear c9
    try clear c9b0
    try clear c9b1
    try clear c10
    try clear c13
    try clear hcz11_0
    try clear hcz11_1
    try clear hcz11_2
    try clear hcz11_3
    try clear hcz11_4
    try clear hcz11_5
    try clear hcz11_6
    try clear hcz11_7
    try clear hcz11_8
    try clear hcz12_0
    try clear hcz12_1
    try clear hcz12_2
    try clear hcz12_3
    try clear hcz12_4
    try clear hcz12_5
    try clear hcz12_6
    try clear hcz12_7
    try clear hcz12_8
    try clear hcz5_0
    try clear hcz5_1
    try clear hcz5_2
    try clear hcz5_3
    try clear hcz5_4
    try clear hcz5_5
    try clear hcz5_6
    try clear hcz5_7
    try clear hcz5_8
    try clear hcz8_0
    try clear hcz8_1
    try clear hcz8_2
    try clear hcz8_3
    try clear hcz8_4
    try clear hcz8_5
    try clear hcz8_6
    try clear hcz8_7
    try clear hcz8_8
    try clear hfz11_0
    try clear hfz11_1
    try clear hfz11_2
    try clear hfz11_3
    try clear hfz11_4
    try clear hfz11_5
    try clear hfz11_6
    try clear hfz11_7
    try clear hfz11_8
    try clear hfz12_0
    try clear hfz12_1
    try clear hfz12_2
    try clear hfz12_3
    try clear hfz12_4
    try clear hfz12_5
    try clear hfz12_6
    try clear hfz12_7
    try clear hfz12_8
    try clear hfz5_0
    try clear hfz5_1
    try clear hfz5_2
    try clear hfz5_3
    try clear hfz5_4
    try clear hfz5_5
    try clear hfz5_6
    try clear hfz5_7
    try clear hfz5_8
    try clear hfz8_0
    try clear hfz8_1
    try clear hfz8_2
    try clear hfz8_3
    try clear hfz8_4
    try clear hfz8_5
    try clear hfz8_6
    try clear hfz8_7
    try clear hfz8_8
    try clear p2
    obtain ⟨x5_2, rfl, HA, HK2, BK142, HB⟩ := hrel
    cases gk with
    | zero => exact absurd HA.out (by simp [pelotonref15_Right.l0])
    | succ k2 =>
     have H := HA.out
     clear HA
     simp only [pelotonref15_Right.l0] at H
     by_cases c14 : x5_2 < ((⟨#[101, 114, 112, 108, 115, 116, 107]⟩ : ByteArray).size : Int)
     rotate_left
     ·
      rw [if_neg c14] at H
      have c14b0 : decide (x5_2 < ((⟨#[101, 114, 112, 108, 115, 116, 107]⟩ : ByteArray).size : Int)) = false := decide_eq_false c14
      have c14b0n : decide (x5_2 < (7 : Int)) = false := decide_eq_false (show ¬ (x5_2 < (7 : Int)) from of_decide_eq_false c14b0)
      clear c14
      obtain rfl := Option.some.inj H
      go_wp2
      go_ret
      exact ⟨by first | rfl | (simp [errW_none, errW_some] <;> rfl) | (simp [*, errW_none, errW_some] <;> rfl), by repeat (first | (with_reducible first | exact HB.out | apply b_a | apply b_n | apply b_d | refine b_s ?_ GE142.out) | exact HB.out)⟩

     rw [if_pos c14] at H
     have c14b0 : decide (x5_2 < ((⟨#[101, 114, 112, 108, 115, 116, 107]⟩ : ByteArray).size : Int)) = true := decide_eq_true c14
     have c14b0n : decide (x5_2 < (7 : Int)) = true := decide_eq_true (show x5_2 < (7 : Int) from of_decide_eq_true c14b0)
     clear c14
     by_cases c15 : 0 ≤ x5_2
     rotate_left
     ·
      rw [if_neg c15] at H
      exact absurd H (by simp)
     rw [if_pos c15] at H
     have c15b0 : decide (0 ≤ x5_2) = true := decide_eq_true c15
     clear c15
     replace H := Option.bind_eq_some_iff.mp H
     obtain ⟨t145, A170, H⟩ := H
     replace H : (if t145 < 0 then (some false) else (if t145 ≥ 1099511627776 then (some false) else (if t145 > 0 then ((pelotonref15_has.f k2 t143 (bt (⟨#[101, 114, 112, 108, 115, 116, 107]⟩ : ByteArray) x5_2)).bind fun t146 => (if t146 = true then (pelotonref15_Right.l0 k2 t143 (⟨#[101, 114, 112, 108, 115, 116, 107]⟩ : ByteArray) (wrap64 (x5_2 + 1)) a0_0 a0_1 a0_2 a0_3 a0_4 a0_5 a0_6 a0_7 l0_8) else (some false))) else (pelotonref15_Right.l0 k2 t143 (⟨#[101, 114, 112, 108, 115, 116, 107]⟩ : ByteArray) (wrap64 (x5_2 + 1)) a0_0 a0_1 a0_2 a0_3 a0_4 a0_5 a0_6 a0_7 l0_8)))) = some r := H
     have A17 := Aside0.mk A170
     clear A170
     by_cases c18 : t145 < 0
     ·
      rw [if_pos c18] at H
      have c18b0 : decide (t145 < 0) = true := decide_eq_true c18
      clear c18
      obtain rfl := Option.some.inj H
      try go_wp2
      replace BK142 := Aside0.mk (k_d BK142.out)
      replace HB := Aside0.mk (b_d HB.out)
      have p16 : 0 ≤ (x5_2 : Int) := of_decide_eq_true (by first | (with_reducible assumption) | assumption)
      have q16 : x5_2 < (7 : Int) := of_decide_eq_true (by first | (with_reducible assumption) | assumption)
      have hx16 := bt_at (⟨#[101, 114, 112, 108, 115, 116, 107]⟩ : ByteArray) x5_2
      replace p16 := eq_true p16
      replace q16 := eq_true q16
      refine start_ (n := 6) (S := fun w' => w'.cell? ⟨gb142, 0, none⟩ = some (.int .i64 a0_0) ∧ w'.cell? ⟨gb142, 1, none⟩ = some (.int .i64 a0_1) ∧ w'.cell? ⟨gb142, 2, none⟩ = some (.int .i64 a0_2) ∧ w'.cell? ⟨gb142, 3, none⟩ = some (.int .i64 a0_3) ∧ w'.cell? ⟨gb142, 4, none⟩ = some (.int .i64 a0_4) ∧ w'.cell? ⟨gb142, 5, none⟩ = some (.int .i64 a0_5) ∧ w'.cell? ⟨gb142, 6, none⟩ = some (.int .i64 a0_6) ∧ w'.cell? ⟨gb142, 7, none⟩ = some (.int .i64 a0_7) ∧ w'.cell? ⟨gb142, 8, none⟩ = some (.slice A0_8 l0_8.length c0_8)) (ds := []) #[false, false, false, false, false, false] (by kernel_rfl) rfl rfl ⟨(blk_cell BK142.out 0).trans rfl, (blk_cell BK142.out 1).trans rfl, (blk_cell BK142.out 2).trans rfl, (blk_cell BK142.out 3).trans rfl, (blk_cell BK142.out 4).trans rfl, (blk_cell BK142.out 5).trans rfl, (blk_cell BK142.out 6).trans rfl, (blk_cell BK142.out 7).trans rfl, (blk_cell BK142.out 8).trans rfl⟩ (fun hHeld => ?_)
      generalize wr.drew = w19 at BK142 HB hHeld ⊢
      refine pure_ (i := 1) (N := some 36) (v := ?_) (a' := ?_) (bs_ 6 2) rfl rfl (by kernel_rfl) (fun _ _ _ h => h) (Or.inl ⟨by rfl, ?_⟩) ?_ ?_
      rotate_left
      ·
       intro w'
       go_simp
       with_reducible rfl
      rotate_left
      ·
       simp only [Act.put, l_1, l_2, l_3, i64_w, i32_w]
       rfl
      refine pure_ (i := 2) (N := some 37) (v := ?_) (a' := ?_) (bs_ 6 6) rfl rfl (by kernel_rfl) (fun _ _ _ h => h) (Or.inl ⟨by rfl, ?_⟩) ?_ ?_
      rotate_left
      ·
       intro w'
       go_simp
       with_reducible rfl
      rotate_left
      ·
       simp only [Act.put, l_1, l_2, l_3, i64_w, i32_w]
       rfl
      refine take_ (i := 0) (N := some 35) (v := ?_) (a' := ?_) (bs_ 6 7) rfl rfl (by kernel_rfl) (fun _ _ _ h => h) (Or.inl ⟨by rfl, ?_⟩) hHeld ?_ ?_
      rotate_left
      ·
       rintro w' ⟨s0, s1, s2, s3, s4, s5, s6, s7, s8⟩
       go_simp
       with_reducible rfl
      rotate_left
      ·
       simp only [Act.put, l_1, l_2, l_3, i64_w, i32_w]
       rfl
      refine take_ (i := 3) (N := some 38) (v := ?_) (a' := ?_) (bs_ 6 15) rfl rfl (by kernel_rfl) (fun _ _ _ h => h) (Or.inl ⟨by rfl, ?_⟩) hHeld ?_ ?_
      rotate_left
      ·
       rintro w' ⟨s0, s1, s2, s3, s4, s5, s6, s7, s8⟩
       go_simp
       with_reducible rfl
      rotate_left
      ·
       simp only [Act.put, l_1, l_2, l_3, i64_w, i32_w]
       rfl
      refine one_ (i := 4) (N := some 39) (bs_ 6 31) rfl rfl (by kernel_rfl) (by decide) (fun K hK => ?_)
      refine goes_ Try.func20 (by kernel_rfl) rfl #[.agg #[.int .i64 a0_0, .int .i64 a0_1, .int .i64 a0_2, .int .i64 a0_3, .int .i64 a0_4, .int .i64 a0_5, .int .i64 a0_6, .int .i64 a0_7, .slice A0_8 l0_8.length c0_8], .int .u8 (bt (⟨#[101, 114, 112, 108, 115, 116, 107]⟩ : ByteArray) x5_2)] (by rfl) rfl rfl (by (try simp only [l_4, l_5, l_6]); first | done | rfl | (simp only [l_7, l_8]; rfl)) ?_
      with_reducible refine (pelotonref15_Num.calls a0_0 a0_1 a0_2 a0_3 a0_4 a0_5 a0_6 a0_7 _ _ l0_8 (bt (⟨#[101, 114, 112, 108, 115, 116, 107]⟩ : ByteArray) x5_2) t145 _ ?side1 ?side2 A17.out).mono ?_
      (case side1 => repeat (first | exact (Kd.C_below HR0_8.out HB.out) | (with_reducible refine Kd.C_alloc ?_ _) | (with_reducible refine Kd.C_drewN ?_ _) | (with_reducible refine Kd.C_drew ?_)))
      (case side2 => exact HC0_8.out)
      rintro e w20 ⟨rfl, hb⟩
      refine ⟨_, rfl, ?_⟩
      replace BK142 := Aside0.mk (blk_below (tk_ BK142) hb)
      replace HB := Aside0.mk (below_step (bw_ HB) hb)
      (try clear hb)
      (try clear hb2)
      (try clear hk)
      (try clear hi)
      refine hK.out _ _ ⟨(blk_cell BK142.out 0).trans rfl, (blk_cell BK142.out 1).trans rfl, (blk_cell BK142.out 2).trans rfl, (blk_cell BK142.out 3).trans rfl, (blk_cell BK142.out 4).trans rfl, (blk_cell BK142.out 5).trans rfl, (blk_cell BK142.out 6).trans rfl, (blk_cell BK142.out 7).trans rfl, (blk_cell BK142.out 8).trans rfl⟩ (fun hHeld => ?_)
      clear hK K
      refine no_ (N := some 39) ?_
      refine pure_ (i := 5) (N := some 6) (v := ?_) (a' := ?_) (bs_ 6 63) rfl rfl (by kernel_rfl) (fun _ _ _ h => h) (Or.inl ⟨by rfl, ?_⟩) ?_ ?_
      rotate_left
      ·
       intro w'
       go_simp
       with_reducible rfl
      rotate_left
      ·
       simp only [Act.put, l_1, l_2, l_3, i64_w, i32_w]
       rfl
      refine done_ (by kernel_rfl) ?_
      try go_wp2
      go_ret
      exact ⟨by first | rfl | (simp [errW_none, errW_some] <;> rfl) | (simp [*, errW_none, errW_some] <;> rfl), by repeat (first | (with_reducible first | exact HB.out | apply b_a | apply b_n | apply b_d | refine b_s ?_ GE142.out) | exact HB.out)⟩
     rw [if_neg c18] at H
     have c18b0 : decide (t145 < 0) = false := decide_eq_false c18
     clear c18
     by_cases c21 : t145 ≥ 1099511627776
     ·
      rw [if_pos c21] at H
      have c21b0 : decide (1099511627776 ≤ t145) = true := decide_eq_true c21
      clear c21
      obtain rfl := Option.some.inj H
      try go_wp2
      replace BK142 := Aside0.mk (k_d BK142.out)
      replace HB := Aside0.mk (b_d HB.out)
      have p16 : 0 ≤ (x5_2 : Int) := of_decide_eq_true (by first | (with_reducible assumption) | assumption)
      have q16 : x5_2 < (7 : Int) := of_decide_eq_true (by first | (with_reducible assumption) | assumption)
      have hx16 := bt_at (⟨#[101, 114, 112, 108, 115, 116, 107]⟩ : ByteArray) x5_2
      replace p16 := eq_true p16
      replace q16 := eq_true q16
      refine start_ (n := 6) (S := fun w' => w'.cell? ⟨gb142, 0, none⟩ = some (.int .i64 a0_0) ∧ w'.cell? ⟨gb142, 1, none⟩ = some (.int .i64 a0_1) ∧ w'.cell? ⟨gb142, 2, none⟩ = some (.int .i64 a0_2) ∧ w'.cell? ⟨gb142, 3, none⟩ = some (.int .i64 a0_3) ∧ w'.cell? ⟨gb142, 4, none⟩ = some (.int .i64 a0_4) ∧ w'.cell? ⟨gb142, 5, none⟩ = some (.int .i64 a0_5) ∧ w'.cell? ⟨gb142, 6, none⟩ = some (.int .i64 a0_6) ∧ w'.cell? ⟨gb142, 7, none⟩ = some (.int .i64 a0_7) ∧ w'.cell? ⟨gb142, 8, none⟩ = some (.slice A0_8 l0_8.length c0_8)) (ds := []) #[false, false, false, false, false, false] (by kernel_rfl) rfl rfl ⟨(blk_cell BK142.out 0).trans rfl, (blk_cell BK142.out 1).trans rfl, (blk_cell BK142.out 2).trans rfl, (blk_cell BK142.out 3).trans rfl, (blk_cell BK142.out 4).trans rfl, (blk_cell BK142.out 5).trans rfl, (blk_cell BK142.out 6).trans rfl, (blk_cell BK142.out 7).trans rfl, (blk_cell BK142.out 8).trans rfl⟩ (fun hHeld => ?_)
      generalize wr.drew = w22 at BK142 HB hHeld ⊢
      refine pure_ (i := 1) (N := some 36) (v := ?_) (a' := ?_) (bs_ 6 2) rfl rfl (by kernel_rfl) (fun _ _ _ h => h) (Or.inl ⟨by rfl, ?_⟩) ?_ ?_
      rotate_left
      ·
       intro w'
       go_simp
       with_reducible rfl
      rotate_left
      ·
       simp only [Act.put, l_1, l_2, l_3, i64_w, i32_w]
       rfl
      refine pure_ (i := 2) (N := some 37) (v := ?_) (a' := ?_) (bs_ 6 6) rfl rfl (by kernel_rfl) (fun _ _ _ h => h) (Or.inl ⟨by rfl, ?_⟩) ?_ ?_
      rotate_left
      ·
       intro w'
       go_simp
       with_reducible rfl
      rotate_left
      ·
       simp only [Act.put, l_1, l_2, l_3, i64_w, i32_w]
       rfl
      refine take_ (i := 0) (N := some 35) (v := ?_) (a' := ?_) (bs_ 6 7) rfl rfl (by kernel_rfl) (fun _ _ _ h => h) (Or.inl ⟨by rfl, ?_⟩) hHeld ?_ ?_
      rotate_left
      ·
       rintro w' ⟨s0, s1, s2, s3, s4, s5, s6, s7, s8⟩
       go_simp
       with_reducible rfl
      rotate_left
      ·
       simp only [Act.put, l_1, l_2, l_3, i64_w, i32_w]
       rfl
      refine take_ (i := 3) (N := some 38) (v := ?_) (a' := ?_) (bs_ 6 15) rfl rfl (by kernel_rfl) (fun _ _ _ h => h) (Or.inl ⟨by rfl, ?_⟩) hHeld ?_ ?_
      rotate_left
      ·
       rintro w' ⟨s0, s1, s2, s3, s4, s5, s6, s7, s8⟩
       go_simp
       with_reducible rfl
      rotate_left
      ·
       simp only [Act.put, l_1, l_2, l_3, i64_w, i32_w]
       rfl
      refine one_ (i := 4) (N := some 39) (bs_ 6 31) rfl rfl (by kernel_rfl) (by decide) (fun K hK => ?_)
      refine goes_ Try.func20 (by kernel_rfl) rfl #[.agg #[.int .i64 a0_0, .int .i64 a0_1, .int .i64 a0_2, .int .i64 a0_3, .int .i64 a0_4, .int .i64 a0_5, .int .i64 a0_6, .int .i64 a0_7, .slice A0_8 l0_8.length c0_8], .int .u8 (bt (⟨#[101, 114, 112, 108, 115, 116, 107]⟩ : ByteArray) x5_2)] (by rfl) rfl rfl (by (try simp only [l_4, l_5, l_6]); first | done | rfl | (simp only [l_7, l_8]; rfl)) ?_
      with_reducible refine (pelotonref15_Num.calls a0_0 a0_1 a0_2 a0_3 a0_4 a0_5 a0_6 a0_7 _ _ l0_8 (bt (⟨#[101, 114, 112, 108, 115, 116, 107]⟩ : ByteArray) x5_2) t145 _ ?side1 ?side2 A17.out).mono ?_
      (case side1 => repeat (first | exact (Kd.C_below HR0_8.out HB.out) | (with_reducible refine Kd.C_alloc ?_ _) | (with_reducible refine Kd.C_drewN ?_ _) | (with_reducible refine Kd.C_drew ?_)))
      (case side2 => exact HC0_8.out)
      rintro e w23 ⟨rfl, hb⟩
      refine ⟨_, rfl, ?_⟩
      replace BK142 := Aside0.mk (blk_below (tk_ BK142) hb)
      replace HB := Aside0.mk (below_step (bw_ HB) hb)
      (try clear hb)
      (try clear hb2)
      (try clear hk)
      (try clear hi)
      refine hK.out _ _ ⟨(blk_cell BK142.out 0).trans rfl, (blk_cell BK142.out 1).trans rfl, (blk_cell BK142.out 2).trans rfl, (blk_cell BK142.out 3).trans rfl, (blk_cell BK142.out 4).trans rfl, (blk_cell BK142.out 5).trans rfl, (blk_cell BK142.out 6).trans rfl, (blk_cell BK142.out 7).trans rfl, (blk_cell BK142.out 8).trans rfl⟩ (fun hHeld => ?_)
      clear hK K
      refine no_ (N := some 39) ?_
      refine pure_ (i := 5) (N := some 6) (v := ?_) (a' := ?_) (bs_ 6 63) rfl rfl (by kernel_rfl) (fun _ _ _ h => h) (Or.inl ⟨by rfl, ?_⟩) ?_ ?_
      rotate_left
      ·
       intro w'
       go_simp
       with_reducible rfl
      rotate_left
      ·
       simp only [Act.put, l_1, l_2, l_3, i64_w, i32_w]
       rfl
      refine done_ (by kernel_rfl) ?_
      try go_wp2
      go_ret
      exact ⟨by first | rfl | (simp [errW_none, errW_some] <;> rfl) | (simp [*, errW_none, errW_some] <;> rfl), by repeat (first | (with_reducible first | exact HB.out | apply b_a | apply b_n | apply b_d | refine b_s ?_ GE142.out) | exact HB.out)⟩
     rw [if_neg c21] at H
     have c21b0 : decide (1099511627776 ≤ t145) = false := decide_eq_false c21
     clear c21
     by_cases c24 : t145 > 0
     rotate_left
     ·
      rw [if_neg c24] at H
      have c24b0 : decide (0 < t145) = false := decide_eq_false c24
      clear c24
      have H' := Aside0.mk H
      clear H
      try go_wp2
      replace BK142 := Aside0.mk (k_d BK142.out)
      replace HB := Aside0.mk (b_d HB.out)
      have p16 : 0 ≤ (x5_2 : Int) := of_decide_eq_true (by first | (with_reducible assumption) | assumption)
      have q16 : x5_2 < (7 : Int) := of_decide_eq_true (by first | (with_reducible assumption) | assumption)
      have hx16 := bt_at (⟨#[101, 114, 112, 108, 115, 116, 107]⟩ : ByteArray) x5_2
      replace p16 := eq_true p16
      replace q16 := eq_true q16
      refine start_ (n := 6) (S := fun w' => w'.cell? ⟨gb142, 0, none⟩ = some (.int .i64 a0_0) ∧ w'.cell? ⟨gb142, 1, none⟩ = some (.int .i64 a0_1) ∧ w'.cell? ⟨gb142, 2, none⟩ = some (.int .i64 a0_2) ∧ w'.cell? ⟨gb142, 3, none⟩ = some (.int .i64 a0_3) ∧ w'.cell? ⟨gb142, 4, none⟩ = some (.int .i64 a0_4) ∧ w'.cell? ⟨gb142, 5, none⟩ = some (.int .i64 a0_5) ∧ w'.cell? ⟨gb142, 6, none⟩ = some (.int .i64 a0_6) ∧ w'.cell? ⟨gb142, 7, none⟩ = some (.int .i64 a0_7) ∧ w'.cell? ⟨gb142, 8, none⟩ = some (.slice A0_8 l0_8.length c0_8)) (ds := []) #[false, false, false, false, false, false] (by kernel_rfl) rfl rfl ⟨(blk_cell BK142.out 0).trans rfl, (blk_cell BK142.out 1).trans rfl, (blk_cell BK142.out 2).trans rfl, (blk_cell BK142.out 3).trans rfl, (blk_cell BK142.out 4).trans rfl, (blk_cell BK142.out 5).trans rfl, (blk_cell BK142.out 6).trans rfl, (blk_cell BK142.out 7).trans rfl, (blk_cell BK142.out 8).trans rfl⟩ (fun hHeld => ?_)
      generalize wr.drew = w32 at BK142 HB hHeld ⊢
      refine pure_ (i := 1) (N := some 36) (v := ?_) (a' := ?_) (bs_ 6 2) rfl rfl (by kernel_rfl) (fun _ _ _ h => h) (Or.inl ⟨by rfl, ?_⟩) ?_ ?_
      rotate_left
      ·
       intro w'
       go_simp
       with_reducible rfl
      rotate_left
      ·
       simp only [Act.put, l_1, l_2, l_3, i64_w, i32_w]
       rfl
      refine pure_ (i := 2) (N := some 37) (v := ?_) (a' := ?_) (bs_ 6 6) rfl rfl (by kernel_rfl) (fun _ _ _ h => h) (Or.inl ⟨by rfl, ?_⟩) ?_ ?_
      rotate_left
      ·
       intro w'
       go_simp
       with_reducible rfl
      rotate_left
      ·
       simp only [Act.put, l_1, l_2, l_3, i64_w, i32_w]
       rfl
      refine take_ (i := 0) (N := some 35) (v := ?_) (a' := ?_) (bs_ 6 7) rfl rfl (by kernel_rfl) (fun _ _ _ h => h) (Or.inl ⟨by rfl, ?_⟩) hHeld ?_ ?_
      rotate_left
      ·
       rintro w' ⟨s0, s1, s2, s3, s4, s5, s6, s7, s8⟩
       go_simp
       with_reducible rfl
      rotate_left
      ·
       simp only [Act.put, l_1, l_2, l_3, i64_w, i32_w]
       rfl
      refine take_ (i := 3) (N := some 38) (v := ?_) (a' := ?_) (bs_ 6 15) rfl rfl (by kernel_rfl) (fun _ _ _ h => h) (Or.inl ⟨by rfl, ?_⟩) hHeld ?_ ?_
      rotate_left
      ·
       rintro w' ⟨s0, s1, s2, s3, s4, s5, s6, s7, s8⟩
       go_simp
       with_reducible rfl
      rotate_left
      ·
       simp only [Act.put, l_1, l_2, l_3, i64_w, i32_w]
       rfl
      refine one_ (i := 4) (N := some 39) (bs_ 6 31) rfl rfl (by kernel_rfl) (by decide) (fun K hK => ?_)
      refine goes_ Try.func20 (by kernel_rfl) rfl #[.agg #[.int .i64 a0_0, .int .i64 a0_1, .int .i64 a0_2, .int .i64 a0_3, .int .i64 a0_4, .int .i64 a0_5, .int .i64 a0_6, .int .i64 a0_7, .slice A0_8 l0_8.length c0_8], .int .u8 (bt (⟨#[101, 114, 112, 108, 115, 116, 107]⟩ : ByteArray) x5_2)] (by rfl) rfl rfl (by (try simp only [l_4, l_5, l_6]); first | done | rfl | (simp only [l_7, l_8]; rfl)) ?_
      with_reducible refine (pelotonref15_Num.calls a0_0 a0_1 a0_2 a0_3 a0_4 a0_5 a0_6 a0_7 _ _ l0_8 (bt (⟨#[101, 114, 112, 108, 115, 116, 107]⟩ : ByteArray) x5_2) t145 _ ?side1 ?side2 A17.out).mono ?_
      (case side1 => repeat (first | exact (Kd.C_below HR0_8.out HB.out) | (with_reducible refine Kd.C_alloc ?_ _) | (with_reducible refine Kd.C_drewN ?_ _) | (with_reducible refine Kd.C_drew ?_)))
      (case side2 => exact HC0_8.out)
      rintro e w33 ⟨rfl, hb⟩
      refine ⟨_, rfl, ?_⟩
      replace BK142 := Aside0.mk (blk_below (tk_ BK142) hb)
      replace HB := Aside0.mk (below_step (bw_ HB) hb)
      (try clear hb)
      (try clear hb2)
      (try clear hk)
      (try clear hi)
      refine hK.out _ _ ⟨(blk_cell BK142.out 0).trans rfl, (blk_cell BK142.out 1).trans rfl, (blk_cell BK142.out 2).trans rfl, (blk_cell BK142.out 3).trans rfl, (blk_cell BK142.out 4).trans rfl, (blk_cell BK142.out 5).trans rfl, (blk_cell BK142.out 6).trans rfl, (blk_cell BK142.out 7).trans rfl, (blk_cell BK142.out 8).trans rfl⟩ (fun hHeld => ?_)
      clear hK K
      refine no_ (N := some 39) ?_
      refine pure_ (i := 5) (N := some 6) (v := ?_) (a' := ?_) (bs_ 6 63) rfl rfl (by kernel_rfl) (fun _ _ _ h => h) (Or.inl ⟨by rfl, ?_⟩) ?_ ?_
      rotate_left
      ·
       intro w'
       go_simp
       with_reducible rfl
      rotate_left
      ·
       simp only [Act.put, l_1, l_2, l_3, i64_w, i32_w]
       rfl
      refine done_ (by kernel_rfl) ?_
      try go_wp2
      go_roundg k2
      case measure => have := HJ2.out; have := HK2.out; omega
      case rel => exact ⟨(wrap64 (x5_2 + 1)), (by first | rfl | (simp; done) | (simp [*]; done)), H', ⟨by have := HJ2.out; have := HK2.out; omega⟩, ⟨tk_ BK142⟩, ⟨by repeat (first | (with_reducible first | exact HB.out | apply b_a | apply b_n | apply b_d | refine b_s ?_ GE142.out) | exact HB.out)⟩⟩
     rw [if_pos c24] at H
     have c24b0 : decide (0 < t145) = true := decide_eq_true c24
     clear c24
     replace H := Option.bind_eq_some_iff.mp H
     obtain ⟨t146, A260, H⟩ := H
     replace H : (if t146 = true then (pelotonref15_Right.l0 k2 t143 (⟨#[101, 114, 112, 108, 115, 116, 107]⟩ : ByteArray) (wrap64 (x5_2 + 1)) a0_0 a0_1 a0_2 a0_3 a0_4 a0_5 a0_6 a0_7 l0_8) else (some false)) = some r := H
     have A26 := Aside0.mk A260
     clear A260
     by_cases c27 : t146 = true
     rotate_left
     ·
      replace c27 := Bool.eq_false_iff.mpr c27
      subst c27
      have H1 : (some false) = some r := by rw [if_neg (show ¬ (false = true) by decide)] at H; exact H
      clear H
      have H := H1
      clear H1
      obtain rfl := Option.some.inj H
      try go_wp2
      replace BK142 := Aside0.mk (k_d BK142.out)
      replace HB := Aside0.mk (b_d HB.out)
      have p16 : 0 ≤ (x5_2 : Int) := of_decide_eq_true (by first | (with_reducible assumption) | assumption)
      have q16 : x5_2 < (7 : Int) := of_decide_eq_true (by first | (with_reducible assumption) | assumption)
      have hx16 := bt_at (⟨#[101, 114, 112, 108, 115, 116, 107]⟩ : ByteArray) x5_2
      replace p16 := eq_true p16
      replace q16 := eq_true q16
      refine start_ (n := 6) (S := fun w' => w'.cell? ⟨gb142, 0, none⟩ = some (.int .i64 a0_0) ∧ w'.cell? ⟨gb142, 1, none⟩ = some (.int .i64 a0_1) ∧ w'.cell? ⟨gb142, 2, none⟩ = some (.int .i64 a0_2) ∧ w'.cell? ⟨gb142, 3, none⟩ = some (.int .i64 a0_3) ∧ w'.cell? ⟨gb142, 4, none⟩ = some (.int .i64 a0_4) ∧ w'.cell? ⟨gb142, 5, none⟩ = some (.int .i64 a0_5) ∧ w'.cell? ⟨gb142, 6, none⟩ = some (.int .i64 a0_6) ∧ w'.cell? ⟨gb142, 7, none⟩ = some (.int .i64 a0_7) ∧ w'.cell? ⟨gb142, 8, none⟩ = some (.slice A0_8 l0_8.length c0_8)) (ds := []) #[false, false, false, false, false, false] (by kernel_rfl) rfl rfl ⟨(blk_cell BK142.out 0).trans rfl, (blk_cell BK142.out 1).trans rfl, (blk_cell BK142.out 2).trans rfl, (blk_cell BK142.out 3).trans rfl, (blk_cell BK142.out 4).trans rfl, (blk_cell BK142.out 5).trans rfl, (blk_cell BK142.out 6).trans rfl, (blk_cell BK142.out 7).trans rfl, (blk_cell BK142.out 8).trans rfl⟩ (fun hHeld => ?_)
      generalize wr.drew = w30 at BK142 HB hHeld ⊢
      refine pure_ (i := 1) (N := some 36) (v := ?_) (a' := ?_) (bs_ 6 2) rfl rfl (by kernel_rfl) (fun _ _ _ h => h) (Or.inl ⟨by rfl, ?_⟩) ?_ ?_
      rotate_left
      ·
       intro w'
       go_simp
       with_reducible rfl
      rotate_left
      ·
       simp only [Act.put, l_1, l_2, l_3, i64_w, i32_w]
       rfl
      refine pure_ (i := 2) (N := some 37) (v := ?_) (a' := ?_) (bs_ 6 6) rfl rfl (by kernel_rfl) (fun _ _ _ h => h) (Or.inl ⟨by rfl, ?_⟩) ?_ ?_
      rotate_left
      ·
       intro w'
       go_simp
       with_reducible rfl
      rotate_left
      ·
       simp only [Act.put, l_1, l_2, l_3, i64_w, i32_w]
       rfl
      refine take_ (i := 0) (N := some 35) (v := ?_) (a' := ?_) (bs_ 6 7) rfl rfl (by kernel_rfl) (fun _ _ _ h => h) (Or.inl ⟨by rfl, ?_⟩) hHeld ?_ ?_
      rotate_left
      ·
       rintro w' ⟨s0, s1, s2, s3, s4, s5, s6, s7, s8⟩
       go_simp
       with_reducible rfl
      rotate_left
      ·
       simp only [Act.put, l_1, l_2, l_3, i64_w, i32_w]
       rfl
      refine take_ (i := 3) (N := some 38) (v := ?_) (a' := ?_) (bs_ 6 15) rfl rfl (by kernel_rfl) (fun _ _ _ h => h) (Or.inl ⟨by rfl, ?_⟩) hHeld ?_ ?_
      rotate_left
      ·
       rintro w' ⟨s0, s1, s2, s3, s4, s5, s6, s7, s8⟩
       go_simp
       with_reducible rfl
      rotate_left
      ·
       simp only [Act.put, l_1, l_2, l_3, i64_w, i32_w]
       rfl
      refine one_ (i := 4) (N := some 39) (bs_ 6 31) rfl rfl (by kernel_rfl) (by decide) (fun K hK => ?_)
      refine goes_ Try.func20 (by kernel_rfl) rfl #[.agg #[.int .i64 a0_0, .int .i64 a0_1, .int .i64 a0_2, .int .i64 a0_3, .int .i64 a0_4, .int .i64 a0_5, .int .i64 a0_6, .int .i64 a0_7, .slice A0_8 l0_8.length c0_8], .int .u8 (bt (⟨#[101, 114, 112, 108, 115, 116, 107]⟩ : ByteArray) x5_2)] (by rfl) rfl rfl (by (try simp only [l_4, l_5, l_6]); first | done | rfl | (simp only [l_7, l_8]; rfl)) ?_
      with_reducible refine (pelotonref15_Num.calls a0_0 a0_1 a0_2 a0_3 a0_4 a0_5 a0_6 a0_7 _ _ l0_8 (bt (⟨#[101, 114, 112, 108, 115, 116, 107]⟩ : ByteArray) x5_2) t145 _ ?side1 ?side2 A17.out).mono ?_
      (case side1 => repeat (first | exact (Kd.C_below HR0_8.out HB.out) | (with_reducible refine Kd.C_alloc ?_ _) | (with_reducible refine Kd.C_drewN ?_ _) | (with_reducible refine Kd.C_drew ?_)))
      (case side2 => exact HC0_8.out)
      rintro e w31 ⟨rfl, hb⟩
      refine ⟨_, rfl, ?_⟩
      replace BK142 := Aside0.mk (blk_below (tk_ BK142) hb)
      replace HB := Aside0.mk (below_step (bw_ HB) hb)
      (try clear hb)
      (try clear hb2)
      (try clear hk)
      (try clear hi)
      refine hK.out _ _ ⟨(blk_cell BK142.out 0).trans rfl, (blk_cell BK142.out 1).trans rfl, (blk_cell BK142.out 2).trans rfl, (blk_cell BK142.out 3).trans rfl, (blk_cell BK142.out 4).trans rfl, (blk_cell BK142.out 5).trans rfl, (blk_cell BK142.out 6).trans rfl, (blk_cell BK142.out 7).trans rfl, (blk_cell BK142.out 8).trans rfl⟩ (fun hHeld => ?_)
      clear hK K
      refine no_ (N := some 39) ?_
      refine pure_ (i := 5) (N := some 6) (v := ?_) (a' := ?_) (bs_ 6 63) rfl rfl (by kernel_rfl) (fun _ _ _ h => h) (Or.inl ⟨by rfl, ?_⟩) ?_ ?_
      rotate_left
      ·
       intro w'
       go_simp
       with_reducible rfl
      rotate_left
      ·
       simp only [Act.put, l_1, l_2, l_3, i64_w, i32_w]
       rfl
      refine done_ (by kernel_rfl) ?_
      have p25 : 0 ≤ (x5_2 : Int) := of_decide_eq_true (by first | (with_reducible assumption) | assumption)
      have q25 : x5_2 < (7 : Int) := of_decide_eq_true (by first | (with_reducible assumption) | assumption)
      have hx25 := bt_at (⟨#[101, 114, 112, 108, 115, 116, 107]⟩ : ByteArray) x5_2
      replace p25 := eq_true p25
      replace q25 := eq_true q25
      try go_wp2_with (first | (go_at_call 19; (with_reducible refine (pelotonref15_has.calls k2 t143 (bt (⟨#[101, 114, 112, 108, 115, 116, 107]⟩ : ByteArray) x5_2) false _ A26.out).mono ?_); rintro e w' ⟨rfl, ⟨nd, rfl⟩⟩))
      go_ret
      exact ⟨by first | rfl | (simp [errW_none, errW_some] <;> rfl) | (simp [*, errW_none, errW_some] <;> rfl), by repeat (first | (with_reducible first | exact HB.out | apply b_a | apply b_n | apply b_d | refine b_s ?_ GE142.out) | exact HB.out)⟩
     subst c27
     have H1 : (pelotonref15_Right.l0 k2 t143 (⟨#[101, 114, 112, 108, 115, 116, 107]⟩ : ByteArray) (wrap64 (x5_2 + 1)) a0_0 a0_1 a0_2 a0_3 a0_4 a0_5 a0_6 a0_7 l0_8) = some r := by rw [if_pos rfl] at H; exact H
     clear H
     have H := H1
     clear H1
     have H' := Aside0.mk H
     clear H
     try go_wp2
     replace BK142 := Aside0.mk (k_d BK142.out)
     replace HB := Aside0.mk (b_d HB.out)
     have p16 : 0 ≤ (x5_2 : Int) := of_decide_eq_true (by first | (with_reducible assumption) | assumption)
     have q16 : x5_2 < (7 : Int) := of_decide_eq_true (by first | (with_reducible assumption) | assumption)
     have hx16 := bt_at (⟨#[101, 114, 112, 108, 115, 116, 107]⟩ : ByteArray) x5_2
     replace p16 := eq_true p16
     replace q16 := eq_true q16
     refine start_ (n := 6) (S := fun w' => w'.cell? ⟨gb142, 0, none⟩ = some (.int .i64 a0_0) ∧ w'.cell? ⟨gb142, 1, none⟩ = some (.int .i64 a0_1) ∧ w'.cell? ⟨gb142, 2, none⟩ = some (.int .i64 a0_2) ∧ w'.cell? ⟨gb142, 3, none⟩ = some (.int .i64 a0_3) ∧ w'.cell? ⟨gb142, 4, none⟩ = some (.int .i64 a0_4) ∧ w'.cell? ⟨gb142, 5, none⟩ = some (.int .i64 a0_5) ∧ w'.cell? ⟨gb142, 6, none⟩ = some (.int .i64 a0_6) ∧ w'.cell? ⟨gb142, 7, none⟩ = some (.int .i64 a0_7) ∧ w'.cell? ⟨gb142, 8, none⟩ = some (.slice A0_8 l0_8.length c0_8)) (ds := []) #[false, false, false, false, false, false] (by kernel_rfl) rfl rfl ⟨(blk_cell BK142.out 0).trans rfl, (blk_cell BK142.out 1).trans rfl, (blk_cell BK142.out 2).trans rfl, (blk_cell BK142.out 3).trans rfl, (blk_cell BK142.out 4).trans rfl, (blk_cell BK142.out 5).trans rfl, (blk_cell BK142.out 6).trans rfl, (blk_cell BK142.out 7).trans rfl, (blk_cell BK142.out 8).trans rfl⟩ (fun hHeld => ?_)
     generalize wr.drew = w28 at BK142 HB hHeld ⊢
     refine pure_ (i := 1) (N := some 36) (v := ?_) (a' := ?_) (bs_ 6 2) rfl rfl (by kernel_rfl) (fun _ _ _ h => h) (Or.inl ⟨by rfl, ?_⟩) ?_ ?_
     rotate_left
     ·
      intro w'
      go_simp
      with_reducible rfl
     rotate_left
     ·
      simp only [Act.put, l_1, l_2, l_3, i64_w, i32_w]
      rfl
     refine pure_ (i := 2) (N := some 37) (v := ?_) (a' := ?_) (bs_ 6 6) rfl rfl (by kernel_rfl) (fun _ _ _ h => h) (Or.inl ⟨by rfl, ?_⟩) ?_ ?_
     rotate_left
     ·
      intro w'
      go_simp
      with_reducible rfl
     rotate_left
     ·
      simp only [Act.put, l_1, l_2, l_3, i64_w, i32_w]
      rfl
     refine take_ (i := 0) (N := some 35) (v := ?_) (a' := ?_) (bs_ 6 7) rfl rfl (by kernel_rfl) (fun _ _ _ h => h) (Or.inl ⟨by rfl, ?_⟩) hHeld ?_ ?_
     rotate_left
     ·
      rintro w' ⟨s0, s1, s2, s3, s4, s5, s6, s7, s8⟩
      go_simp
      with_reducible rfl
     rotate_left
     ·
      simp only [Act.put, l_1, l_2, l_3, i64_w, i32_w]
      rfl
     refine take_ (i := 3) (N := some 38) (v := ?_) (a' := ?_) (bs_ 6 15) rfl rfl (by kernel_rfl) (fun _ _ _ h => h) (Or.inl ⟨by rfl, ?_⟩) hHeld ?_ ?_
     rotate_left
     ·
      rintro w' ⟨s0, s1, s2, s3, s4, s5, s6, s7, s8⟩
      go_simp
      with_reducible rfl
     rotate_left
     ·
      simp only [Act.put, l_1, l_2, l_3, i64_w, i32_w]
      rfl
     refine one_ (i := 4) (N := some 39) (bs_ 6 31) rfl rfl (by kernel_rfl) (by decide) (fun K hK => ?_)
     refine goes_ Try.func20 (by kernel_rfl) rfl #[.agg #[.int .i64 a0_0, .int .i64 a0_1, .int .i64 a0_2, .int .i64 a0_3, .int .i64 a0_4, .int .i64 a0_5, .int .i64 a0_6, .int .i64 a0_7, .slice A0_8 l0_8.length c0_8], .int .u8 (bt (⟨#[101, 114, 112, 108, 115, 116, 107]⟩ : ByteArray) x5_2)] (by rfl) rfl rfl (by (try simp only [l_4, l_5, l_6]); first | done | rfl | (simp only [l_7, l_8]; rfl)) ?_
     with_reducible refine (pelotonref15_Num.calls a0_0 a0_1 a0_2 a0_3 a0_4 a0_5 a0_6 a0_7 _ _ l0_8 (bt (⟨#[101, 114, 112, 108, 115, 116, 107]⟩ : ByteArray) x5_2) t145 _ ?side1 ?side2 A17.out).mono ?_
     (case side1 => repeat (first | exact (Kd.C_below HR0_8.out HB.out) | (with_reducible refine Kd.C_alloc ?_ _) | (with_reducible refine Kd.C_drewN ?_ _) | (with_reducible refine Kd.C_drew ?_)))
     (case side2 => exact HC0_8.out)
     rintro e w29 ⟨rfl, hb⟩
     refine ⟨_, rfl, ?_⟩
     replace BK142 := Aside0.mk (blk_below (tk_ BK142) hb)
     replace HB := Aside0.mk (below_step (bw_ HB) hb)
     (try clear hb)
     (try clear hb2)
     (try clear hk)
     (try clear hi)
     refine hK.out _ _ ⟨(blk_cell BK142.out 0).trans rfl, (blk_cell BK142.out 1).trans rfl, (blk_cell BK142.out 2).trans rfl, (blk_cell BK142.out 3).trans rfl, (blk_cell BK142.out 4).trans rfl, (blk_cell BK142.out 5).trans rfl, (blk_cell BK142.out 6).trans rfl, (blk_cell BK142.out 7).trans rfl, (blk_cell BK142.out 8).trans rfl⟩ (fun hHeld => ?_)
     clear hK K
     refine no_ (N := some 39) ?_
     refine pure_ (i := 5) (N := some 6) (v := ?_) (a' := ?_) (bs_ 6 63) rfl rfl (by kernel_rfl) (fun _ _ _ h => h) (Or.inl ⟨by rfl, ?_⟩) ?_ ?_
     rotate_left
     ·
      intro w'
      go_simp
      with_reducible rfl
     rotate_left
     ·
      simp only [Act.put, l_1, l_2, l_3, i64_w, i32_w]
      rfl
     refine done_ (by kernel_rfl) ?_
     have p25 : 0 ≤ (x5_2 : Int) := of_decide_eq_true (by first | (with_reducible assumption) | assumption)
     have q25 : x5_2 < (7 : Int) := of_decide_eq_true (by first | (with_reducible assumption) | assumption)
     have hx25 := bt_at (⟨#[101, 114, 112, 108, 115, 116, 107]⟩ : ByteArray) x5_2
     replace p25 := eq_true p25
     replace q25 := eq_true q25
     try go_wp2_with (first | (go_at_call 19; (with_reducible refine (pelotonref15_has.calls k2 t143 (bt (⟨#[101, 114, 112, 108, 115, 116, 107]⟩ : ByteArray) x5_2) true _ A26.out).mono ?_); rintro e w' ⟨rfl, ⟨nd, rfl⟩⟩))
     go_roundg k2
     case measure => have := HJ2.out; have := HK2.out; omega
     case rel => exact ⟨(wrap64 (x5_2 + 1)), (by first | rfl | (simp; done) | (simp [*]; done)), H', ⟨by have := HJ2.out; have := HK2.out; omega⟩, ⟨tk_ BK142⟩, ⟨by repeat (first | (with_reducible first | exact HB.out | apply b_a | apply b_n | apply b_d | refine b_s ?_ GE142.out) | exact HB.out)⟩⟩
end Go.Proofs.Ytnkphgiodpledaa.QMsgBack
