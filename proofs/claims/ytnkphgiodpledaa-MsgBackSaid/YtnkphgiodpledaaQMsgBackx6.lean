-- Written by a program of this session (a turned copy of the print) out of the translation. Lean checks it.
import Derived.Test.YtnkphgiodpledaaQMsgBackx0
import Derived.Test.YtnkphgiodpledaaQMsgBackx3
namespace Go.Proofs.Ytnkphgiodpledaa.QMsgBack
open Go.RowKit Go.Proofs.YtnkphgiodpledaaW.PrintWords Go.Proofs.YtnkphgiodpledaaW.PrintLast Go.Proofs.YtnkphgiodpledaaW.PrintMore
attribute [local go_sem] max2_int min2_int max_two min_two max_three min_three max_four min_four   -- for this text's walks alone
open Go.Proofs.YtnkphgiodpledaaW.PrintWords renaming below_alloc → b_a, pw_below_drewN → b_n, below_drew1 → b_d, below_set → b_s, blk_drewN → k_n, blk_drew → k_d, blk_alloc → k_a
open List renaming setIfInBounds_toArray → l_1, set_cons_zero → l_2, set_cons_succ → l_3, map_toArray → l_4, map_cons → l_5, map_nil → l_6, length_drop → l_7, length_take → l_8
set_option linter.unusedVariables false
set_option linter.unusedSimpArgs false

/-! ### pelotonref15_Same: function 13 -/
mutual
def pelotonref15_Same.j0 : Nat → Bool → Int → Int → Int → Int → Int → Int → Int → Int → List Int → Int → Int → Int → Int → Int → Int → Int → Int → List Int → Option (Bool)
 | 0, _, _, _, _, _, _, _, _, _, _, _, _, _, _, _, _, _, _, _ => none
 | k + 1, x21, x163000, x163001, x163002, x163003, x163004, x163005, x163006, x163007, x163008, x164000, x164001, x164002, x164003, x164004, x164005, x164006, x164007, x164008 => if x21 = true then (some false) else (pelotonref15_Same.l0 k (⟨#[101, 114, 112, 108, 115, 116, 107]⟩ : ByteArray) 0 x163000 x163001 x163002 x163003 x163004 x163005 x163006 x163007 x163008 x164000 x164001 x164002 x164003 x164004 x164005 x164006 x164007 x164008)
def pelotonref15_Same.l0 : Nat → ByteArray → Int → Int → Int → Int → Int → Int → Int → Int → Int → List Int → Int → Int → Int → Int → Int → Int → Int → Int → List Int → Option (Bool)
 | 0, _, _, _, _, _, _, _, _, _, _, _, _, _, _, _, _, _, _, _, _ => none
 | k + 1, x5, x6, x163000, x163001, x163002, x163003, x163004, x163005, x163006, x163007, x163008, x164000, x164001, x164002, x164003, x164004, x164005, x164006, x164007, x164008 => if x6 < (x5.size : Int) then (if 0 ≤ x6 then ((pelotonref15_Num.f x163000 x163001 x163002 x163003 x163004 x163005 x163006 x163007 x163008 (bt x5 x6)).bind fun t164 => ((pelotonref15_Num.f x164000 x164001 x164002 x164003 x164004 x164005 x164006 x164007 x164008 (bt x5 x6)).bind fun t165 => (if t164 = t165 then (pelotonref15_Same.l0 k x5 (wrap64 (x6 + 1)) x163000 x163001 x163002 x163003 x163004 x163005 x163006 x163007 x163008 x164000 x164001 x164002 x164003 x164004 x164005 x164006 x164007 x164008) else (some false)))) else (none)) else (pelotonref15_Same.l1 k 0 x163000 x163001 x163002 x163003 x163004 x163005 x163006 x163007 x163008 x164000 x164001 x164002 x164003 x164004 x164005 x164006 x164007 x164008)
def pelotonref15_Same.l1 : Nat → Int → Int → Int → Int → Int → Int → Int → Int → Int → List Int → Int → Int → Int → Int → Int → Int → Int → Int → List Int → Option (Bool)
 | 0, _, _, _, _, _, _, _, _, _, _, _, _, _, _, _, _, _, _, _ => none
 | k + 1, x7, x163000, x163001, x163002, x163003, x163004, x163005, x163006, x163007, x163008, x164000, x164001, x164002, x164003, x164004, x164005, x164006, x164007, x164008 => if x7 < (x163008.length : Int) then (if 0 ≤ x7 then (if x7 < (x164008.length : Int) then (if (rd x163008 x7) = (rd x164008 x7) then (pelotonref15_Same.l1 k (wrap64 (x7 + 1)) x163000 x163001 x163002 x163003 x163004 x163005 x163006 x163007 x163008 x164000 x164001 x164002 x164003 x164004 x164005 x164006 x164007 x164008) else (some false)) else (none)) else (none)) else (some true)
end
def pelotonref15_Same.f (k : Nat) (a0_0 : Int) (a0_1 : Int) (a0_2 : Int) (a0_3 : Int) (a0_4 : Int) (a0_5 : Int) (a0_6 : Int) (a0_7 : Int) (l0_8 : List Int) (a1_0 : Int) (a1_1 : Int) (a1_2 : Int) (a1_3 : Int) (a1_4 : Int) (a1_5 : Int) (a1_6 : Int) (a1_7 : Int) (l1_8 : List Int) : Option (Bool) := if a0_0 = a1_0 then (pelotonref15_Same.j0 k ((l0_8.length : Int) != (l1_8.length : Int)) a0_0 a0_1 a0_2 a0_3 a0_4 a0_5 a0_6 a0_7 l0_8 a1_0 a1_1 a1_2 a1_3 a1_4 a1_5 a1_6 a1_7 l1_8) else (pelotonref15_Same.j0 k true a0_0 a0_1 a0_2 a0_3 a0_4 a0_5 a0_6 a0_7 l0_8 a1_0 a1_1 a1_2 a1_3 a1_4 a1_5 a1_6 a1_7 l1_8)
theorem pelotonref15_Same.mono_l : ∀ k, (∀ y0 y1 y2 y3 y4 y5 y6 y7 y8 y9 y10 y11 y12 y13 y14 y15 y16 y17 y18, LeO (pelotonref15_Same.j0 k y0 y1 y2 y3 y4 y5 y6 y7 y8 y9 y10 y11 y12 y13 y14 y15 y16 y17 y18) (pelotonref15_Same.j0 (k + 1) y0 y1 y2 y3 y4 y5 y6 y7 y8 y9 y10 y11 y12 y13 y14 y15 y16 y17 y18)) ∧ (∀ y0 y1 y2 y3 y4 y5 y6 y7 y8 y9 y10 y11 y12 y13 y14 y15 y16 y17 y18 y19, LeO (pelotonref15_Same.l0 k y0 y1 y2 y3 y4 y5 y6 y7 y8 y9 y10 y11 y12 y13 y14 y15 y16 y17 y18 y19) (pelotonref15_Same.l0 (k + 1) y0 y1 y2 y3 y4 y5 y6 y7 y8 y9 y10 y11 y12 y13 y14 y15 y16 y17 y18 y19)) ∧ (∀ y0 y1 y2 y3 y4 y5 y6 y7 y8 y9 y10 y11 y12 y13 y14 y15 y16 y17 y18, LeO (pelotonref15_Same.l1 k y0 y1 y2 y3 y4 y5 y6 y7 y8 y9 y10 y11 y12 y13 y14 y15 y16 y17 y18) (pelotonref15_Same.l1 (k + 1) y0 y1 y2 y3 y4 y5 y6 y7 y8 y9 y10 y11 y12 y13 y14 y15 y16 y17 y18))
 | 0 => ⟨fun _ _ _ _ _ _ _ _ _ _ _ _ _ _ _ _ _ _ _ r h => by simp [pelotonref15_Same.j0] at h, fun _ _ _ _ _ _ _ _ _ _ _ _ _ _ _ _ _ _ _ _ r h => by simp [pelotonref15_Same.l0] at h, fun _ _ _ _ _ _ _ _ _ _ _ _ _ _ _ _ _ _ _ r h => by simp [pelotonref15_Same.l1] at h⟩
 | k + 1 => by
  obtain ⟨ih0, ih1, ih2⟩ := pelotonref15_Same.mono_l k
  refine ⟨?_, ?_, ?_⟩
  ·
   intro y0 y1 y2 y3 y4 y5 y6 y7 y8 y9 y10 y11 y12 y13 y14 y15 y16 y17 y18
   unfold pelotonref15_Same.j0
   repeat' first
   | (with_reducible exact ih0 _ _ _ _ _ _ _ _ _ _ _ _ _ _ _ _ _ _ _)
   | (with_reducible exact ih1 _ _ _ _ _ _ _ _ _ _ _ _ _ _ _ _ _ _ _ _)
   | (with_reducible exact ih2 _ _ _ _ _ _ _ _ _ _ _ _ _ _ _ _ _ _ _)
   | (with_reducible exact LeO.refl _)
   | (with_reducible exact LeO.none _)
   | (with_reducible refine LeO.ite ?_ ?_)
   | (with_reducible refine LeO.bind ?_ (fun _ => ?_))
   | exact ih0 _ _ _ _ _ _ _ _ _ _ _ _ _ _ _ _ _ _ _
   | exact ih1 _ _ _ _ _ _ _ _ _ _ _ _ _ _ _ _ _ _ _ _
   | exact ih2 _ _ _ _ _ _ _ _ _ _ _ _ _ _ _ _ _ _ _
   | exact LeO.none _
   | refine LeO.ite ?_ ?_
   | refine LeO.bind ?_ (fun _ => ?_)
  ·
   intro y0 y1 y2 y3 y4 y5 y6 y7 y8 y9 y10 y11 y12 y13 y14 y15 y16 y17 y18 y19
   unfold pelotonref15_Same.l0
   repeat' first
   | (with_reducible exact ih0 _ _ _ _ _ _ _ _ _ _ _ _ _ _ _ _ _ _ _)
   | (with_reducible exact ih1 _ _ _ _ _ _ _ _ _ _ _ _ _ _ _ _ _ _ _ _)
   | (with_reducible exact ih2 _ _ _ _ _ _ _ _ _ _ _ _ _ _ _ _ _ _ _)
   | (with_reducible exact LeO.refl _)
   | (with_reducible exact LeO.none _)
   | (with_reducible refine LeO.ite ?_ ?_)
   | (with_reducible refine LeO.bind ?_ (fun _ => ?_))
   | exact ih0 _ _ _ _ _ _ _ _ _ _ _ _ _ _ _ _ _ _ _
   | exact ih1 _ _ _ _ _ _ _ _ _ _ _ _ _ _ _ _ _ _ _ _
   | exact ih2 _ _ _ _ _ _ _ _ _ _ _ _ _ _ _ _ _ _ _
   | exact LeO.none _
   | refine LeO.ite ?_ ?_
   | refine LeO.bind ?_ (fun _ => ?_)
  ·
   intro y0 y1 y2 y3 y4 y5 y6 y7 y8 y9 y10 y11 y12 y13 y14 y15 y16 y17 y18
   unfold pelotonref15_Same.l1
   repeat' first
   | (with_reducible exact ih0 _ _ _ _ _ _ _ _ _ _ _ _ _ _ _ _ _ _ _)
   | (with_reducible exact ih1 _ _ _ _ _ _ _ _ _ _ _ _ _ _ _ _ _ _ _ _)
   | (with_reducible exact ih2 _ _ _ _ _ _ _ _ _ _ _ _ _ _ _ _ _ _ _)
   | (with_reducible exact LeO.refl _)
   | (with_reducible exact LeO.none _)
   | (with_reducible refine LeO.ite ?_ ?_)
   | (with_reducible refine LeO.bind ?_ (fun _ => ?_))
   | exact ih0 _ _ _ _ _ _ _ _ _ _ _ _ _ _ _ _ _ _ _
   | exact ih1 _ _ _ _ _ _ _ _ _ _ _ _ _ _ _ _ _ _ _ _
   | exact ih2 _ _ _ _ _ _ _ _ _ _ _ _ _ _ _ _ _ _ _
   | exact LeO.none _
   | refine LeO.ite ?_ ?_
   | refine LeO.bind ?_ (fun _ => ?_)
theorem pelotonref15_Same.mono : ∀ a0 a1 a2 a3 a4 a5 a6 a7 a8 a9 a10 a11 a12 a13 a14 a15 a16 a17 k, LeO (pelotonref15_Same.f k a0 a1 a2 a3 a4 a5 a6 a7 a8 a9 a10 a11 a12 a13 a14 a15 a16 a17) (pelotonref15_Same.f (k + 1) a0 a1 a2 a3 a4 a5 a6 a7 a8 a9 a10 a11 a12 a13 a14 a15 a16 a17) := by
 intro a0 a1 a2 a3 a4 a5 a6 a7 a8 a9 a10 a11 a12 a13 a14 a15 a16 a17 k
 obtain ⟨ih0, ih1, ih2⟩ := pelotonref15_Same.mono_l k
 unfold pelotonref15_Same.f
 repeat' first
   | (with_reducible exact ih0 _ _ _ _ _ _ _ _ _ _ _ _ _ _ _ _ _ _ _)
   | (with_reducible exact ih1 _ _ _ _ _ _ _ _ _ _ _ _ _ _ _ _ _ _ _ _)
   | (with_reducible exact ih2 _ _ _ _ _ _ _ _ _ _ _ _ _ _ _ _ _ _ _)
   | (with_reducible exact LeO.refl _)
   | (with_reducible exact LeO.none _)
   | (with_reducible refine LeO.ite ?_ ?_)
   | (with_reducible refine LeO.bind ?_ (fun _ => ?_))
   | exact ih0 _ _ _ _ _ _ _ _ _ _ _ _ _ _ _ _ _ _ _
   | exact ih1 _ _ _ _ _ _ _ _ _ _ _ _ _ _ _ _ _ _ _ _
   | exact ih2 _ _ _ _ _ _ _ _ _ _ _ _ _ _ _ _ _ _ _
   | exact LeO.none _
   | refine LeO.ite ?_ ?_
   | refine LeO.bind ?_ (fun _ => ?_)
def pelotonref15_Same.T7 : Bool × List (List Nat × List Nat) := (true, [([], []), ([], []), ([], []), ([1, 2], [1, 2]), ([0, 3], [0, 3]), ([], []), ([], []), ([], []), ([6, 7], [6, 7]), ([5, 8, 4], [5, 8]), ([4, 9], [4, 9])])
def pelotonref15_Same.B7 : List Nat := [0, 0, 0, 6, 15, 0, 0, 0, 192, 511, 1023]
theorem pelotonref15_Same.tab7 : rtab .any (opsOf Try.f13 7) = pelotonref15_Same.T7 := by kernel_rfl
theorem pelotonref15_Same.bits7 : waitsOk pelotonref15_Same.T7.2 pelotonref15_Same.B7 = true := by kernel_rfl
def pelotonref15_Same.T12 : Bool × List (List Nat × List Nat) := (true, [([], []), ([0], [0]), ([], []), ([1, 2], [1, 2]), ([3], [3]), ([], []), ([5], [5]), ([], []), ([6, 7], [6, 7]), ([8], [8]), ([4, 9], [4, 9])])
def pelotonref15_Same.B12 : List Nat := [0, 1, 0, 7, 15, 0, 32, 0, 224, 480, 1023]
theorem pelotonref15_Same.tab12 : rtab .any (opsOf Try.f13 12) = pelotonref15_Same.T12 := by kernel_rfl
theorem pelotonref15_Same.bits12 : waitsOk pelotonref15_Same.T12.2 pelotonref15_Same.B12 = true := by kernel_rfl
set_option maxHeartbeats 60000000 in
set_option maxRecDepth 100000 in
theorem pelotonref15_Same.calls (k : Nat) (a0_0 : Int) (a0_1 : Int) (a0_2 : Int) (a0_3 : Int) (a0_4 : Int) (a0_5 : Int) (a0_6 : Int) (a0_7 : Int) (A0_8 : Option Addr) (c0_8 : Nat) (l0_8 : List Int) (a1_0 : Int) (a1_1 : Int) (a1_2 : Int) (a1_3 : Int) (a1_4 : Int) (a1_5 : Int) (a1_6 : Int) (a1_7 : Int) (A1_8 : Option Addr) (c1_8 : Nat) (l1_8 : List Int) (r : Bool) (w : World) (hr0_8 : Kd.C (Kd.int .i32) w A0_8 l0_8.length l0_8) (hc0_8 : l0_8.length ≤ c0_8) (hr1_8 : Kd.C (Kd.int .i32) w A1_8 l1_8.length l1_8) (hc1_8 : l1_8.length ≤ c1_8) (h : pelotonref15_Same.f k a0_0 a0_1 a0_2 a0_3 a0_4 a0_5 a0_6 a0_7 l0_8 a1_0 a1_1 a1_2 a1_3 a1_4 a1_5 a1_6 a1_7 l1_8 = some r) :
  Calls Try.prog 13 #[.agg #[.int .i64 a0_0, .int .i64 a0_1, .int .i64 a0_2, .int .i64 a0_3, .int .i64 a0_4, .int .i64 a0_5, .int .i64 a0_6, .int .i64 a0_7, .slice A0_8 l0_8.length c0_8], .agg #[.int .i64 a1_0, .int .i64 a1_1, .int .i64 a1_2, .int .i64 a1_3, .int .i64 a1_4, .int .i64 a1_5, .int .i64 a1_6, .int .i64 a1_7, .slice A1_8 l1_8.length c1_8]] w fun e w' => e = .returned (.bool r) ∧ Below w.heap.size w w' := by
 have hu24 := Try.underlying24
 have HR0_8 := Aside0.mk hr0_8
 have HC0_8 := Aside0.mk hc0_8
 clear hr0_8 hc0_8
 have HR1_8 := Aside0.mk hr1_8
 have HC1_8 := Aside0.mk hc1_8
 clear hr1_8 hc1_8
 have HB := Aside0.mk (Below.refl w.heap.size w)
 have H : (if a0_0 = a1_0 then (pelotonref15_Same.j0 k ((l0_8.length : Int) != (l1_8.length : Int)) a0_0 a0_1 a0_2 a0_3 a0_4 a0_5 a0_6 a0_7 l0_8 a1_0 a1_1 a1_2 a1_3 a1_4 a1_5 a1_6 a1_7 l1_8) else (pelotonref15_Same.j0 k true a0_0 a0_1 a0_2 a0_3 a0_4 a0_5 a0_6 a0_7 l0_8 a1_0 a1_1 a1_2 a1_3 a1_4 a1_5 a1_6 a1_7 l1_8)) = some r := h
 clear h
 have HC3 := Aside0.mk H
 clear H
 go_enter Try.func13, Try.ntmps13
 go_upto_region 1 with (first | ((with_reducible refine gate_dst (N := 2) rfl ?_); (try (refine gate_guard (by rfl) ?_; dsimp only)); refine box_event ?hg (N := 2) ?hd (cs := #[.int .i64 a0_0, .int .i64 a0_1, .int .i64 a0_2, .int .i64 a0_3, .int .i64 a0_4, .int .i64 a0_5, .int .i64 a0_6, .int .i64 a0_7, .slice A0_8 l0_8.length c0_8]) (t := 24) ?hr ?_; (case hd => rfl); (case hg => rfl); (case hr => first | (go_simp; done) | (go_simp; rfl)); intro gb162 hg w4 hbox hb; have BK162 := Aside0.mk (hbox); have GW162 := Aside0.mk ((by rw [hg]; exact (below_size (bw_ HB)) : w.heap.size ≤ gb162)); have GE162 := Aside0.mk ((by rw [hg]; exact (below_size (bw_ HB)) : w.heap.size ≤ gb162)); replace HB := Aside0.mk (below_step (bw_ HB) hb); clear hb hbox hg) | ((with_reducible refine gate_dst (N := 3) rfl ?_); (try (refine gate_guard (by rfl) ?_; dsimp only)); refine box_event ?hg (N := 3) ?hd (cs := #[.int .i64 a1_0, .int .i64 a1_1, .int .i64 a1_2, .int .i64 a1_3, .int .i64 a1_4, .int .i64 a1_5, .int .i64 a1_6, .int .i64 a1_7, .slice A1_8 l1_8.length c1_8]) (t := 24) ?hr ?_; (case hd => rfl); (case hg => rfl); (case hr => first | (go_simp; done) | (go_simp; rfl)); intro gb163 hg w5 hbox hb; have BK163 := Aside0.mk (hbox); have GW163 := Aside0.mk ((by rw [hg]; exact (below_size (bw_ HB)) : w.heap.size ≤ gb163)); have GE163 := Aside0.mk ((by rw [hg]; exact (below_size (bw_ HB)) : w.heap.size ≤ gb163)); have NB162_163 := Aside0.mk ((by rw [hg]; exact Nat.ne_of_lt (blk_lt (tk_ BK162)) : gb162 ≠ gb163)); have NB163_162 := Aside0.mk ((by rw [hg]; exact Nat.ne_of_gt (blk_lt (tk_ BK162)) : gb163 ≠ gb162)); replace BK162 := Aside0.mk (blk_below (tk_ BK162) hb); replace HB := Aside0.mk (below_step (bw_ HB) hb); clear hb hbox hg))
 (try simp only [Act.put, l_1, l_2, l_3])
 go_cut [21] (fun v21 wc => ∃ (kq : Nat) (x21_2 : Bool), v21 = .bool x21_2 ∧ Aside0 (pelotonref15_Same.j0 kq x21_2 a0_0 a0_1 a0_2 a0_3 a0_4 a0_5 a0_6 a0_7 l0_8 a1_0 a1_1 a1_2 a1_3 a1_4 a1_5 a1_6 a1_7 l1_8 = some r) ∧ Aside0 (kq ≤ k) ∧ Aside0 (wc.heap[gb162]? = some (.cells #[.int .i64 a0_0, .int .i64 a0_1, .int .i64 a0_2, .int .i64 a0_3, .int .i64 a0_4, .int .i64 a0_5, .int .i64 a0_6, .int .i64 a0_7, (.slice A0_8 l0_8.length c0_8)] 24 (0, 0))) ∧ Aside0 (wc.heap[gb163]? = some (.cells #[.int .i64 a1_0, .int .i64 a1_1, .int .i64 a1_2, .int .i64 a1_3, .int .i64 a1_4, .int .i64 a1_5, .int .i64 a1_6, .int .i64 a1_7, (.slice A1_8 l1_8.length c1_8)] 24 (0, 0))) ∧ Aside0 (Below w.heap.size w wc))
 case first =>
  have H := HC3.out
  clear HC3
  by_cases c6 : a0_0 = a1_0
  rotate_left
  ·
   rw [if_neg c6] at H
   have c6b0 : (a0_0 == a1_0) = false := beq_eq_false_iff_ne.mpr c6
   have c6b1 : (a0_0 != a1_0) = true := bne_iff_ne.mpr c6
   (first | rw [c6b0] | (simp only [i64_w, i32_w]; rw [c6b0]) | skip)
   have H' := Aside0.mk H
   clear H
   have hnb10 := NB162_163.out
   have hnc10 := NB163_162.out
   have hcz11_0 := bc_0 BK162
   have hcz11_1 := bc_1 BK162
   have hcz11_2 := bc_2 BK162
   have hcz11_3 := bc_3 BK162
   have hcz11_4 := bc_4 BK162
   have hcz11_5 := bc_5 BK162
   have hcz11_6 := bc_6 BK162
   have hcz11_7 := bc_7 BK162
   have hcz11_8 : w5.cell? ⟨gb162, 8, none⟩ = some (.slice A0_8 l0_8.length c0_8) := (blk_cell BK162.out 8).trans rfl
   have hfz11_0 := blk_frozen BK162.out 0
   have hfz11_1 := blk_frozen BK162.out 1
   have hfz11_2 := blk_frozen BK162.out 2
   have hfz11_3 := blk_frozen BK162.out 3
   have hfz11_4 := blk_frozen BK162.out 4
   have hfz11_5 := blk_frozen BK162.out 5
   have hfz11_6 := blk_frozen BK162.out 6
   have hfz11_7 := blk_frozen BK162.out 7
   have hfz11_8 := blk_frozen BK162.out 8
   have hcz12_0 := bc_0 BK163
   have hcz12_1 := bc_1 BK163
   have hcz12_2 := bc_2 BK163
   have hcz12_3 := bc_3 BK163
   have hcz12_4 := bc_4 BK163
   have hcz12_5 := bc_5 BK163
   have hcz12_6 := bc_6 BK163
   have hcz12_7 := bc_7 BK163
   have hcz12_8 : w5.cell? ⟨gb163, 8, none⟩ = some (.slice A1_8 l1_8.length c1_8) := (blk_cell BK163.out 8).trans rfl
   have hfz12_0 := blk_frozen BK163.out 0
   have hfz12_1 := blk_frozen BK163.out 1
   have hfz12_2 := blk_frozen BK163.out 2
   have hfz12_3 := blk_frozen BK163.out 3
   have hfz12_4 := blk_frozen BK163.out 4
   have hfz12_5 := blk_frozen BK163.out 5
   have hfz12_6 := blk_frozen BK163.out 6
   have hfz12_7 := blk_frozen BK163.out 7
   have hfz12_8 := blk_frozen BK163.out 8
   go_wp2
   go_meet
   case rel => exact ⟨_, (true), (by first | rfl | (simp; done) | (simp [*]; done)), H', ⟨by first | exact Nat.le_refl _ | omega⟩, ⟨tk_ BK162⟩, ⟨tk_ BK163⟩, ⟨by repeat (first | (with_reducible first | exact HB.out | apply b_a | apply b_n | apply b_d | refine b_s ?_ GE162.out | refine b_s ?_ GE163.out) | exact HB.out)⟩⟩
  rw [if_pos c6] at H
  have c6b0 : (a0_0 == a1_0) = true := beq_iff_eq.mpr c6
  have c6b1 : (a0_0 != a1_0) = false := bne_eq_false_iff_eq.mpr c6
  clear c6
  (first | rw [c6b0] | (simp only [i64_w, i32_w]; rw [c6b0]) | skip)
  have H' := Aside0.mk H
  clear H
  have hnb7 := NB162_163.out
  have hnc7 := NB163_162.out
  have hcz8_0 := bc_0 BK162
  have hcz8_1 := bc_1 BK162
  have hcz8_2 := bc_2 BK162
  have hcz8_3 := bc_3 BK162
  have hcz8_4 := bc_4 BK162
  have hcz8_5 := bc_5 BK162
  have hcz8_6 := bc_6 BK162
  have hcz8_7 := bc_7 BK162
  have hcz8_8 : w5.cell? ⟨gb162, 8, none⟩ = some (.slice A0_8 l0_8.length c0_8) := (blk_cell BK162.out 8).trans rfl
  have hfz8_0 := blk_frozen BK162.out 0
  have hfz8_1 := blk_frozen BK162.out 1
  have hfz8_2 := blk_frozen BK162.out 2
  have hfz8_3 := blk_frozen BK162.out 3
  have hfz8_4 := blk_frozen BK162.out 4
  have hfz8_5 := blk_frozen BK162.out 5
  have hfz8_6 := blk_frozen BK162.out 6
  have hfz8_7 := blk_frozen BK162.out 7
  have hfz8_8 := blk_frozen BK162.out 8
  have hcz9_0 := bc_0 BK163
  have hcz9_1 := bc_1 BK163
  have hcz9_2 := bc_2 BK163
  have hcz9_3 := bc_3 BK163
  have hcz9_4 := bc_4 BK163
  have hcz9_5 := bc_5 BK163
  have hcz9_6 := bc_6 BK163
  have hcz9_7 := bc_7 BK163
  have hcz9_8 : w5.cell? ⟨gb163, 8, none⟩ = some (.slice A1_8 l1_8.length c1_8) := (blk_cell BK163.out 8).trans rfl
  have hfz9_0 := blk_frozen BK163.out 0
  have hfz9_1 := blk_frozen BK163.out 1
  have hfz9_2 := blk_frozen BK163.out 2
  have hfz9_3 := blk_frozen BK163.out 3
  have hfz9_4 := blk_frozen BK163.out 4
  have hfz9_5 := blk_frozen BK163.out 5
  have hfz9_6 := blk_frozen BK163.out 6
  have hfz9_7 := blk_frozen BK163.out 7
  have hfz9_8 := blk_frozen BK163.out 8
  go_wp2
  go_meet
  case rel => exact ⟨_, (((l0_8.length : Int) != (l1_8.length : Int))), (by first | rfl | (simp; done) | (simp [*]; done)), H', ⟨by first | exact Nat.le_refl _ | omega⟩, ⟨tk_ BK162⟩, ⟨tk_ BK163⟩, ⟨by repeat (first | (with_reducible first | exact HB.out | apply b_a | apply b_n | apply b_d | refine b_s ?_ GE162.out | refine b_s ?_ GE163.out) | exact HB.out)⟩⟩
 case rest => as_aux_lemma =>
  clear HC3
  try clear c1
  try clear p2
  try clear c6
  try clear c6b0
  try clear c6b1
  try clear c7
  try clear c10
  try clear hcz11_0
  try clear hcz11_1
  try clear hcz11_2
  try clear hcz11_3
  try clear hcz11_4
  try clear hcz11_5
  try clear hcz11_6
  try clear hcz11_7
  try clear hcz11_8
  try clear hcz12_0
  try clear hcz12_1
  try clear hcz12_2
  try clear hcz12_3
  try clear hcz12_4
  try clear hcz12_5
  try clear hcz12_6
  try clear hcz12_7
  try clear hcz12_8
  try clear hcz8_0
  try clear hcz8_1
  try clear hcz8_2
  try clear hcz8_3
  try clear hcz8_4
  try clear hcz8_5
  try clear hcz8_6
  try clear hcz8_7
  try clear hcz8_8
  try clear hcz9_0
  try clear hcz9_1
  try clear hcz9_2
  try clear hcz9_3
  try clear hcz9_4
  try clear hcz9_5
  try clear hcz9_6
  try clear hcz9_7
  try clear hcz9_8
  try clear hfz11_0
  try clear hfz11_1
  try clear hfz11_2
  try clear hfz11_3
  try clear hfz11_4
  try clear hfz11_5
  try clear hfz11_6
  try clear hfz11_7
  try clear hfz11_8
  try clear hfz12_0
  try clear hfz12_1
  try clear hfz12_2
  try clear hfz12_3
  try clear hfz12_4
  try clear hfz12_5
  try clear hfz12_6
  try clear hfz12_7
  try clear hfz12_8
  try clear hfz8_0
  try clear hfz8_1
  try clear hfz8_2
  try clear hfz8_3
  try clear hfz8_4
  try clear hfz8_5
  try clear hfz8_6
  try clear hfz8_7
  try clear hfz8_8
  try clear hfz9_0
  try clear hfz9_1
  try clear hfz9_2
  try clear hfz9_3
  try clear hfz9_4
  try clear hfz9_5
  try clear hfz9_6
  try clear hfz9_7
  try clear hfz9_8
  obtain ⟨kq, x21_2, rfl, HA, HJ2, BK162, BK163, HB⟩ := hcut
  cases kq with
  | zero => exact absurd HA.out (by simp [pelotonref15_Same.j0])
  | succ kj2 =>
   have H := HA.out
   clear HA
   simp only [pelotonref15_Same.j0] at H
   by_cases c13 : x21_2 = true
   ·
    subst c13
    have H1 : (some false) = some r := by rw [if_pos rfl] at H; exact H
    clear H
    have H := H1
    clear H1
    obtain rfl := Option.some.inj H
    go_wp2
    go_ret
    exact ⟨by first | rfl | (simp [errW_none, errW_some] <;> rfl) | (simp [*, errW_none, errW_some] <;> rfl), by repeat (first | (with_reducible first | exact HB.out | apply b_a | apply b_n | apply b_d | refine b_s ?_ GE162.out | refine b_s ?_ GE163.out) | exact HB.out)⟩
   replace c13 := Bool.eq_false_iff.mpr c13
   subst c13
   have H1 : (pelotonref15_Same.l0 kj2 (⟨#[101, 114, 112, 108, 115, 116, 107]⟩ : ByteArray) 0 a0_0 a0_1 a0_2 a0_3 a0_4 a0_5 a0_6 a0_7 l0_8 a1_0 a1_1 a1_2 a1_3 a1_4 a1_5 a1_6 a1_7 l1_8) = some r := by rw [if_neg (show ¬ (false = true) by decide)] at H; exact H
   clear H
   have H := H1
   clear H1
   have H' := Aside0.mk H
   clear H
   go_wp2
   go_loopg [6] kj2 (fun kq v6 w' => ∃ (x6_2 : Int), v6 = .int .i64 x6_2 ∧ Aside0 (pelotonref15_Same.l0 kq (⟨#[101, 114, 112, 108, 115, 116, 107]⟩ : ByteArray) x6_2 a0_0 a0_1 a0_2 a0_3 a0_4 a0_5 a0_6 a0_7 l0_8 a1_0 a1_1 a1_2 a1_3 a1_4 a1_5 a1_6 a1_7 l1_8 = some r) ∧ Aside0 (kq ≤ kj2) ∧ Aside0 (w'.heap[gb162]? = some (.cells #[.int .i64 a0_0, .int .i64 a0_1, .int .i64 a0_2, .int .i64 a0_3, .int .i64 a0_4, .int .i64 a0_5, .int .i64 a0_6, .int .i64 a0_7, (.slice A0_8 l0_8.length c0_8)] 24 (0, 0))) ∧ Aside0 (w'.heap[gb163]? = some (.cells #[.int .i64 a1_0, .int .i64 a1_1, .int .i64 a1_2, .int .i64 a1_3, .int .i64 a1_4, .int .i64 a1_5, .int .i64 a1_6, .int .i64 a1_7, (.slice A1_8 l1_8.length c1_8)] 24 (0, 0))) ∧ Aside0 (Below w.heap.size w w'))
   case atStart => exact ⟨(0), (by first | rfl | (simp; done) | (simp [*]; done)), H', ⟨Nat.le_refl _⟩, ⟨tk_ BK162⟩, ⟨tk_ BK163⟩, ⟨by repeat (first | (with_reducible first | exact HB.out | apply b_a | apply b_n | apply b_d | refine b_s ?_ GE162.out | refine b_s ?_ GE163.out) | exact HB.out)⟩⟩
   case round =>
    clear H'
    try clear c1
    try clear p2
    try clear c6
    try clear c6b0
    try clear c6b1
    try clear c7
    try clear c10
    try clear c13
    try clear hcz11_0
    try clear hcz11_1
    try clear hcz11_2
    try clear hcz11_3
    try clear hcz11_4
    try clear hcz11_5
    try clear hcz11_6
    try clear hcz11_7
    try clear hcz11_8
    try clear hcz12_0
    try clear hcz12_1
    try clear hcz12_2
    try clear hcz12_3
    try clear hcz12_4
    try clear hcz12_5
    try clear hcz12_6
    try clear hcz12_7
    try clear hcz12_8
    try clear hcz8_0
    try clear hcz8_1
    try clear hcz8_2
    try clear hcz8_3
    try clear hcz8_4
    try clear hcz8_5
    try clear hcz8_6
    try clear hcz8_7
    try clear hcz8_8
    try clear hcz9_0
    try clear hcz9_1
    try clear hcz9_2
    try clear hcz9_3
    try clear hcz9_4
    try clear hcz9_5
    try clear hcz9_6
    try clear hcz9_7
    try clear hcz9_8
    try clear hfz11_0
    try clear hfz11_1
    try clear hfz11_2
    try clear hfz11_3
    try clear hfz11_4
    try clear hfz11_5
    try clear hfz11_6
    try clear hfz11_7
    try clear hfz11_8
    try clear hfz12_0
    try clear hfz12_1
    try clear hfz12_2
    try clear hfz12_3
    try clear hfz12_4
    try clear hfz12_5
    try clear hfz12_6
    try clear hfz12_7
    try clear hfz12_8
    try clear hfz8_0
    try clear hfz8_1
    try clear hfz8_2
    try clear hfz8_3
    try clear hfz8_4
    try clear hfz8_5
    try clear hfz8_6
    try clear hfz8_7
    try clear hfz8_8
    try clear hfz9_0
    try clear hfz9_1
    try clear hfz9_2
    try clear hfz9_3
    try clear hfz9_4
    try clear hfz9_5
    try clear hfz9_6
    try clear hfz9_7
    try clear hfz9_8
    try clear p2
    obtain ⟨x6_2, rfl, HA, HK2, BK162, BK163, HB⟩ := hrel
    cases gk with
    | zero => exact absurd HA.out (by simp [pelotonref15_Same.l0])
    | succ k2 =>
     have H := HA.out
     clear HA
     simp only [pelotonref15_Same.l0] at H
     by_cases c14 : x6_2 < ((⟨#[101, 114, 112, 108, 115, 116, 107]⟩ : ByteArray).size : Int)
     ·
      rw [if_pos c14] at H
      have c14b0 : decide (x6_2 < ((⟨#[101, 114, 112, 108, 115, 116, 107]⟩ : ByteArray).size : Int)) = true := decide_eq_true c14
      have c14b0n : decide (x6_2 < (7 : Int)) = true := decide_eq_true (show x6_2 < (7 : Int) from of_decide_eq_true c14b0)
      clear c14
      by_cases c15 : 0 ≤ x6_2
      rotate_left
      ·
       rw [if_neg c15] at H
       exact absurd H (by simp)
      rw [if_pos c15] at H
      have c15b0 : decide (0 ≤ x6_2) = true := decide_eq_true c15
      clear c15
      replace H := Option.bind_eq_some_iff.mp H
      obtain ⟨t164, A170, H⟩ := H
      replace H : ((pelotonref15_Num.f a1_0 a1_1 a1_2 a1_3 a1_4 a1_5 a1_6 a1_7 l1_8 (bt (⟨#[101, 114, 112, 108, 115, 116, 107]⟩ : ByteArray) x6_2)).bind fun t165 => (if t164 = t165 then (pelotonref15_Same.l0 k2 (⟨#[101, 114, 112, 108, 115, 116, 107]⟩ : ByteArray) (wrap64 (x6_2 + 1)) a0_0 a0_1 a0_2 a0_3 a0_4 a0_5 a0_6 a0_7 l0_8 a1_0 a1_1 a1_2 a1_3 a1_4 a1_5 a1_6 a1_7 l1_8) else (some false))) = some r := H
      have A17 := Aside0.mk A170
      clear A170
      replace H := Option.bind_eq_some_iff.mp H
      obtain ⟨t165, A190, H⟩ := H
      replace H : (if t164 = t165 then (pelotonref15_Same.l0 k2 (⟨#[101, 114, 112, 108, 115, 116, 107]⟩ : ByteArray) (wrap64 (x6_2 + 1)) a0_0 a0_1 a0_2 a0_3 a0_4 a0_5 a0_6 a0_7 l0_8 a1_0 a1_1 a1_2 a1_3 a1_4 a1_5 a1_6 a1_7 l1_8) else (some false)) = some r := H
      have A19 := Aside0.mk A190
      clear A190
      by_cases c20 : t164 = t165
      rotate_left
      ·
       rw [if_neg c20] at H
       have c20b0 : (t164 == t165) = false := beq_eq_false_iff_ne.mpr c20
       have c20b1 : (t164 != t165) = true := bne_iff_ne.mpr c20
       obtain rfl := Option.some.inj H
       try go_wp2
       replace BK162 := Aside0.mk (k_d BK162.out)
       replace BK163 := Aside0.mk (k_d BK163.out)
       replace HB := Aside0.mk (b_d HB.out)
       have p16 : 0 ≤ (x6_2 : Int) := of_decide_eq_true (by first | (with_reducible assumption) | assumption)
       have q16 : x6_2 < (7 : Int) := of_decide_eq_true (by first | (with_reducible assumption) | assumption)
       have hx16 := bt_at (⟨#[101, 114, 112, 108, 115, 116, 107]⟩ : ByteArray) x6_2
       replace p16 := eq_true p16
       replace q16 := eq_true q16
       have p18 : 0 ≤ (x6_2 : Int) := of_decide_eq_true (by first | (with_reducible assumption) | assumption)
       have q18 : x6_2 < (7 : Int) := of_decide_eq_true (by first | (with_reducible assumption) | assumption)
       have hx18 := bt_at (⟨#[101, 114, 112, 108, 115, 116, 107]⟩ : ByteArray) x6_2
       replace p18 := eq_true p18
       replace q18 := eq_true q18
       refine start_ (n := 11) (S := fun w' => w'.cell? ⟨gb162, 0, none⟩ = some (.int .i64 a0_0) ∧ w'.cell? ⟨gb162, 1, none⟩ = some (.int .i64 a0_1) ∧ w'.cell? ⟨gb162, 2, none⟩ = some (.int .i64 a0_2) ∧ w'.cell? ⟨gb162, 3, none⟩ = some (.int .i64 a0_3) ∧ w'.cell? ⟨gb162, 4, none⟩ = some (.int .i64 a0_4) ∧ w'.cell? ⟨gb162, 5, none⟩ = some (.int .i64 a0_5) ∧ w'.cell? ⟨gb162, 6, none⟩ = some (.int .i64 a0_6) ∧ w'.cell? ⟨gb162, 7, none⟩ = some (.int .i64 a0_7) ∧ w'.cell? ⟨gb162, 8, none⟩ = some (.slice A0_8 l0_8.length c0_8) ∧ w'.cell? ⟨gb163, 0, none⟩ = some (.int .i64 a1_0) ∧ w'.cell? ⟨gb163, 1, none⟩ = some (.int .i64 a1_1) ∧ w'.cell? ⟨gb163, 2, none⟩ = some (.int .i64 a1_2) ∧ w'.cell? ⟨gb163, 3, none⟩ = some (.int .i64 a1_3) ∧ w'.cell? ⟨gb163, 4, none⟩ = some (.int .i64 a1_4) ∧ w'.cell? ⟨gb163, 5, none⟩ = some (.int .i64 a1_5) ∧ w'.cell? ⟨gb163, 6, none⟩ = some (.int .i64 a1_6) ∧ w'.cell? ⟨gb163, 7, none⟩ = some (.int .i64 a1_7) ∧ w'.cell? ⟨gb163, 8, none⟩ = some (.slice A1_8 l1_8.length c1_8)) (ds := []) #[false, false, false, false, false, false, false, false, false, false, false] (by kernel_rfl) rfl rfl ⟨(blk_cell BK162.out 0).trans rfl, (blk_cell BK162.out 1).trans rfl, (blk_cell BK162.out 2).trans rfl, (blk_cell BK162.out 3).trans rfl, (blk_cell BK162.out 4).trans rfl, (blk_cell BK162.out 5).trans rfl, (blk_cell BK162.out 6).trans rfl, (blk_cell BK162.out 7).trans rfl, (blk_cell BK162.out 8).trans rfl, (blk_cell BK163.out 0).trans rfl, (blk_cell BK163.out 1).trans rfl, (blk_cell BK163.out 2).trans rfl, (blk_cell BK163.out 3).trans rfl, (blk_cell BK163.out 4).trans rfl, (blk_cell BK163.out 5).trans rfl, (blk_cell BK163.out 6).trans rfl, (blk_cell BK163.out 7).trans rfl, (blk_cell BK163.out 8).trans rfl⟩ (fun hHeld => ?_); refine with_tabW pelotonref15_Same.tab7 pelotonref15_Same.bits7 (fun HT_ HW_ => ?_)
       generalize wr.drew = w24 at BK162 BK163 HB hHeld ⊢
       refine pu_ (i := 1) (N := some 29) (bs_ 11 2) rfl rfl HT_ ?_
       refine pu_ (i := 2) (N := some 30) (bs_ 11 6) rfl rfl HT_ ?_
       refine pu_ (i := 6) (N := some 34) (bs_ 11 70) rfl rfl HT_ ?_
       refine pu_ (i := 7) (N := some 35) (bs_ 11 198) rfl rfl HT_ ?_
       refine take_ (i := 0) (N := some 28) (v := ?_) (a' := ?_) (bs_ 11 199) rfl rfl (take_ofW HT_.out HW_.out (by kernel_rfl)) (fun _ _ _ h => h) (Or.inl ⟨by rfl, ?_⟩) hHeld ?_ ?_
       rotate_left
       ·
        rintro w' ⟨s0, s1, s2, s3, s4, s5, s6, s7, s8, s9, s10, s11, s12, s13, s14, s15, s16, s17⟩
        go_simp
        with_reducible rfl
       rotate_left
       ·
        simp only [Act.put, l_1, l_2, l_3, i64_w, i32_w]
        rfl
       refine take_ (i := 3) (N := some 31) (v := ?_) (a' := ?_) (bs_ 11 207) rfl rfl (take_ofW HT_.out HW_.out (by kernel_rfl)) (fun _ _ _ h => h) (Or.inl ⟨by rfl, ?_⟩) hHeld ?_ ?_
       rotate_left
       ·
        rintro w' ⟨s0, s1, s2, s3, s4, s5, s6, s7, s8, s9, s10, s11, s12, s13, s14, s15, s16, s17⟩
        go_simp
        with_reducible rfl
       rotate_left
       ·
        simp only [Act.put, l_1, l_2, l_3, i64_w, i32_w]
        rfl
       refine take_ (i := 5) (N := some 33) (v := ?_) (a' := ?_) (bs_ 11 239) rfl rfl (take_ofW HT_.out HW_.out (by kernel_rfl)) (fun _ _ _ h => h) (Or.inl ⟨by rfl, ?_⟩) hHeld ?_ ?_
       rotate_left
       ·
        rintro w' ⟨s0, s1, s2, s3, s4, s5, s6, s7, s8, s9, s10, s11, s12, s13, s14, s15, s16, s17⟩
        go_simp
        with_reducible rfl
       rotate_left
       ·
        simp only [Act.put, l_1, l_2, l_3, i64_w, i32_w]
        rfl
       refine take_ (i := 8) (N := some 36) (v := ?_) (a' := ?_) (bs_ 11 495) rfl rfl (take_ofW HT_.out HW_.out (by kernel_rfl)) (fun _ _ _ h => h) (Or.inl ⟨by rfl, ?_⟩) hHeld ?_ ?_
       rotate_left
       ·
        rintro w' ⟨s0, s1, s2, s3, s4, s5, s6, s7, s8, s9, s10, s11, s12, s13, s14, s15, s16, s17⟩
        go_simp
        with_reducible rfl
       rotate_left
       ·
        simp only [Act.put, l_1, l_2, l_3, i64_w, i32_w]
        rfl
       refine one_ (i := 4) (N := some 32) (bs_ 11 511) rfl rfl (one_of HT_.out (by kernel_rfl)) (by decide) (fun K hK => ?_)
       refine goes_ Try.func20 (by kernel_rfl) rfl #[.agg #[.int .i64 a0_0, .int .i64 a0_1, .int .i64 a0_2, .int .i64 a0_3, .int .i64 a0_4, .int .i64 a0_5, .int .i64 a0_6, .int .i64 a0_7, .slice A0_8 l0_8.length c0_8], .int .u8 (bt (⟨#[101, 114, 112, 108, 115, 116, 107]⟩ : ByteArray) x6_2)] (by rfl) rfl rfl (by (try simp only [l_4, l_5, l_6]); first | done | rfl | (simp only [l_7, l_8]; rfl)) ?_
       with_reducible refine (pelotonref15_Num.calls a0_0 a0_1 a0_2 a0_3 a0_4 a0_5 a0_6 a0_7 _ _ l0_8 (bt (⟨#[101, 114, 112, 108, 115, 116, 107]⟩ : ByteArray) x6_2) t164 _ ?side1 ?side2 A17.out).mono ?_
       (case side1 => repeat (first | exact (Kd.C_below HR0_8.out HB.out) | (with_reducible refine Kd.C_alloc ?_ _) | (with_reducible refine Kd.C_drewN ?_ _) | (with_reducible refine Kd.C_drew ?_)))
       (case side2 => exact HC0_8.out)
       rintro e w25 ⟨rfl, hb⟩
       refine ⟨_, rfl, ?_⟩
       replace BK162 := Aside0.mk (blk_below (tk_ BK162) hb)
       replace BK163 := Aside0.mk (blk_below (tk_ BK163) hb)
       replace HB := Aside0.mk (below_step (bw_ HB) hb)
       (try clear hb)
       (try clear hb2)
       (try clear hk)
       (try clear hi)
       refine hK.out _ _ ⟨(blk_cell BK162.out 0).trans rfl, (blk_cell BK162.out 1).trans rfl, (blk_cell BK162.out 2).trans rfl, (blk_cell BK162.out 3).trans rfl, (blk_cell BK162.out 4).trans rfl, (blk_cell BK162.out 5).trans rfl, (blk_cell BK162.out 6).trans rfl, (blk_cell BK162.out 7).trans rfl, (blk_cell BK162.out 8).trans rfl, (blk_cell BK163.out 0).trans rfl, (blk_cell BK163.out 1).trans rfl, (blk_cell BK163.out 2).trans rfl, (blk_cell BK163.out 3).trans rfl, (blk_cell BK163.out 4).trans rfl, (blk_cell BK163.out 5).trans rfl, (blk_cell BK163.out 6).trans rfl, (blk_cell BK163.out 7).trans rfl, (blk_cell BK163.out 8).trans rfl⟩ (fun hHeld => ?_)
       clear hK K
       refine no_ (N := some 32) ?_
       refine one_ (i := 9) (N := some 37) (bs_ 11 1023) rfl rfl (one_of HT_.out (by kernel_rfl)) (by decide) (fun K hK => ?_)
       refine goes_ Try.func20 (by kernel_rfl) rfl #[.agg #[.int .i64 a1_0, .int .i64 a1_1, .int .i64 a1_2, .int .i64 a1_3, .int .i64 a1_4, .int .i64 a1_5, .int .i64 a1_6, .int .i64 a1_7, .slice A1_8 l1_8.length c1_8], .int .u8 (bt (⟨#[101, 114, 112, 108, 115, 116, 107]⟩ : ByteArray) x6_2)] (by rfl) rfl rfl (by (try simp only [l_4, l_5, l_6]); first | done | rfl | (simp only [l_7, l_8]; rfl)) ?_
       with_reducible refine (pelotonref15_Num.calls a1_0 a1_1 a1_2 a1_3 a1_4 a1_5 a1_6 a1_7 _ _ l1_8 (bt (⟨#[101, 114, 112, 108, 115, 116, 107]⟩ : ByteArray) x6_2) t165 _ ?side1 ?side2 A19.out).mono ?_
       (case side1 => repeat (first | exact (Kd.C_below HR1_8.out HB.out) | (with_reducible refine Kd.C_alloc ?_ _) | (with_reducible refine Kd.C_drewN ?_ _) | (with_reducible refine Kd.C_drew ?_)))
       (case side2 => exact HC1_8.out)
       rintro e w26 ⟨rfl, hb⟩
       refine ⟨_, rfl, ?_⟩
       replace BK162 := Aside0.mk (blk_below (tk_ BK162) hb)
       replace BK163 := Aside0.mk (blk_below (tk_ BK163) hb)
       replace HB := Aside0.mk (below_step (bw_ HB) hb)
       (try clear hb)
       (try clear hb2)
       (try clear hk)
       (try clear hi)
       refine hK.out _ _ ⟨(blk_cell BK162.out 0).trans rfl, (blk_cell BK162.out 1).trans rfl, (blk_cell BK162.out 2).trans rfl, (blk_cell BK162.out 3).trans rfl, (blk_cell BK162.out 4).trans rfl, (blk_cell BK162.out 5).trans rfl, (blk_cell BK162.out 6).trans rfl, (blk_cell BK162.out 7).trans rfl, (blk_cell BK162.out 8).trans rfl, (blk_cell BK163.out 0).trans rfl, (blk_cell BK163.out 1).trans rfl, (blk_cell BK163.out 2).trans rfl, (blk_cell BK163.out 3).trans rfl, (blk_cell BK163.out 4).trans rfl, (blk_cell BK163.out 5).trans rfl, (blk_cell BK163.out 6).trans rfl, (blk_cell BK163.out 7).trans rfl, (blk_cell BK163.out 8).trans rfl⟩ (fun hHeld => ?_)
       clear hK K
       refine no_ (N := some 37) ?_
       refine pu_ (i := 10) (N := some 38) (bs_ 11 2047) rfl rfl HT_ ?_
       refine done_ (done_of HT_.out (by kernel_rfl)) ?_
       try go_wp2
       go_ret
       exact ⟨by first | rfl | (simp [errW_none, errW_some] <;> rfl) | (simp [*, errW_none, errW_some] <;> rfl), by repeat (first | (with_reducible first | exact HB.out | apply b_a | apply b_n | apply b_d | refine b_s ?_ GE162.out | refine b_s ?_ GE163.out) | exact HB.out)⟩
      rw [if_pos c20] at H
      have c20b0 : (t164 == t165) = true := beq_iff_eq.mpr c20
      have c20b1 : (t164 != t165) = false := bne_eq_false_iff_eq.mpr c20
      clear c20
      have H' := Aside0.mk H
      clear H
      try go_wp2
      replace BK162 := Aside0.mk (k_d BK162.out)
      replace BK163 := Aside0.mk (k_d BK163.out)
      replace HB := Aside0.mk (b_d HB.out)
      have p16 : 0 ≤ (x6_2 : Int) := of_decide_eq_true (by first | (with_reducible assumption) | assumption)
      have q16 : x6_2 < (7 : Int) := of_decide_eq_true (by first | (with_reducible assumption) | assumption)
      have hx16 := bt_at (⟨#[101, 114, 112, 108, 115, 116, 107]⟩ : ByteArray) x6_2
      replace p16 := eq_true p16
      replace q16 := eq_true q16
      have p18 : 0 ≤ (x6_2 : Int) := of_decide_eq_true (by first | (with_reducible assumption) | assumption)
      have q18 : x6_2 < (7 : Int) := of_decide_eq_true (by first | (with_reducible assumption) | assumption)
      have hx18 := bt_at (⟨#[101, 114, 112, 108, 115, 116, 107]⟩ : ByteArray) x6_2
      replace p18 := eq_true p18
      replace q18 := eq_true q18
      refine start_ (n := 11) (S := fun w' => w'.cell? ⟨gb162, 0, none⟩ = some (.int .i64 a0_0) ∧ w'.cell? ⟨gb162, 1, none⟩ = some (.int .i64 a0_1) ∧ w'.cell? ⟨gb162, 2, none⟩ = some (.int .i64 a0_2) ∧ w'.cell? ⟨gb162, 3, none⟩ = some (.int .i64 a0_3) ∧ w'.cell? ⟨gb162, 4, none⟩ = some (.int .i64 a0_4) ∧ w'.cell? ⟨gb162, 5, none⟩ = some (.int .i64 a0_5) ∧ w'.cell? ⟨gb162, 6, none⟩ = some (.int .i64 a0_6) ∧ w'.cell? ⟨gb162, 7, none⟩ = some (.int .i64 a0_7) ∧ w'.cell? ⟨gb162, 8, none⟩ = some (.slice A0_8 l0_8.length c0_8) ∧ w'.cell? ⟨gb163, 0, none⟩ = some (.int .i64 a1_0) ∧ w'.cell? ⟨gb163, 1, none⟩ = some (.int .i64 a1_1) ∧ w'.cell? ⟨gb163, 2, none⟩ = some (.int .i64 a1_2) ∧ w'.cell? ⟨gb163, 3, none⟩ = some (.int .i64 a1_3) ∧ w'.cell? ⟨gb163, 4, none⟩ = some (.int .i64 a1_4) ∧ w'.cell? ⟨gb163, 5, none⟩ = some (.int .i64 a1_5) ∧ w'.cell? ⟨gb163, 6, none⟩ = some (.int .i64 a1_6) ∧ w'.cell? ⟨gb163, 7, none⟩ = some (.int .i64 a1_7) ∧ w'.cell? ⟨gb163, 8, none⟩ = some (.slice A1_8 l1_8.length c1_8)) (ds := []) #[false, false, false, false, false, false, false, false, false, false, false] (by kernel_rfl) rfl rfl ⟨(blk_cell BK162.out 0).trans rfl, (blk_cell BK162.out 1).trans rfl, (blk_cell BK162.out 2).trans rfl, (blk_cell BK162.out 3).trans rfl, (blk_cell BK162.out 4).trans rfl, (blk_cell BK162.out 5).trans rfl, (blk_cell BK162.out 6).trans rfl, (blk_cell BK162.out 7).trans rfl, (blk_cell BK162.out 8).trans rfl, (blk_cell BK163.out 0).trans rfl, (blk_cell BK163.out 1).trans rfl, (blk_cell BK163.out 2).trans rfl, (blk_cell BK163.out 3).trans rfl, (blk_cell BK163.out 4).trans rfl, (blk_cell BK163.out 5).trans rfl, (blk_cell BK163.out 6).trans rfl, (blk_cell BK163.out 7).trans rfl, (blk_cell BK163.out 8).trans rfl⟩ (fun hHeld => ?_); refine with_tabW pelotonref15_Same.tab7 pelotonref15_Same.bits7 (fun HT_ HW_ => ?_)
      generalize wr.drew = w21 at BK162 BK163 HB hHeld ⊢
      refine pu_ (i := 1) (N := some 29) (bs_ 11 2) rfl rfl HT_ ?_
      refine pu_ (i := 2) (N := some 30) (bs_ 11 6) rfl rfl HT_ ?_
      refine pu_ (i := 6) (N := some 34) (bs_ 11 70) rfl rfl HT_ ?_
      refine pu_ (i := 7) (N := some 35) (bs_ 11 198) rfl rfl HT_ ?_
      refine take_ (i := 0) (N := some 28) (v := ?_) (a' := ?_) (bs_ 11 199) rfl rfl (take_ofW HT_.out HW_.out (by kernel_rfl)) (fun _ _ _ h => h) (Or.inl ⟨by rfl, ?_⟩) hHeld ?_ ?_
      rotate_left
      ·
       rintro w' ⟨s0, s1, s2, s3, s4, s5, s6, s7, s8, s9, s10, s11, s12, s13, s14, s15, s16, s17⟩
       go_simp
       with_reducible rfl
      rotate_left
      ·
       simp only [Act.put, l_1, l_2, l_3, i64_w, i32_w]
       rfl
      refine take_ (i := 3) (N := some 31) (v := ?_) (a' := ?_) (bs_ 11 207) rfl rfl (take_ofW HT_.out HW_.out (by kernel_rfl)) (fun _ _ _ h => h) (Or.inl ⟨by rfl, ?_⟩) hHeld ?_ ?_
      rotate_left
      ·
       rintro w' ⟨s0, s1, s2, s3, s4, s5, s6, s7, s8, s9, s10, s11, s12, s13, s14, s15, s16, s17⟩
       go_simp
       with_reducible rfl
      rotate_left
      ·
       simp only [Act.put, l_1, l_2, l_3, i64_w, i32_w]
       rfl
      refine take_ (i := 5) (N := some 33) (v := ?_) (a' := ?_) (bs_ 11 239) rfl rfl (take_ofW HT_.out HW_.out (by kernel_rfl)) (fun _ _ _ h => h) (Or.inl ⟨by rfl, ?_⟩) hHeld ?_ ?_
      rotate_left
      ·
       rintro w' ⟨s0, s1, s2, s3, s4, s5, s6, s7, s8, s9, s10, s11, s12, s13, s14, s15, s16, s17⟩
       go_simp
       with_reducible rfl
      rotate_left
      ·
       simp only [Act.put, l_1, l_2, l_3, i64_w, i32_w]
       rfl
      refine take_ (i := 8) (N := some 36) (v := ?_) (a' := ?_) (bs_ 11 495) rfl rfl (take_ofW HT_.out HW_.out (by kernel_rfl)) (fun _ _ _ h => h) (Or.inl ⟨by rfl, ?_⟩) hHeld ?_ ?_
      rotate_left
      ·
       rintro w' ⟨s0, s1, s2, s3, s4, s5, s6, s7, s8, s9, s10, s11, s12, s13, s14, s15, s16, s17⟩
       go_simp
       with_reducible rfl
      rotate_left
      ·
       simp only [Act.put, l_1, l_2, l_3, i64_w, i32_w]
       rfl
      refine one_ (i := 4) (N := some 32) (bs_ 11 511) rfl rfl (one_of HT_.out (by kernel_rfl)) (by decide) (fun K hK => ?_)
      refine goes_ Try.func20 (by kernel_rfl) rfl #[.agg #[.int .i64 a0_0, .int .i64 a0_1, .int .i64 a0_2, .int .i64 a0_3, .int .i64 a0_4, .int .i64 a0_5, .int .i64 a0_6, .int .i64 a0_7, .slice A0_8 l0_8.length c0_8], .int .u8 (bt (⟨#[101, 114, 112, 108, 115, 116, 107]⟩ : ByteArray) x6_2)] (by rfl) rfl rfl (by (try simp only [l_4, l_5, l_6]); first | done | rfl | (simp only [l_7, l_8]; rfl)) ?_
      with_reducible refine (pelotonref15_Num.calls a0_0 a0_1 a0_2 a0_3 a0_4 a0_5 a0_6 a0_7 _ _ l0_8 (bt (⟨#[101, 114, 112, 108, 115, 116, 107]⟩ : ByteArray) x6_2) t164 _ ?side1 ?side2 A17.out).mono ?_
      (case side1 => repeat (first | exact (Kd.C_below HR0_8.out HB.out) | (with_reducible refine Kd.C_alloc ?_ _) | (with_reducible refine Kd.C_drewN ?_ _) | (with_reducible refine Kd.C_drew ?_)))
      (case side2 => exact HC0_8.out)
      rintro e w22 ⟨rfl, hb⟩
      refine ⟨_, rfl, ?_⟩
      replace BK162 := Aside0.mk (blk_below (tk_ BK162) hb)
      replace BK163 := Aside0.mk (blk_below (tk_ BK163) hb)
      replace HB := Aside0.mk (below_step (bw_ HB) hb)
      (try clear hb)
      (try clear hb2)
      (try clear hk)
      (try clear hi)
      refine hK.out _ _ ⟨(blk_cell BK162.out 0).trans rfl, (blk_cell BK162.out 1).trans rfl, (blk_cell BK162.out 2).trans rfl, (blk_cell BK162.out 3).trans rfl, (blk_cell BK162.out 4).trans rfl, (blk_cell BK162.out 5).trans rfl, (blk_cell BK162.out 6).trans rfl, (blk_cell BK162.out 7).trans rfl, (blk_cell BK162.out 8).trans rfl, (blk_cell BK163.out 0).trans rfl, (blk_cell BK163.out 1).trans rfl, (blk_cell BK163.out 2).trans rfl, (blk_cell BK163.out 3).trans rfl, (blk_cell BK163.out 4).trans rfl, (blk_cell BK163.out 5).trans rfl, (blk_cell BK163.out 6).trans rfl, (blk_cell BK163.out 7).trans rfl, (blk_cell BK163.out 8).trans rfl⟩ (fun hHeld => ?_)
      clear hK K
      refine no_ (N := some 32) ?_
      refine one_ (i := 9) (N := some 37) (bs_ 11 1023) rfl rfl (one_of HT_.out (by kernel_rfl)) (by decide) (fun K hK => ?_)
      refine goes_ Try.func20 (by kernel_rfl) rfl #[.agg #[.int .i64 a1_0, .int .i64 a1_1, .int .i64 a1_2, .int .i64 a1_3, .int .i64 a1_4, .int .i64 a1_5, .int .i64 a1_6, .int .i64 a1_7, .slice A1_8 l1_8.length c1_8], .int .u8 (bt (⟨#[101, 114, 112, 108, 115, 116, 107]⟩ : ByteArray) x6_2)] (by rfl) rfl rfl (by (try simp only [l_4, l_5, l_6]); first | done | rfl | (simp only [l_7, l_8]; rfl)) ?_
      with_reducible refine (pelotonref15_Num.calls a1_0 a1_1 a1_2 a1_3 a1_4 a1_5 a1_6 a1_7 _ _ l1_8 (bt (⟨#[101, 114, 112, 108, 115, 116, 107]⟩ : ByteArray) x6_2) t165 _ ?side1 ?side2 A19.out).mono ?_
      (case side1 => repeat (first | exact (Kd.C_below HR1_8.out HB.out) | (with_reducible refine Kd.C_alloc ?_ _) | (with_reducible refine Kd.C_drewN ?_ _) | (with_reducible refine Kd.C_drew ?_)))
      (case side2 => exact HC1_8.out)
      rintro e w23 ⟨rfl, hb⟩
      refine ⟨_, rfl, ?_⟩
      replace BK162 := Aside0.mk (blk_below (tk_ BK162) hb)
      replace BK163 := Aside0.mk (blk_below (tk_ BK163) hb)
      replace HB := Aside0.mk (below_step (bw_ HB) hb)
      (try clear hb)
      (try clear hb2)
      (try clear hk)
      (try clear hi)
      refine hK.out _ _ ⟨(blk_cell BK162.out 0).trans rfl, (blk_cell BK162.out 1).trans rfl, (blk_cell BK162.out 2).trans rfl, (blk_cell BK162.out 3).trans rfl, (blk_cell BK162.out 4).trans rfl, (blk_cell BK162.out 5).trans rfl, (blk_cell BK162.out 6).trans rfl, (blk_cell BK162.out 7).trans rfl, (blk_cell BK162.out 8).trans rfl, (blk_cell BK163.out 0).trans rfl, (blk_cell BK163.out 1).trans rfl, (blk_cell BK163.out 2).trans rfl, (blk_cell BK163.out 3).trans rfl, (blk_cell BK163.out 4).trans rfl, (blk_cell BK163.out 5).trans rfl, (blk_cell BK163.out 6).trans rfl, (blk_cell BK163.out 7).trans rfl, (blk_cell BK163.out 8).trans rfl⟩ (fun hHeld => ?_)
      clear hK K
      refine no_ (N := some 37) ?_
      refine pu_ (i := 10) (N := some 38) (bs_ 11 2047) rfl rfl HT_ ?_
      refine done_ (done_of HT_.out (by kernel_rfl)) ?_
      try go_wp2
      go_roundg k2
      case measure => have := HJ2.out; have := HK2.out; omega
      case rel => exact ⟨(wrap64 (x6_2 + 1)), (by first | rfl | (simp; done) | (simp [*]; done)), H', ⟨by have := HJ2.out; have := HK2.out; omega⟩, ⟨tk_ BK162⟩, ⟨tk_ BK163⟩, ⟨by repeat (first | (with_reducible first | exact HB.out | apply b_a | apply b_n | apply b_d | refine b_s ?_ GE162.out | refine b_s ?_ GE163.out) | exact HB.out)⟩⟩
     rw [if_neg c14] at H
     have c14b0 : decide (x6_2 < ((⟨#[101, 114, 112, 108, 115, 116, 107]⟩ : ByteArray).size : Int)) = false := decide_eq_false c14
     have c14b0n : decide (x6_2 < (7 : Int)) = false := decide_eq_false (show ¬ (x6_2 < (7 : Int)) from of_decide_eq_false c14b0)
     clear c14
     have H' := Aside0.mk H
     clear H
     go_wp2
     go_loopg [7] k2 (fun kq v7 w' => ∃ (x7_3 : Int), v7 = .int .i64 x7_3 ∧ Aside0 (pelotonref15_Same.l1 kq x7_3 a0_0 a0_1 a0_2 a0_3 a0_4 a0_5 a0_6 a0_7 l0_8 a1_0 a1_1 a1_2 a1_3 a1_4 a1_5 a1_6 a1_7 l1_8 = some r) ∧ Aside0 (kq ≤ k2) ∧ Aside0 (w'.heap[gb162]? = some (.cells #[.int .i64 a0_0, .int .i64 a0_1, .int .i64 a0_2, .int .i64 a0_3, .int .i64 a0_4, .int .i64 a0_5, .int .i64 a0_6, .int .i64 a0_7, (.slice A0_8 l0_8.length c0_8)] 24 (0, 0))) ∧ Aside0 (w'.heap[gb163]? = some (.cells #[.int .i64 a1_0, .int .i64 a1_1, .int .i64 a1_2, .int .i64 a1_3, .int .i64 a1_4, .int .i64 a1_5, .int .i64 a1_6, .int .i64 a1_7, (.slice A1_8 l1_8.length c1_8)] 24 (0, 0))) ∧ Aside0 (Below w.heap.size w w'))
     case atStart => exact ⟨(0), (by first | rfl | (simp; done) | (simp [*]; done)), H', ⟨Nat.le_refl _⟩, ⟨tk_ BK162⟩, ⟨tk_ BK163⟩, ⟨by repeat (first | (with_reducible first | exact HB.out | apply b_a | apply b_n | apply b_d | refine b_s ?_ GE162.out | refine b_s ?_ GE163.out) | exact HB.out)⟩⟩
     case round =>
      clear H'
      try clear c1
      try clear p1
      try clear q1
      try clear hx1
      try clear c2
      try clear p2
      try clear c6
      try clear c6b0
      try clear c6b1
      try clear p6
      try clear c7
      try clear c10
      try clear c13
      try clear c14
      try clear c14b0
      try clear c15
      try clear c15b0
      try clear p16
      try clear q16
      try clear hx16
      try clear p18
      try clear q18
      try clear hx18
      try clear c20
      try clear c20b0
      try clear c20b1
      try clear hcz11_0
      try clear hcz11_1
      try clear hcz11_2
      try clear hcz11_3
      try clear hcz11_4
      try clear hcz11_5
      try clear hcz11_6
      try clear hcz11_7
      try clear hcz11_8
      try clear hcz12_0
      try clear hcz12_1
      try clear hcz12_2
      try clear hcz12_3
      try clear hcz12_4
      try clear hcz12_5
      try clear hcz12_6
      try clear hcz12_7
      try clear hcz12_8
      try clear hcz8_0
      try clear hcz8_1
      try clear hcz8_2
      try clear hcz8_3
      try clear hcz8_4
      try clear hcz8_5
      try clear hcz8_6
      try clear hcz8_7
      try clear hcz8_8
      try clear hcz9_0
      try clear hcz9_1
      try clear hcz9_2
      try clear hcz9_3
      try clear hcz9_4
      try clear hcz9_5
      try clear hcz9_6
      try clear hcz9_7
      try clear hcz9_8
      try clear hfz11_0
      try clear hfz11_1
      try clear hfz11_2
      try clear hfz11_3
      try clear hfz11_4
      try clear hfz11_5
      try clear hfz11_6
      try clear hfz11_7
      try clear hfz11_8
      try clear hfz12_0
      try clear hfz12_1
      try clear hfz12_2
      try clear hfz12_3
      try clear hfz12_4
      try clear hfz12_5
      try clear hfz12_6
      try clear hfz12_7
      try clear hfz12_8
      try clear hfz8_0
      try clear hfz8_1
      try clear hfz8_2
      try clear hfz8_3
      try clear hfz8_4
      try clear hfz8_5
      try clear hfz8_6
      try clear hfz8_7
      try clear hfz8_8
      try clear hfz9_0
      try clear hfz9_1
      try clear hfz9_2
      try clear hfz9_3
      try clear hfz9_4
      try clear hfz9_5
      try clear hfz9_6
      try clear hfz9_7
      try clear hfz9_8
      try clear p16
      try clear p18
      try clear p2
      try clear q16
      try clear q18
      obtain ⟨x7_3, rfl, HA, HK3, BK162, BK163, HB⟩ := hrel
      cases gk with
      | zero => exact absurd HA.out (by simp [pelotonref15_Same.l1])
      | succ k3 =>
       have H := HA.out
       clear HA
       simp only [pelotonref15_Same.l1] at H
       by_cases c27 : x7_3 < (l0_8.length : Int)
       rotate_left
       ·
        rw [if_neg c27] at H
        have c27b0 : decide (x7_3 < (l0_8.length : Int)) = false := decide_eq_false c27
        clear c27
        obtain rfl := Option.some.inj H
        have hnb37 := NB162_163.out
        have hnc37 := NB163_162.out
        have hcz38_0 := bc_0 BK162
        have hcz38_1 := bc_1 BK162
        have hcz38_2 := bc_2 BK162
        have hcz38_3 := bc_3 BK162
        have hcz38_4 := bc_4 BK162
        have hcz38_5 := bc_5 BK162
        have hcz38_6 := bc_6 BK162
        have hcz38_7 := bc_7 BK162
        have hcz38_8 : wr.cell? ⟨gb162, 8, none⟩ = some (.slice A0_8 l0_8.length c0_8) := (blk_cell BK162.out 8).trans rfl
        have hfz38_0 := blk_frozen BK162.out 0
        have hfz38_1 := blk_frozen BK162.out 1
        have hfz38_2 := blk_frozen BK162.out 2
        have hfz38_3 := blk_frozen BK162.out 3
        have hfz38_4 := blk_frozen BK162.out 4
        have hfz38_5 := blk_frozen BK162.out 5
        have hfz38_6 := blk_frozen BK162.out 6
        have hfz38_7 := blk_frozen BK162.out 7
        have hfz38_8 := blk_frozen BK162.out 8
        go_wp2
        go_ret
        exact ⟨by first | rfl | (simp [errW_none, errW_some] <;> rfl) | (simp [*, errW_none, errW_some] <;> rfl), by repeat (first | (with_reducible first | exact HB.out | apply b_a | apply b_n | apply b_d | refine b_s ?_ GE162.out | refine b_s ?_ GE163.out) | exact HB.out)⟩

       rw [if_pos c27] at H
       have c27b0 : decide (x7_3 < (l0_8.length : Int)) = true := decide_eq_true c27
       clear c27
       by_cases c28 : 0 ≤ x7_3
       rotate_left
       ·
        rw [if_neg c28] at H
        exact absurd H (by simp)
       rw [if_pos c28] at H
       have c28b0 : decide (0 ≤ x7_3) = true := decide_eq_true c28
       clear c28
       by_cases c29 : x7_3 < (l1_8.length : Int)
       rotate_left
       ·
        rw [if_neg c29] at H
        exact absurd H (by simp)
       rw [if_pos c29] at H
       have c29b0 : decide (x7_3 < (l1_8.length : Int)) = true := decide_eq_true c29
       clear c29
       by_cases c30 : (rd l0_8 x7_3) = (rd l1_8 x7_3)
       rotate_left
       ·
        rw [if_neg c30] at H
        have c30b0 : ((rd l0_8 x7_3) == (rd l1_8 x7_3)) = false := beq_eq_false_iff_ne.mpr c30
        have c30b1 : ((rd l0_8 x7_3) != (rd l1_8 x7_3)) = true := bne_iff_ne.mpr c30
        obtain rfl := Option.some.inj H
        have hnb34 := NB162_163.out
        have hnc34 := NB163_162.out
        have hcz35_0 := bc_0 BK162
        have hcz35_1 := bc_1 BK162
        have hcz35_2 := bc_2 BK162
        have hcz35_3 := bc_3 BK162
        have hcz35_4 := bc_4 BK162
        have hcz35_5 := bc_5 BK162
        have hcz35_6 := bc_6 BK162
        have hcz35_7 := bc_7 BK162
        have hcz35_8 : wr.cell? ⟨gb162, 8, none⟩ = some (.slice A0_8 l0_8.length c0_8) := (blk_cell BK162.out 8).trans rfl
        have hfz35_0 := blk_frozen BK162.out 0
        have hfz35_1 := blk_frozen BK162.out 1
        have hfz35_2 := blk_frozen BK162.out 2
        have hfz35_3 := blk_frozen BK162.out 3
        have hfz35_4 := blk_frozen BK162.out 4
        have hfz35_5 := blk_frozen BK162.out 5
        have hfz35_6 := blk_frozen BK162.out 6
        have hfz35_7 := blk_frozen BK162.out 7
        have hfz35_8 := blk_frozen BK162.out 8
        try go_wp2
        replace BK162 := Aside0.mk (k_d BK162.out)
        replace BK163 := Aside0.mk (k_d BK163.out)
        replace HB := Aside0.mk (b_d HB.out)
        have p166 : 0 ≤ (x7_3 : Int) := of_decide_eq_true (by first | (with_reducible assumption) | assumption)
        have q166 : x7_3 < (l0_8.length : Int) := of_decide_eq_true (by first | (with_reducible assumption) | assumption)
        obtain ⟨ad166, e166, hx166_0⟩ := Kd.at_int HR0_8.out x7_3 p166 q166
        have hw166_0 := hx166_0
        cases e166
        replace hx166_0 := cb_ HB hx166_0
        replace p166 := eq_true p166
        replace q166 := eq_true q166
        have p167 : 0 ≤ (x7_3 : Int) := of_decide_eq_true (by first | (with_reducible assumption) | assumption)
        have q167 : x7_3 < (l1_8.length : Int) := of_decide_eq_true (by first | (with_reducible assumption) | assumption)
        obtain ⟨ad167, e167, hx167_0⟩ := Kd.at_int HR1_8.out x7_3 p167 q167
        have hw167_0 := hx167_0
        cases e167
        replace hx167_0 := cb_ HB hx167_0
        replace p167 := eq_true p167
        replace q167 := eq_true q167
        refine start_ (n := 11) (S := fun w' => w'.cell? ⟨gb162, 0, none⟩ = some (.int .i64 a0_0) ∧ w'.cell? ⟨gb162, 1, none⟩ = some (.int .i64 a0_1) ∧ w'.cell? ⟨gb162, 2, none⟩ = some (.int .i64 a0_2) ∧ w'.cell? ⟨gb162, 3, none⟩ = some (.int .i64 a0_3) ∧ w'.cell? ⟨gb162, 4, none⟩ = some (.int .i64 a0_4) ∧ w'.cell? ⟨gb162, 5, none⟩ = some (.int .i64 a0_5) ∧ w'.cell? ⟨gb162, 6, none⟩ = some (.int .i64 a0_6) ∧ w'.cell? ⟨gb162, 7, none⟩ = some (.int .i64 a0_7) ∧ w'.cell? ⟨gb162, 8, none⟩ = some (.slice (some ad166) l0_8.length c0_8) ∧ w'.cell? ⟨gb163, 0, none⟩ = some (.int .i64 a1_0) ∧ w'.cell? ⟨gb163, 1, none⟩ = some (.int .i64 a1_1) ∧ w'.cell? ⟨gb163, 2, none⟩ = some (.int .i64 a1_2) ∧ w'.cell? ⟨gb163, 3, none⟩ = some (.int .i64 a1_3) ∧ w'.cell? ⟨gb163, 4, none⟩ = some (.int .i64 a1_4) ∧ w'.cell? ⟨gb163, 5, none⟩ = some (.int .i64 a1_5) ∧ w'.cell? ⟨gb163, 6, none⟩ = some (.int .i64 a1_6) ∧ w'.cell? ⟨gb163, 7, none⟩ = some (.int .i64 a1_7) ∧ w'.cell? ⟨gb163, 8, none⟩ = some (.slice (some ad167) l1_8.length c1_8) ∧ w'.cell? (ad166.add (x7_3).toNat) = some (.int .i32 (rd l0_8 x7_3)) ∧ w'.cell? (ad167.add (x7_3).toNat) = some (.int .i32 (rd l1_8 x7_3))) (ds := []) #[false, false, false, false, false, false, false, false, false, false, false] (by kernel_rfl) rfl rfl ⟨(blk_cell BK162.out 0).trans rfl, (blk_cell BK162.out 1).trans rfl, (blk_cell BK162.out 2).trans rfl, (blk_cell BK162.out 3).trans rfl, (blk_cell BK162.out 4).trans rfl, (blk_cell BK162.out 5).trans rfl, (blk_cell BK162.out 6).trans rfl, (blk_cell BK162.out 7).trans rfl, (blk_cell BK162.out 8).trans rfl, (blk_cell BK163.out 0).trans rfl, (blk_cell BK163.out 1).trans rfl, (blk_cell BK163.out 2).trans rfl, (blk_cell BK163.out 3).trans rfl, (blk_cell BK163.out 4).trans rfl, (blk_cell BK163.out 5).trans rfl, (blk_cell BK163.out 6).trans rfl, (blk_cell BK163.out 7).trans rfl, (blk_cell BK163.out 8).trans rfl, (cb_ HB hw166_0), (cb_ HB hw167_0)⟩ (fun hHeld => ?_); refine with_tabW pelotonref15_Same.tab12 pelotonref15_Same.bits12 (fun HT_ HW_ => ?_)
        generalize wr.drew = w36 at BK162 BK163 HB hx166_0 hx167_0 hHeld ⊢
        refine pu_ (i := 0) (N := some 46) (bs_ 11 1) rfl rfl HT_ ?_
        refine pu_ (i := 2) (N := some 48) (bs_ 11 5) rfl rfl HT_ ?_
        refine pu_ (i := 5) (N := some 51) (bs_ 11 37) rfl rfl HT_ ?_
        refine pu_ (i := 7) (N := some 53) (bs_ 11 165) rfl rfl HT_ ?_
        refine take_ (i := 1) (N := some 47) (v := ?_) (a' := ?_) (bs_ 11 167) rfl rfl (take_ofW HT_.out HW_.out (by kernel_rfl)) (fun _ _ _ h => h) (Or.inl ⟨by rfl, ?_⟩) hHeld ?_ ?_
        rotate_left
        ·
         rintro w' ⟨s0, s1, s2, s3, s4, s5, s6, s7, s8, s9, s10, s11, s12, s13, s14, s15, s16, s17, s18, s19⟩
         go_simp
         with_reducible rfl
        rotate_left
        ·
         simp only [Act.put, l_1, l_2, l_3, i64_w, i32_w]
         rfl
        refine pu_ (i := 3) (N := some 49) (bs_ 11 175) rfl rfl HT_ ?_
        refine take_ (i := 4) (N := some 50) (v := ?_) (a' := ?_) (bs_ 11 191) rfl rfl (take_ofW HT_.out HW_.out (by kernel_rfl)) (fun _ _ _ h => h) (Or.inl ⟨by rfl, ?_⟩) hHeld ?_ ?_
        rotate_left
        ·
         rintro w' ⟨s0, s1, s2, s3, s4, s5, s6, s7, s8, s9, s10, s11, s12, s13, s14, s15, s16, s17, s18, s19⟩
         go_simp
         with_reducible rfl
        rotate_left
        ·
         simp only [Act.put, l_1, l_2, l_3, i64_w, i32_w]
         rfl
        refine take_ (i := 6) (N := some 52) (v := ?_) (a' := ?_) (bs_ 11 255) rfl rfl (take_ofW HT_.out HW_.out (by kernel_rfl)) (fun _ _ _ h => h) (Or.inl ⟨by rfl, ?_⟩) hHeld ?_ ?_
        rotate_left
        ·
         rintro w' ⟨s0, s1, s2, s3, s4, s5, s6, s7, s8, s9, s10, s11, s12, s13, s14, s15, s16, s17, s18, s19⟩
         go_simp
         with_reducible rfl
        rotate_left
        ·
         simp only [Act.put, l_1, l_2, l_3, i64_w, i32_w]
         rfl
        refine pu_ (i := 8) (N := some 54) (bs_ 11 511) rfl rfl HT_ ?_
        refine take_ (i := 9) (N := some 55) (v := ?_) (a' := ?_) (bs_ 11 1023) rfl rfl (take_ofW HT_.out HW_.out (by kernel_rfl)) (fun _ _ _ h => h) (Or.inl ⟨by rfl, ?_⟩) hHeld ?_ ?_
        rotate_left
        ·
         rintro w' ⟨s0, s1, s2, s3, s4, s5, s6, s7, s8, s9, s10, s11, s12, s13, s14, s15, s16, s17, s18, s19⟩
         go_simp
         with_reducible rfl
        rotate_left
        ·
         simp only [Act.put, l_1, l_2, l_3, i64_w, i32_w]
         rfl
        refine pu_ (i := 10) (N := some 56) (bs_ 11 2047) rfl rfl HT_ ?_
        refine done_ (done_of HT_.out (by kernel_rfl)) ?_
        try go_wp2
        go_ret
        exact ⟨by first | rfl | (simp [errW_none, errW_some] <;> rfl) | (simp [*, errW_none, errW_some] <;> rfl), by repeat (first | (with_reducible first | exact HB.out | apply b_a | apply b_n | apply b_d | refine b_s ?_ GE162.out | refine b_s ?_ GE163.out) | exact HB.out)⟩
       rw [if_pos c30] at H
       have c30b0 : ((rd l0_8 x7_3) == (rd l1_8 x7_3)) = true := beq_iff_eq.mpr c30
       have c30b1 : ((rd l0_8 x7_3) != (rd l1_8 x7_3)) = false := bne_eq_false_iff_eq.mpr c30
       clear c30
       have H' := Aside0.mk H
       clear H
       have hnb31 := NB162_163.out
       have hnc31 := NB163_162.out
       have hcz32_0 := bc_0 BK162
       have hcz32_1 := bc_1 BK162
       have hcz32_2 := bc_2 BK162
       have hcz32_3 := bc_3 BK162
       have hcz32_4 := bc_4 BK162
       have hcz32_5 := bc_5 BK162
       have hcz32_6 := bc_6 BK162
       have hcz32_7 := bc_7 BK162
       have hcz32_8 : wr.cell? ⟨gb162, 8, none⟩ = some (.slice A0_8 l0_8.length c0_8) := (blk_cell BK162.out 8).trans rfl
       have hfz32_0 := blk_frozen BK162.out 0
       have hfz32_1 := blk_frozen BK162.out 1
       have hfz32_2 := blk_frozen BK162.out 2
       have hfz32_3 := blk_frozen BK162.out 3
       have hfz32_4 := blk_frozen BK162.out 4
       have hfz32_5 := blk_frozen BK162.out 5
       have hfz32_6 := blk_frozen BK162.out 6
       have hfz32_7 := blk_frozen BK162.out 7
       have hfz32_8 := blk_frozen BK162.out 8
       try go_wp2
       replace BK162 := Aside0.mk (k_d BK162.out)
       replace BK163 := Aside0.mk (k_d BK163.out)
       replace HB := Aside0.mk (b_d HB.out)
       have p166 : 0 ≤ (x7_3 : Int) := of_decide_eq_true (by first | (with_reducible assumption) | assumption)
       have q166 : x7_3 < (l0_8.length : Int) := of_decide_eq_true (by first | (with_reducible assumption) | assumption)
       obtain ⟨ad166, e166, hx166_0⟩ := Kd.at_int HR0_8.out x7_3 p166 q166
       have hw166_0 := hx166_0
       cases e166
       replace hx166_0 := cb_ HB hx166_0
       replace p166 := eq_true p166
       replace q166 := eq_true q166
       have p167 : 0 ≤ (x7_3 : Int) := of_decide_eq_true (by first | (with_reducible assumption) | assumption)
       have q167 : x7_3 < (l1_8.length : Int) := of_decide_eq_true (by first | (with_reducible assumption) | assumption)
       obtain ⟨ad167, e167, hx167_0⟩ := Kd.at_int HR1_8.out x7_3 p167 q167
       have hw167_0 := hx167_0
       cases e167
       replace hx167_0 := cb_ HB hx167_0
       replace p167 := eq_true p167
       replace q167 := eq_true q167
       refine start_ (n := 11) (S := fun w' => w'.cell? ⟨gb162, 0, none⟩ = some (.int .i64 a0_0) ∧ w'.cell? ⟨gb162, 1, none⟩ = some (.int .i64 a0_1) ∧ w'.cell? ⟨gb162, 2, none⟩ = some (.int .i64 a0_2) ∧ w'.cell? ⟨gb162, 3, none⟩ = some (.int .i64 a0_3) ∧ w'.cell? ⟨gb162, 4, none⟩ = some (.int .i64 a0_4) ∧ w'.cell? ⟨gb162, 5, none⟩ = some (.int .i64 a0_5) ∧ w'.cell? ⟨gb162, 6, none⟩ = some (.int .i64 a0_6) ∧ w'.cell? ⟨gb162, 7, none⟩ = some (.int .i64 a0_7) ∧ w'.cell? ⟨gb162, 8, none⟩ = some (.slice (some ad166) l0_8.length c0_8) ∧ w'.cell? ⟨gb163, 0, none⟩ = some (.int .i64 a1_0) ∧ w'.cell? ⟨gb163, 1, none⟩ = some (.int .i64 a1_1) ∧ w'.cell? ⟨gb163, 2, none⟩ = some (.int .i64 a1_2) ∧ w'.cell? ⟨gb163, 3, none⟩ = some (.int .i64 a1_3) ∧ w'.cell? ⟨gb163, 4, none⟩ = some (.int .i64 a1_4) ∧ w'.cell? ⟨gb163, 5, none⟩ = some (.int .i64 a1_5) ∧ w'.cell? ⟨gb163, 6, none⟩ = some (.int .i64 a1_6) ∧ w'.cell? ⟨gb163, 7, none⟩ = some (.int .i64 a1_7) ∧ w'.cell? ⟨gb163, 8, none⟩ = some (.slice (some ad167) l1_8.length c1_8) ∧ w'.cell? (ad166.add (x7_3).toNat) = some (.int .i32 (rd l0_8 x7_3)) ∧ w'.cell? (ad167.add (x7_3).toNat) = some (.int .i32 (rd l1_8 x7_3))) (ds := []) #[false, false, false, false, false, false, false, false, false, false, false] (by kernel_rfl) rfl rfl ⟨(blk_cell BK162.out 0).trans rfl, (blk_cell BK162.out 1).trans rfl, (blk_cell BK162.out 2).trans rfl, (blk_cell BK162.out 3).trans rfl, (blk_cell BK162.out 4).trans rfl, (blk_cell BK162.out 5).trans rfl, (blk_cell BK162.out 6).trans rfl, (blk_cell BK162.out 7).trans rfl, (blk_cell BK162.out 8).trans rfl, (blk_cell BK163.out 0).trans rfl, (blk_cell BK163.out 1).trans rfl, (blk_cell BK163.out 2).trans rfl, (blk_cell BK163.out 3).trans rfl, (blk_cell BK163.out 4).trans rfl, (blk_cell BK163.out 5).trans rfl, (blk_cell BK163.out 6).trans rfl, (blk_cell BK163.out 7).trans rfl, (blk_cell BK163.out 8).trans rfl, (cb_ HB hw166_0), (cb_ HB hw167_0)⟩ (fun hHeld => ?_); refine with_tabW pelotonref15_Same.tab12 pelotonref15_Same.bits12 (fun HT_ HW_ => ?_)
       generalize wr.drew = w33 at BK162 BK163 HB hx166_0 hx167_0 hHeld ⊢
       refine pu_ (i := 0) (N := some 46) (bs_ 11 1) rfl rfl HT_ ?_
       refine pu_ (i := 2) (N := some 48) (bs_ 11 5) rfl rfl HT_ ?_
       refine pu_ (i := 5) (N := some 51) (bs_ 11 37) rfl rfl HT_ ?_
       refine pu_ (i := 7) (N := some 53) (bs_ 11 165) rfl rfl HT_ ?_
       refine take_ (i := 1) (N := some 47) (v := ?_) (a' := ?_) (bs_ 11 167) rfl rfl (take_ofW HT_.out HW_.out (by kernel_rfl)) (fun _ _ _ h => h) (Or.inl ⟨by rfl, ?_⟩) hHeld ?_ ?_
       rotate_left
       ·
        rintro w' ⟨s0, s1, s2, s3, s4, s5, s6, s7, s8, s9, s10, s11, s12, s13, s14, s15, s16, s17, s18, s19⟩
        go_simp
        with_reducible rfl
       rotate_left
       ·
        simp only [Act.put, l_1, l_2, l_3, i64_w, i32_w]
        rfl
       refine pu_ (i := 3) (N := some 49) (bs_ 11 175) rfl rfl HT_ ?_
       refine take_ (i := 4) (N := some 50) (v := ?_) (a' := ?_) (bs_ 11 191) rfl rfl (take_ofW HT_.out HW_.out (by kernel_rfl)) (fun _ _ _ h => h) (Or.inl ⟨by rfl, ?_⟩) hHeld ?_ ?_
       rotate_left
       ·
        rintro w' ⟨s0, s1, s2, s3, s4, s5, s6, s7, s8, s9, s10, s11, s12, s13, s14, s15, s16, s17, s18, s19⟩
        go_simp
        with_reducible rfl
       rotate_left
       ·
        simp only [Act.put, l_1, l_2, l_3, i64_w, i32_w]
        rfl
       refine take_ (i := 6) (N := some 52) (v := ?_) (a' := ?_) (bs_ 11 255) rfl rfl (take_ofW HT_.out HW_.out (by kernel_rfl)) (fun _ _ _ h => h) (Or.inl ⟨by rfl, ?_⟩) hHeld ?_ ?_
       rotate_left
       ·
        rintro w' ⟨s0, s1, s2, s3, s4, s5, s6, s7, s8, s9, s10, s11, s12, s13, s14, s15, s16, s17, s18, s19⟩
        go_simp
        with_reducible rfl
       rotate_left
       ·
        simp only [Act.put, l_1, l_2, l_3, i64_w, i32_w]
        rfl
       refine pu_ (i := 8) (N := some 54) (bs_ 11 511) rfl rfl HT_ ?_
       refine take_ (i := 9) (N := some 55) (v := ?_) (a' := ?_) (bs_ 11 1023) rfl rfl (take_ofW HT_.out HW_.out (by kernel_rfl)) (fun _ _ _ h => h) (Or.inl ⟨by rfl, ?_⟩) hHeld ?_ ?_
       rotate_left
       ·
        rintro w' ⟨s0, s1, s2, s3, s4, s5, s6, s7, s8, s9, s10, s11, s12, s13, s14, s15, s16, s17, s18, s19⟩
        go_simp
        with_reducible rfl
       rotate_left
       ·
        simp only [Act.put, l_1, l_2, l_3, i64_w, i32_w]
        rfl
       refine pu_ (i := 10) (N := some 56) (bs_ 11 2047) rfl rfl HT_ ?_
       refine done_ (done_of HT_.out (by kernel_rfl)) ?_
       try go_wp2
       go_roundg k3
       case measure => have := HJ2.out; have := HK2.out; have := HK3.out; omega
       case rel => exact ⟨(wrap64 (x7_3 + 1)), (by first | rfl | (simp; done) | (simp [*]; done)), H', ⟨by have := HJ2.out; have := HK2.out; have := HK3.out; omega⟩, ⟨tk_ BK162⟩, ⟨tk_ BK163⟩, ⟨by repeat (first | (with_reducible first | exact HB.out | apply b_a | apply b_n | apply b_d | refine b_s ?_ GE162.out | refine b_s ?_ GE163.out) | exact HB.out)⟩⟩
end Go.Proofs.Ytnkphgiodpledaa.QMsgBack
