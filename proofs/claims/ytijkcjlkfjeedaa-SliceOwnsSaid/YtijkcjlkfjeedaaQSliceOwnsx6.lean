-- Written by a program of this session (a turned copy of the print) out of the translation. Lean checks it.
import Derived.Test.YtijkcjlkfjeedaaQSliceOwnsx0
import Derived.Test.YtijkcjlkfjeedaaQSliceOwnsx2
namespace Go.Proofs.Ytijkcjlkfjeedaa.QSliceOwns
open Go.RowKit Go.Proofs.YtijkcjlkfjeedaaW.PrintWords Go.Proofs.YtijkcjlkfjeedaaW.PrintLast Go.Proofs.YtijkcjlkfjeedaaW.PrintMore
attribute [local go_sem] max2_int min2_int max_two min_two max_three min_three max_four min_four   -- for this text's walks alone
open Go.Proofs.YtijkcjlkfjeedaaW.PrintWords renaming below_alloc → b_a, pw_below_drewN → b_n, below_drew1 → b_d, below_set → b_s, blk_drewN → k_n, blk_drew → k_d, blk_alloc → k_a
open List renaming setIfInBounds_toArray → l_1, set_cons_zero → l_2, set_cons_succ → l_3, map_toArray → l_4, map_cons → l_5, map_nil → l_6, length_drop → l_7, length_take → l_8
set_option linter.unusedVariables false
set_option linter.unusedSimpArgs false

/-! ### pelotonref10_Cut: function 16 -/
def pelotonref10_Cut.l0 : Nat → Int → Int → List Int → Int → Int → Int → Int → Int → Int → Int → Option (Int × Int)
 | 0, _, _, _, _, _, _, _, _, _, _ => none
 | k + 1, x1, x2, x7, x8, x167000, x167001, x167002, x167003, x167004, x167005 => if x8 ≤ x167002 then (if x8 = 0 then (none) else (if (Int.tmod x167002 x8) = 0 then (if (Int.tmod x167003 x8) = 0 then (if x7.length < 17592186044416 then (pelotonref10_Cut.l0 k x1 x2 (x7 ++ [x8]) (wrap64 (x8 + 1)) x167000 x167001 x167002 x167003 x167004 x167005) else (none)) else (pelotonref10_Cut.l0 k x1 x2 x7 (wrap64 (x8 + 1)) x167000 x167001 x167002 x167003 x167004 x167005)) else (pelotonref10_Cut.l0 k x1 x2 x7 (wrap64 (x8 + 1)) x167000 x167001 x167002 x167003 x167004 x167005))) else (if x167000 = 0 then (none) else (if (x7.length : Int) = 0 then (none) else (if 0 ≤ (Int.tmod (wrap64 ((Int.tmod x2 (x7.length : Int)) + (x7.length : Int))) (x7.length : Int)) then (if (Int.tmod (wrap64 ((Int.tmod x2 (x7.length : Int)) + (x7.length : Int))) (x7.length : Int)) < (x7.length : Int) then (some (wrap64 (1 + (Int.tmod (wrap64 ((Int.tmod x1 x167000) + x167000)) x167000)), rd x7 (Int.tmod (wrap64 ((Int.tmod x2 (x7.length : Int)) + (x7.length : Int))) (x7.length : Int)))) else (none)) else (none))))
def pelotonref10_Cut.f (k : Nat) (a0_0 : Int) (a0_1 : Int) (a0_2 : Int) (a0_3 : Int) (a0_4 : Int) (a0_5 : Int) (a1 : Int) (a2 : Int) : Option (Int × Int) := pelotonref10_Cut.l0 k a1 a2 ([] : List Int) 1 a0_0 a0_1 a0_2 a0_3 a0_4 a0_5
theorem pelotonref10_Cut.mono_l : ∀ k, (∀ y0 y1 y2 y3 y4 y5 y6 y7 y8 y9, LeO (pelotonref10_Cut.l0 k y0 y1 y2 y3 y4 y5 y6 y7 y8 y9) (pelotonref10_Cut.l0 (k + 1) y0 y1 y2 y3 y4 y5 y6 y7 y8 y9))
 | 0 => fun _ _ _ _ _ _ _ _ _ _ r h => by simp [pelotonref10_Cut.l0] at h
 | k + 1 => by
  have ih0 := pelotonref10_Cut.mono_l k
  ·
   intro y0 y1 y2 y3 y4 y5 y6 y7 y8 y9
   unfold pelotonref10_Cut.l0
   repeat' first
   | (with_reducible exact ih0 _ _ _ _ _ _ _ _ _ _)
   | (with_reducible exact LeO.refl _)
   | (with_reducible exact LeO.none _)
   | (with_reducible refine LeO.ite ?_ ?_)
   | (with_reducible refine LeO.bind ?_ (fun _ => ?_))
   | exact ih0 _ _ _ _ _ _ _ _ _ _
   | exact LeO.none _
   | refine LeO.ite ?_ ?_
   | refine LeO.bind ?_ (fun _ => ?_)
theorem pelotonref10_Cut.mono : ∀ a0 a1 a2 a3 a4 a5 a6 a7 k, LeO (pelotonref10_Cut.f k a0 a1 a2 a3 a4 a5 a6 a7) (pelotonref10_Cut.f (k + 1) a0 a1 a2 a3 a4 a5 a6 a7) := by
 intro a0 a1 a2 a3 a4 a5 a6 a7 k
 have ih0 := pelotonref10_Cut.mono_l k
 unfold pelotonref10_Cut.f
 repeat' first
   | (with_reducible exact ih0 _ _ _ _ _ _ _ _ _ _)
   | (with_reducible exact LeO.refl _)
   | (with_reducible exact LeO.none _)
   | (with_reducible refine LeO.ite ?_ ?_)
   | (with_reducible refine LeO.bind ?_ (fun _ => ?_))
   | exact ih0 _ _ _ _ _ _ _ _ _ _
   | exact LeO.none _
   | refine LeO.ite ?_ ?_
   | refine LeO.bind ?_ (fun _ => ?_)
def pelotonref10_Cut.T7 : Bool × List (List Nat × List Nat) := (true, [([], []), ([], []), ([1], [1]), ([0, 2], [0, 2]), ([], []), ([4], [4]), ([3, 5], [3, 5]), ([], []), ([7], [7]), ([6, 8], [6, 8]), ([9], [9]), ([], []), ([], []), ([], []), ([13], [13]), ([12, 14], [12, 14]), ([], []), ([16], [16]), ([15, 17], [15, 17]), ([], []), ([19], [19]), ([18, 20], [18, 20]), ([11, 21], [11, 21]), ([22], [22]), ([10, 23], [10, 23]), ([24, 0, 1, 2, 3, 4, 5, 6, 7, 8, 9, 10, 11, 12, 13, 14, 15, 16, 17, 18, 19, 20, 21, 22, 23, 24], [24])])
def pelotonref10_Cut.B7 : List Nat := [0, 0, 2, 7, 0, 16, 63, 0, 128, 511, 1023, 0, 0, 0, 8192, 28672, 0, 65536, 258048, 0, 524288, 2093056, 4192256, 8386560, 16777215, 33554431]
theorem pelotonref10_Cut.tab7 : rtab .any (opsOf Try.f16 7) = pelotonref10_Cut.T7 := by kernel_rfl
theorem pelotonref10_Cut.bits7 : waitsOk pelotonref10_Cut.T7.2 pelotonref10_Cut.B7 = true := by kernel_rfl
set_option maxHeartbeats 60000000 in
set_option maxRecDepth 100000 in
theorem pelotonref10_Cut.calls (k : Nat) (a0_0 : Int) (a0_1 : Int) (a0_2 : Int) (a0_3 : Int) (a0_4 : Int) (a0_5 : Int) (a1 : Int) (a2 : Int) (r1 : Int) (r2 : Int) (w : World) (h : pelotonref10_Cut.f k a0_0 a0_1 a0_2 a0_3 a0_4 a0_5 a1 a2 = some (r1, r2)) :
  Calls Try.prog 16 #[.agg #[.int .i64 a0_0, .int .i64 a0_1, .int .i64 a0_2, .int .i64 a0_3, .int .i64 a0_4, .int .i64 a0_5], .int .i64 a1, .int .i64 a2] w fun e w' => e = .returned (.agg #[.int .i64 r1, .int .i64 r2]) ∧ Below w.heap.size w w' := by
 have hu23 := Try.underlying23
 have hu25 := Try.underlying25
 have HB := Aside0.mk (Below.refl w.heap.size w)
 have H : (pelotonref10_Cut.l0 k a1 a2 ([] : List Int) 1 a0_0 a0_1 a0_2 a0_3 a0_4 a0_5) = some (r1, r2) := h
 clear h
 have H' := Aside0.mk H
 clear H
 go_enter Try.func16, Try.ntmps16
 go_wp2_with (first | ((with_reducible refine gate_dst (N := 3) rfl ?_); refine box_event ?hg (N := 3) ?hd (cs := #[.int .i64 a0_0, .int .i64 a0_1, .int .i64 a0_2, .int .i64 a0_3, .int .i64 a0_4, .int .i64 a0_5]) (t := 23) ?hr ?_; (case hd => rfl); (case hg => rfl); (case hr => first | (go_simp; done) | (go_simp; rfl)); intro gb166 hg w4 hbox hb; have BK166 := Aside0.mk (hbox); have GW166 := Aside0.mk ((by rw [hg]; exact (below_size (bw_ HB)) : w.heap.size ≤ gb166)); have GE166 := Aside0.mk ((by rw [hg]; exact (below_size (bw_ HB)) : w.heap.size ≤ gb166)); replace HB := Aside0.mk (below_step (bw_ HB) hb); clear hb hbox hg) | ((with_reducible refine gate_dst (N := 6) rfl ?_); refine box_event ?hg (N := 6) ?hd (cs := #[.int .i64 0, .int .i64 0]) (t := 25) ?hr ?_; (case hd => rfl); (case hg => rfl); (case hr => first | (go_simp; done) | (go_simp; rfl)); intro gb167 hg w5 hbox hb; have BK167 := Aside0.mk (hbox); have GW167 := Aside0.mk ((by rw [hg]; exact (below_size (bw_ HB)) : w.heap.size ≤ gb167)); have GE167 := Aside0.mk ((by rw [hg]; exact (below_size (bw_ HB)) : w.heap.size ≤ gb167)); have NB166_167 := Aside0.mk ((by rw [hg]; exact Nat.ne_of_lt (blk_lt (tk_ BK166)) : gb166 ≠ gb167)); have NB167_166 := Aside0.mk ((by rw [hg]; exact Nat.ne_of_gt (blk_lt (tk_ BK166)) : gb167 ≠ gb166)); replace BK166 := Aside0.mk (blk_below (tk_ BK166) hb); replace HB := Aside0.mk (below_step (bw_ HB) hb); clear hb hbox hg))
 go_loopg [7, 8] k (fun kq v7 v8 w' => ∃ (x7_1 : List Int) (x8_1 : Int), v8 = .int .i64 x8_1 ∧ Aside0 (pelotonref10_Cut.l0 kq a1 a2 x7_1 x8_1 a0_0 a0_1 a0_2 a0_3 a0_4 a0_5 = some (r1, r2)) ∧ Aside0 (kq ≤ k) ∧ Aside0 (Kd.R (Kd.int .i64) 3 w' w.heap.size (fun _ => True) v7 x7_1) ∧ Aside0 (w'.heap[gb166]? = some (.cells #[.int .i64 a0_0, .int .i64 a0_1, .int .i64 a0_2, .int .i64 a0_3, .int .i64 a0_4, .int .i64 a0_5] 23 (0, 0))) ∧ Aside0 (w'.heap[gb167]? = some (.cells #[.int .i64 0, .int .i64 0] 25 (0, 0))) ∧ Aside0 (Below w.heap.size w w'))
 case atStart => exact ⟨(([] : List Int)), (1), (by first | rfl | (simp; done) | (simp [*]; done)), H', ⟨Nat.le_refl _⟩, ⟨by first | exact Kd.R_nil _ _ _ _ _ | exact Kd.N_nil _ _ _ _ _ | exact Kd.V_nil _ _ _ _ _ | exact Kd.Q_nil _ _ _ _ _ | exact Kd.S_nil _ _ _ _ _⟩, ⟨tk_ BK166⟩, ⟨tk_ BK167⟩, ⟨by repeat (first | (with_reducible first | exact HB.out | apply b_a | apply b_n | apply b_d | refine b_s ?_ GE166.out | refine b_s ?_ GE167.out) | exact HB.out)⟩⟩
 case round =>
  clear H'
  try clear c1
  try clear p2
  obtain ⟨x7_1, x8_1, rfl, HA, HK1, HO_7, BK166, BK167, HB⟩ := hrel
  cases gk with
  | zero => exact absurd HA.out (by simp [pelotonref10_Cut.l0])
  | succ k1 =>
   have H := HA.out
   clear HA
   simp only [pelotonref10_Cut.l0] at H
   by_cases c6 : x8_1 ≤ a0_2
   ·
    rw [if_pos c6] at H
    have c6b0 : decide (x8_1 ≤ a0_2) = true := decide_eq_true c6
    clear c6
    by_cases c7 : x8_1 = 0
    ·
     rw [if_pos c7] at H
     exact absurd H (by simp)
    rw [if_neg c7] at H
    have c7b0 : (x8_1 == 0) = false := beq_eq_false_iff_ne.mpr c7
    have c7b1 : (x8_1 != 0) = true := bne_iff_ne.mpr c7
    by_cases c8 : (Int.tmod a0_2 x8_1) = 0
    rotate_left
    ·
     rw [if_neg c8] at H
     have c8b0 : ((Int.tmod a0_2 x8_1) == 0) = false := beq_eq_false_iff_ne.mpr c8
     have c8b1 : ((Int.tmod a0_2 x8_1) != 0) = true := bne_iff_ne.mpr c8
     have H' := Aside0.mk H
     clear H
     have hnb16 := NB166_167.out
     have hnc16 := NB167_166.out
     have hcz17_0 := bc_0 BK166
     have hcz17_1 := bc_1 BK166
     have hcz17_2 := bc_2 BK166
     have hcz17_3 := bc_3 BK166
     have hcz17_4 := bc_4 BK166
     have hcz17_5 := bc_5 BK166
     have hfz17_0 := blk_frozen BK166.out 0
     have hfz17_1 := blk_frozen BK166.out 1
     have hfz17_2 := blk_frozen BK166.out 2
     have hfz17_3 := blk_frozen BK166.out 3
     have hfz17_4 := blk_frozen BK166.out 4
     have hfz17_5 := blk_frozen BK166.out 5
     go_wp2
     go_roundg k1
     case measure => have := HK1.out; omega
     case rel => exact ⟨(x7_1), (wrap64 (x8_1 + 1)), (by first | rfl | (simp; done) | (simp [*]; done)), H', ⟨by have := HK1.out; omega⟩, ⟨tR_ HO_7⟩, ⟨tk_ BK166⟩, ⟨tk_ BK167⟩, ⟨by repeat (first | (with_reducible first | exact HB.out | apply b_a | apply b_n | apply b_d | refine b_s ?_ GE166.out | refine b_s ?_ GE167.out) | exact HB.out)⟩⟩
    rw [if_pos c8] at H
    have c8b0 : ((Int.tmod a0_2 x8_1) == 0) = true := beq_iff_eq.mpr c8
    have c8b1 : ((Int.tmod a0_2 x8_1) != 0) = false := bne_eq_false_iff_eq.mpr c8
    clear c8
    by_cases c9 : (Int.tmod a0_3 x8_1) = 0
    rotate_left
    ·
     rw [if_neg c9] at H
     have c9b0 : ((Int.tmod a0_3 x8_1) == 0) = false := beq_eq_false_iff_ne.mpr c9
     have c9b1 : ((Int.tmod a0_3 x8_1) != 0) = true := bne_iff_ne.mpr c9
     have H' := Aside0.mk H
     clear H
     have hnb14 := NB166_167.out
     have hnc14 := NB167_166.out
     have hcz15_0 := bc_0 BK166
     have hcz15_1 := bc_1 BK166
     have hcz15_2 := bc_2 BK166
     have hcz15_3 := bc_3 BK166
     have hcz15_4 := bc_4 BK166
     have hcz15_5 := bc_5 BK166
     have hfz15_0 := blk_frozen BK166.out 0
     have hfz15_1 := blk_frozen BK166.out 1
     have hfz15_2 := blk_frozen BK166.out 2
     have hfz15_3 := blk_frozen BK166.out 3
     have hfz15_4 := blk_frozen BK166.out 4
     have hfz15_5 := blk_frozen BK166.out 5
     go_wp2
     go_roundg k1
     case measure => have := HK1.out; omega
     case rel => exact ⟨(x7_1), (wrap64 (x8_1 + 1)), (by first | rfl | (simp; done) | (simp [*]; done)), H', ⟨by have := HK1.out; omega⟩, ⟨tR_ HO_7⟩, ⟨tk_ BK166⟩, ⟨tk_ BK167⟩, ⟨by repeat (first | (with_reducible first | exact HB.out | apply b_a | apply b_n | apply b_d | refine b_s ?_ GE166.out | refine b_s ?_ GE167.out) | exact HB.out)⟩⟩
    rw [if_pos c9] at H
    have c9b0 : ((Int.tmod a0_3 x8_1) == 0) = true := beq_iff_eq.mpr c9
    have c9b1 : ((Int.tmod a0_3 x8_1) != 0) = false := bne_eq_false_iff_eq.mpr c9
    clear c9
    by_cases c10 : x7_1.length < 17592186044416
    rotate_left
    ·
     rw [if_neg c10] at H
     exact absurd H (by simp)
    rw [if_pos c10] at H
    have LMc10 := Aside0.mk c10
    clear c10
    obtain ⟨y168, hy168⟩ : ∃ y_ : List Int, y_ = (x7_1 ++ [x8_1]) := ⟨_, rfl⟩
    replace H : (pelotonref10_Cut.l0 k1 a1 a2 y168 (wrap64 (x8_1 + 1)) a0_0 a0_1 a0_2 a0_3 a0_4 a0_5) = some (r1, r2) := by first | (rw [hy168]; with_reducible exact H) | (have H2_ := (Option.bind_some _ _).symm.trans H; rw [hy168]; with_reducible exact H2_) | (have H2_ := (Option.bind_some _ _).symm.trans H; with_reducible exact H2_) | with_reducible exact H | (rw [hy168]; exact H) | exact H
    have Ny168 := Aside0.mk hy168
    clear hy168
    have H' := Aside0.mk H
    clear H
    have hnb11 := NB166_167.out
    have hnc11 := NB167_166.out
    have hcz12_0 := bc_0 BK166
    have hcz12_1 := bc_1 BK166
    have hcz12_2 := bc_2 BK166
    have hcz12_3 := bc_3 BK166
    have hcz12_4 := bc_4 BK166
    have hcz12_5 := bc_5 BK166
    have hfz12_0 := blk_frozen BK166.out 0
    have hfz12_1 := blk_frozen BK166.out 1
    have hfz12_2 := blk_frozen BK166.out 2
    have hfz12_3 := blk_frozen BK166.out 3
    have hfz12_4 := blk_frozen BK166.out 4
    have hfz12_5 := blk_frozen BK166.out 5
    go_wp2_with (first | ((with_reducible refine gate_builtin (b := .append) (xs := #[.tmp 27, .tmp 29]) rfl ?_); at_builtin; refine Kd.R_append (Kd.int .i64) (w0 := w) w.heap.size rfl (.tmp 27) (.tmp 29) 47 3 (.int .i64 0) 8 rfl Try.underlying47 info3 rfl (by decide) (by omega) u7 x7_1 x8_1 [.int .i64 x8_1] (fun _ => True) (fun _ => False) rfl rfl ?aP (fun _ hk => hk.elim) ?aF ?aO ?aB ?aS ?aL ?_; (case aP => exact rfl); (case aB => exact (bw_ HB)); (case aF => exact (fun _ _ => trivial)); (case aO => exact (tR_ HO_7)); (case aS => exact (below_size (bw_ HB))); (case aL => have := LMc10.out; omega); intro v169 w13 ho hb hg hat; rw [← Ny168.out] at ho; have n0_ := Aside0.mk (blk_grown (tk_ BK166) hg (Kd.R_ne HO_7.out BK166.out (by decide))); have n1_ := Aside0.mk (blk_grown (tk_ BK167) hg (Kd.R_ne HO_7.out BK167.out (by decide))); have n2_ := Aside0.mk (hb); have n3_ := Aside0.mk (ho); clear BK166; clear BK167; clear HB; clear HO_7; have BK166 := n0_; have BK167 := n1_; have HB := n2_; have HO170 := n3_; clear n0_ n1_ n2_ n3_; clear ho hb hg hat))
    go_roundg k1
    case measure => have := HK1.out; omega
    case rel => exact ⟨(y168), (wrap64 (x8_1 + 1)), (by first | rfl | (simp; done) | (simp [*]; done)), H', ⟨by have := HK1.out; omega⟩, ⟨tR_ HO170⟩, ⟨tk_ BK166⟩, ⟨tk_ BK167⟩, ⟨by repeat (first | (with_reducible first | exact HB.out | apply b_a | apply b_n | apply b_d | refine b_s ?_ GE166.out | refine b_s ?_ GE167.out) | exact HB.out)⟩⟩
   rw [if_neg c6] at H
   have c6b0 : decide (x8_1 ≤ a0_2) = false := decide_eq_false c6
   clear c6
   by_cases c18 : a0_0 = 0
   ·
    rw [if_pos c18] at H
    exact absurd H (by simp)
   rw [if_neg c18] at H
   have c18b0 : (a0_0 == 0) = false := beq_eq_false_iff_ne.mpr c18
   have c18b1 : (a0_0 != 0) = true := bne_iff_ne.mpr c18
   by_cases c19 : (x7_1.length : Int) = 0
   ·
    rw [if_pos c19] at H
    exact absurd H (by simp)
   rw [if_neg c19] at H
   have c19b0 : ((x7_1.length : Int) == 0) = false := beq_eq_false_iff_ne.mpr c19
   have c19b1 : ((x7_1.length : Int) != 0) = true := bne_iff_ne.mpr c19
   have c19b2 : ¬ (x7_1 = []) := fun h_ => c19 (by rw [h_]; rfl)
   obtain ⟨ji20, hji20⟩ : ∃ j_ : Int, (Int.tmod (wrap64 ((Int.tmod a2 (x7_1.length : Int)) + (x7_1.length : Int))) (x7_1.length : Int)) = j_ := ⟨_, rfl⟩
   replace H : (if 0 ≤ (ji20) then (if (ji20) < (x7_1.length : Int) then (some (wrap64 (1 + (Int.tmod (wrap64 ((Int.tmod a1 a0_0) + a0_0)) a0_0)), rd x7_1 (ji20))) else (none)) else (none)) = some (r1, r2) := by first | (rw [hji20] at H; exact H) | (simp only [hji20] at H ⊢; exact H)
   by_cases c21 : 0 ≤ (ji20)
   rotate_left
   ·
    rw [if_neg c21] at H
    exact absurd H (by simp)

   rw [if_pos c21] at H
   have c21b0 : decide (0 ≤ (ji20)) = true := decide_eq_true c21
   clear c21
   by_cases c22 : (ji20) < (x7_1.length : Int)
   rotate_left
   ·
    rw [if_neg c22] at H
    exact absurd H (by simp)
   rw [if_pos c22] at H
   have c22b0 : decide ((ji20) < (x7_1.length : Int)) = true := decide_eq_true c22
   clear c22
   simp only [Option.some.injEq, Prod.mk.injEq] at H
   obtain ⟨rfl, rfl⟩ := H
   have hnb23 := NB166_167.out
   have hnc23 := NB167_166.out
   have hcz24_0 := bc_0 BK166
   have hcz24_1 := bc_1 BK166
   have hcz24_2 := bc_2 BK166
   have hcz24_3 := bc_3 BK166
   have hcz24_4 := bc_4 BK166
   have hcz24_5 := bc_5 BK166
   have hfz24_0 := blk_frozen BK166.out 0
   have hfz24_1 := blk_frozen BK166.out 1
   have hfz24_2 := blk_frozen BK166.out 2
   have hfz24_3 := blk_frozen BK166.out 3
   have hfz24_4 := blk_frozen BK166.out 4
   have hfz24_5 := blk_frozen BK166.out 5
   try go_wp2
   replace HO_7 := Aside0.mk (Kd.R_drew HO_7.out)
   replace BK166 := Aside0.mk (k_d BK166.out)
   replace BK167 := Aside0.mk (k_d BK167.out)
   replace HB := Aside0.mk (b_d HB.out)
   obtain ⟨Ao26, co26, eo26⟩ := Kd.R_slice HO_7.out
   (first | subst eo26 | (injection eo26 with f1_ f2_ f3_; have f4_ := f1_.symm; have f5_ := f3_.symm; clear f1_ f2_ f3_; subst f4_; subst f5_))
   have p171 : 0 ≤ ((ji20) : Int) := of_decide_eq_true (by first | (with_reducible assumption) | assumption)
   have q171 : (ji20) < (x7_1.length : Int) := of_decide_eq_true (by first | (with_reducible assumption) | assumption)
   obtain ⟨ad171, e171, hx171_0⟩ := Kd.at_int (Kd.R_reads' HO_7.out).2.2 (ji20) p171 q171
   cases e171
   replace p171 := eq_true p171
   replace q171 := eq_true q171
   refine start_ (n := 26) (S := fun w' => w'.cell? ⟨gb166, 0, none⟩ = some (.int .i64 a0_0) ∧ w'.cell? ⟨gb166, 1, none⟩ = some (.int .i64 a0_1) ∧ w'.cell? ⟨gb166, 2, none⟩ = some (.int .i64 a0_2) ∧ w'.cell? ⟨gb166, 3, none⟩ = some (.int .i64 a0_3) ∧ w'.cell? ⟨gb166, 4, none⟩ = some (.int .i64 a0_4) ∧ w'.cell? ⟨gb166, 5, none⟩ = some (.int .i64 a0_5) ∧ w'.cell? (ad171.add ((ji20)).toNat) = some (.int .i64 (rd x7_1 (ji20)))) (ds := []) #[false, false, false, false, false, false, false, false, false, false, false, false, false, false, false, false, false, false, false, false, false, false, false, false, false, false] (by kernel_rfl) rfl rfl ⟨(blk_cell BK166.out 0).trans rfl, (blk_cell BK166.out 1).trans rfl, (blk_cell BK166.out 2).trans rfl, (blk_cell BK166.out 3).trans rfl, (blk_cell BK166.out 4).trans rfl, (blk_cell BK166.out 5).trans rfl, hx171_0⟩ (fun hHeld => ?_); refine with_tabW pelotonref10_Cut.tab7 pelotonref10_Cut.bits7 (fun HT_ HW_ => ?_)
   generalize wr.drew = w25 at HO_7 BK166 BK167 HB hx171_0 hHeld ⊢
   refine pu_ (i := 0) (N := some 31) (bs_ 26 1) rfl rfl HT_ ?_
   refine pu_ (i := 1) (N := some 32) (bs_ 26 3) rfl rfl HT_ ?_
   refine pu_ (i := 4) (N := some 35) (bs_ 26 19) rfl rfl HT_ ?_
   refine pu_ (i := 7) (N := some 38) (bs_ 26 147) rfl rfl HT_ ?_
   refine pu_ (i := 11) (N := some 42) (bs_ 26 2195) rfl rfl HT_ ?_
   refine pu_ (i := 12) (N := some 43) (bs_ 26 6291) rfl rfl HT_ ?_
   refine pu_ (i := 13) (N := some 44) (bs_ 26 14483) rfl rfl HT_ ?_
   refine pu_ (i := 14) (N := some 45) (bs_ 26 30867) rfl rfl HT_ ?_
   refine pu_ (i := 15) (N := some 46) (bs_ 26 63635) rfl rfl HT_ ?_
   refine pu_ (i := 16) (N := some 47) (bs_ 26 129171) rfl rfl HT_ ?_
   refine pu_ (i := 17) (N := some 48) (bs_ 26 260243) rfl rfl HT_ ?_
   refine pu_ (i := 18) (N := some 49) (bs_ 26 522387) rfl rfl HT_ ?_
   refine pu_ (i := 19) (N := some 50) (bs_ 26 1046675) rfl rfl HT_ ?_
   refine pu_ (i := 20) (N := some 51) (bs_ 26 2095251) rfl rfl HT_ ?_
   refine pu_ (i := 21) (N := some 52) (bs_ 26 4192403) rfl rfl HT_ ?_
   refine pu_ (i := 22) (N := some 53) (bs_ 26 8386707) rfl rfl HT_ ?_
   refine take_ (i := 2) (N := some 33) (v := ?_) (a' := ?_) (bs_ 26 8386711) rfl rfl (take_ofW HT_.out HW_.out (by kernel_rfl)) (fun _ _ _ h => h) (Or.inl ⟨by rfl, ?_⟩) hHeld ?_ ?_
   rotate_left
   ·
    rintro w' ⟨s0, s1, s2, s3, s4, s5, s6⟩
    go_simp
    with_reducible rfl
   rotate_left
   ·
    simp only [Act.put, l_1, l_2, l_3, i64_w, i32_w]
    rfl
   refine pu_ (i := 3) (N := some 34) (bs_ 26 8386719) rfl rfl HT_ ?_
   refine take_ (i := 5) (N := some 36) (v := ?_) (a' := ?_) (bs_ 26 8386751) rfl rfl (take_ofW HT_.out HW_.out (by kernel_rfl)) (fun _ _ _ h => h) (Or.inl ⟨by rfl, ?_⟩) hHeld ?_ ?_
   rotate_left
   ·
    rintro w' ⟨s0, s1, s2, s3, s4, s5, s6⟩
    go_simp
    with_reducible rfl
   rotate_left
   ·
    simp only [Act.put, l_1, l_2, l_3, i64_w, i32_w]
    rfl
   refine pu_ (i := 6) (N := some 37) (bs_ 26 8386815) rfl rfl HT_ ?_
   refine take_ (i := 8) (N := some 39) (v := ?_) (a' := ?_) (bs_ 26 8387071) rfl rfl (take_ofW HT_.out HW_.out (by kernel_rfl)) (fun _ _ _ h => h) (Or.inl ⟨by rfl, ?_⟩) hHeld ?_ ?_
   rotate_left
   ·
    rintro w' ⟨s0, s1, s2, s3, s4, s5, s6⟩
    go_simp
    with_reducible rfl
   rotate_left
   ·
    simp only [Act.put, l_1, l_2, l_3, i64_w, i32_w]
    rfl
   refine pu_ (i := 9) (N := some 40) (bs_ 26 8387583) rfl rfl HT_ ?_
   refine pu_ (i := 10) (N := some 41) (bs_ 26 8388607) rfl rfl HT_ ?_
   refine take_ (i := 23) (N := some 54) (v := ?_) (a' := ?_) (bs_ 26 16777215) rfl rfl (take_ofW HT_.out HW_.out (by kernel_rfl)) (fun _ _ _ h => h) (Or.inl ⟨by rfl, ?_⟩) hHeld ?_ ?_
   rotate_left
   ·
    rintro w' ⟨s0, s1, s2, s3, s4, s5, s6⟩
    go_simp
    with_reducible rfl
   rotate_left
   ·
    simp only [Act.put, l_1, l_2, l_3, i64_w, i32_w]
    rfl
   refine pu_ (i := 24) (N := some 55) (bs_ 26 33554431) rfl rfl HT_ ?_
   refine one_ (i := 25) (N := none) (bs_ 26 67108863) rfl rfl (one_of HT_.out (by kernel_rfl)) (by decide) (fun K hK => ?_)
   have hs27 := bc_0 BK167
   have hfs27 := blk_frozen BK167.out 0
   have hns27_0 := NB166_167.out
   have hms27_0 := NB167_166.out
   have hs28 := bc_1 BK167
   have hfs28 := blk_frozen BK167.out 1
   have hns28_0 := NB166_167.out
   have hms28_0 := NB167_166.out
   refine skip_ (w1 := ?_) (by rfl) rfl ?_ ?_
   rotate_left
   ·
    go_simp
    rfl
   refine hK.out _ _ ⟨((cell_far (p := ⟨gb167, _, none⟩) NB166_167.out _).trans (((cell_far (p := ⟨gb167, _, none⟩) NB166_167.out _).trans (hHeld.1)))), ((cell_far (p := ⟨gb167, _, none⟩) NB166_167.out _).trans (((cell_far (p := ⟨gb167, _, none⟩) NB166_167.out _).trans (hHeld.2.1)))), ((cell_far (p := ⟨gb167, _, none⟩) NB166_167.out _).trans (((cell_far (p := ⟨gb167, _, none⟩) NB166_167.out _).trans (hHeld.2.2.1)))), ((cell_far (p := ⟨gb167, _, none⟩) NB166_167.out _).trans (((cell_far (p := ⟨gb167, _, none⟩) NB166_167.out _).trans (hHeld.2.2.2.1)))), ((cell_far (p := ⟨gb167, _, none⟩) NB166_167.out _).trans (((cell_far (p := ⟨gb167, _, none⟩) NB166_167.out _).trans (hHeld.2.2.2.2.1)))), ((cell_far (p := ⟨gb167, _, none⟩) NB166_167.out _).trans (((cell_far (p := ⟨gb167, _, none⟩) NB166_167.out _).trans (hHeld.2.2.2.2.2.1)))), ((cell_far (p := ⟨gb167, _, none⟩) (by first | exact Kd.own_blk (Kd.R_ne HO_7.out BK167.out (by decide)) | (rw [add_block]; exact Kd.own_blk (Kd.R_ne HO_7.out BK167.out (by decide))) | (show (Addr.add _ _).block ≠ _; rw [add_block]; exact Kd.own_blk (Kd.R_ne HO_7.out BK167.out (by decide))) | (dsimp only; exact Kd.own_blk (Kd.R_ne HO_7.out BK167.out (by decide)))) _).trans (((cell_far (p := ⟨gb167, _, none⟩) (by first | exact Kd.own_blk (Kd.R_ne HO_7.out BK167.out (by decide)) | (rw [add_block]; exact Kd.own_blk (Kd.R_ne HO_7.out BK167.out (by decide))) | (show (Addr.add _ _).block ≠ _; rw [add_block]; exact Kd.own_blk (Kd.R_ne HO_7.out BK167.out (by decide))) | (dsimp only; exact Kd.own_blk (Kd.R_ne HO_7.out BK167.out (by decide)))) _).trans (hHeld.2.2.2.2.2.2))))⟩ (fun hHeld => ?_)
   clear hK K
   refine done_ (done_of HT_.out (by kernel_rfl)) ?_
   try go_wp2
   refine bodyPost_ret (results_cell_row rfl _ _ gb167 25 #[.int .i64 (wrap64 (1 + (Int.tmod (wrap64 ((Int.tmod a1 a0_0) + a0_0)) a0_0))), .int .i64 (rd x7_1 (ji20))] (0, 0) _ rfl (by (with_reducible repeat (first | refine k_n ?_ _ | refine k_d ?_ | refine k_a ?_ _)); refine blk_put (cs := #[.int .i64 (wrap64 (1 + (Int.tmod (wrap64 ((Int.tmod a1 a0_0) + a0_0)) a0_0))), .int .i64 0]) ?_ 1 _ rfl; (with_reducible repeat (first | refine k_n ?_ _ | refine k_d ?_ | refine k_a ?_ _)); refine blk_put (cs := #[.int .i64 0, .int .i64 0]) ?_ 0 _ rfl; (with_reducible repeat (first | refine k_n ?_ _ | refine k_d ?_ | refine k_a ?_ _)); exact BK167.out) Try.underlying25 rfl (by kernel_rfl)) rfl ?_
   exact ⟨by first | rfl | (simp [errW_none, errW_some] <;> rfl) | (simp only [← hji20]; first | rfl | (simp [errW_none, errW_some] <;> rfl)) | (simp [*, errW_none, errW_some] <;> rfl), by repeat (first | (with_reducible first | exact HB.out | apply b_a | apply b_n | apply b_d | refine b_s ?_ GE166.out | refine b_s ?_ GE167.out) | exact HB.out)⟩
/-! ### slice_Where: function 19 -/
def slice_Where.f (a0_0 : Int) (a0_1 : Int) (a1 : Int) : Option (Int × Int × Bool) := (slice_fits.f a0_0 a0_1).bind fun t174 => (if t174 = true then (if a1 < 0 then (some (0, 0, false)) else (if a1 ≥ (wrap64 (a0_0 * a0_1)) then (some (0, 0, false)) else (if a0_1 = 0 then (none) else (some (wrap64 (Int.tdiv a1 a0_1), Int.tmod a1 a0_1, true))))) else (some (0, 0, false)))
def slice_Where.T3 : Bool × List (List Nat × List Nat) := (true, [([], []), ([], []), ([1], [1]), ([0, 2], [0, 2]), ([], []), ([], []), ([5], [5]), ([4, 6], [4, 6]), ([3, 7], [3, 7]), ([8, 0, 1, 2, 3, 4, 5, 6, 7, 8], [8]), ([9, 0, 1, 2, 3, 4, 5, 6, 7, 8, 9], [])])
def slice_Where.B3 : List Nat := [0, 0, 2, 7, 0, 0, 32, 112, 255, 511, 1023]
theorem slice_Where.tab3 : rtab .any (opsOf Try.f19 3) = slice_Where.T3 := by kernel_rfl
theorem slice_Where.bits3 : waitsOk slice_Where.T3.2 slice_Where.B3 = true := by kernel_rfl
set_option maxHeartbeats 60000000 in
set_option maxRecDepth 100000 in
theorem slice_Where.calls (a0_0 : Int) (a0_1 : Int) (a1 : Int) (r1 : Int) (r2 : Int) (r3 : Bool) (w : World) (h : slice_Where.f a0_0 a0_1 a1 = some (r1, r2, r3)) :
  Calls Try.prog 19 #[.agg #[.int .i64 a0_0, .int .i64 a0_1], .int .i64 a1] w fun e w' => e = .returned (.tuple #[.agg #[.int .i64 r1, .int .i64 r2], .bool r3]) ∧ Below w.heap.size w w' := by
 have hu25 := Try.underlying25
 have hu29 := Try.underlying29
 have HB := Aside0.mk (Below.refl w.heap.size w)
 have H : ((slice_fits.f a0_0 a0_1).bind fun t174 => (if t174 = true then (if a1 < 0 then (some (0, 0, false)) else (if a1 ≥ (wrap64 (a0_0 * a0_1)) then (some (0, 0, false)) else (if a0_1 = 0 then (none) else (some (wrap64 (Int.tdiv a1 a0_1), Int.tmod a1 a0_1, true))))) else (some (0, 0, false)))) = some (r1, r2, r3) := h
 clear h
 replace H := Option.bind_eq_some_iff.mp H
 obtain ⟨t174, A30, H⟩ := H
 replace H : (if t174 = true then (if a1 < 0 then (some (0, 0, false)) else (if a1 ≥ (wrap64 (a0_0 * a0_1)) then (some (0, 0, false)) else (if a0_1 = 0 then (none) else (some (wrap64 (Int.tdiv a1 a0_1), Int.tmod a1 a0_1, true))))) else (some (0, 0, false))) = some (r1, r2, r3) := H
 have A3 := Aside0.mk A30
 clear A30
 by_cases c4 : t174 = true
 rotate_left
 ·
  replace c4 := Bool.eq_false_iff.mpr c4
  subst c4
  have H1 : (some (0, 0, false)) = some (r1, r2, r3) := by rw [if_neg (show ¬ (false = true) by decide)] at H; exact H
  clear H
  have H := H1
  clear H1
  simp only [Option.some.injEq, Prod.mk.injEq] at H
  obtain ⟨rfl, rfl, rfl⟩ := H
  go_enter Try.func19, Try.ntmps19
  go_wp2_with (first | ((with_reducible refine gate_dst (N := 2) rfl ?_); refine box_event ?hg (N := 2) ?hd (cs := #[.int .i64 a0_0, .int .i64 a0_1]) (t := 25) ?hr ?_; (case hd => rfl); (case hg => rfl); (case hr => first | (go_simp; done) | (go_simp; rfl)); intro gb172 hg w30 hbox hb; have BK172 := Aside0.mk (hbox); have GW172 := Aside0.mk ((by rw [hg]; exact (below_size (bw_ HB)) : w.heap.size ≤ gb172)); have GE172 := Aside0.mk ((by rw [hg]; exact (below_size (bw_ HB)) : w.heap.size ≤ gb172)); replace HB := Aside0.mk (below_step (bw_ HB) hb); clear hb hbox hg) | ((with_reducible refine gate_dst (N := 4) rfl ?_); refine box_event ?hg (N := 4) ?hd (cs := #[.int .i64 0, .int .i64 0]) (t := 29) ?hr ?_; (case hd => rfl); (case hg => rfl); (case hr => first | (go_simp; done) | (go_simp; rfl)); intro gb173 hg w31 hbox hb; have BK173 := Aside0.mk (hbox); have GW173 := Aside0.mk ((by rw [hg]; exact (below_size (bw_ HB)) : w.heap.size ≤ gb173)); have GE173 := Aside0.mk ((by rw [hg]; exact (below_size (bw_ HB)) : w.heap.size ≤ gb173)); have NB172_173 := Aside0.mk ((by rw [hg]; exact Nat.ne_of_lt (blk_lt (tk_ BK172)) : gb172 ≠ gb173)); have NB173_172 := Aside0.mk ((by rw [hg]; exact Nat.ne_of_gt (blk_lt (tk_ BK172)) : gb173 ≠ gb172)); replace BK172 := Aside0.mk (blk_below (tk_ BK172) hb); replace HB := Aside0.mk (below_step (bw_ HB) hb); clear hb hbox hg; have hnb32 := NB172_173.out; have hnc32 := NB173_172.out; have hcz33_0 := bc_0 BK172; have hcz33_1 := bc_1 BK172; have hfz33_0 := blk_frozen BK172.out 0; have hfz33_1 := blk_frozen BK172.out 1) | ((with_reducible refine gate_callee (f := 23) rfl ?_); refine goesL_ (some 7) rfl rfl Try.func23 (by kernel_rfl) rfl #[.agg #[.int .i64 a0_0, .int .i64 a0_1]] rfl (by (try simp only [l_4, l_5, l_6]); first | done | rfl | (simp only [l_7, l_8]; rfl)) ?_; (with_reducible refine (slice_fits.calls a0_0 a0_1 false _ A3.out).mono ?_); rintro e w34 ⟨rfl, hb⟩; (try clear A3); refine ⟨_, rfl, ?_⟩; replace BK172 := Aside0.mk (blk_below (tk_ BK172) hb); replace BK173 := Aside0.mk (blk_below (tk_ BK173) hb); replace HB := Aside0.mk (below_step (bw_ HB) hb); (try clear hb); (try clear hb2); (try clear hk); (try clear hi); have hcz35_0 := bc_0 BK173; have hcz35_1 := bc_1 BK173; have hfz35_0 := blk_frozen BK173.out 0; have hfz35_1 := blk_frozen BK173.out 1))
  refine bodyPost_ret (results_ct rfl _ _ gb173 29 #[.int .i64 0, .int .i64 0] (0, 0) _ rfl (by (with_reducible repeat (first | refine k_n ?_ _ | refine k_d ?_ | refine k_a ?_ _)); refine blk_put (cs := #[.int .i64 0, .int .i64 0]) ?_ 1 _ rfl; (with_reducible repeat (first | refine k_n ?_ _ | refine k_d ?_ | refine k_a ?_ _)); refine blk_put (cs := #[.int .i64 0, .int .i64 0]) ?_ 0 _ rfl; (with_reducible repeat (first | refine k_n ?_ _ | refine k_d ?_ | refine k_a ?_ _)); exact BK173.out) Try.underlying29 rfl (by kernel_rfl)) rfl ?_
  exact ⟨by first | rfl | (simp [errW_none, errW_some] <;> rfl) | (simp [*, errW_none, errW_some] <;> rfl), by repeat (first | (with_reducible first | exact HB.out | apply b_a | apply b_n | apply b_d | refine b_s ?_ GE172.out | refine b_s ?_ GE173.out) | exact HB.out)⟩

 subst c4
 have H1 : (if a1 < 0 then (some (0, 0, false)) else (if a1 ≥ (wrap64 (a0_0 * a0_1)) then (some (0, 0, false)) else (if a0_1 = 0 then (none) else (some (wrap64 (Int.tdiv a1 a0_1), Int.tmod a1 a0_1, true))))) = some (r1, r2, r3) := by rw [if_pos rfl] at H; exact H
 clear H
 have H := H1
 clear H1
 by_cases c5 : a1 < 0
 ·
  rw [if_pos c5] at H
  have c5b0 : decide (a1 < 0) = true := decide_eq_true c5
  clear c5
  simp only [Option.some.injEq, Prod.mk.injEq] at H
  obtain ⟨rfl, rfl, rfl⟩ := H
  go_enter Try.func19, Try.ntmps19
  go_wp2_with (first | ((with_reducible refine gate_dst (N := 2) rfl ?_); refine box_event ?hg (N := 2) ?hd (cs := #[.int .i64 a0_0, .int .i64 a0_1]) (t := 25) ?hr ?_; (case hd => rfl); (case hg => rfl); (case hr => first | (go_simp; done) | (go_simp; rfl)); intro gb172 hg w6 hbox hb; have BK172 := Aside0.mk (hbox); have GW172 := Aside0.mk ((by rw [hg]; exact (below_size (bw_ HB)) : w.heap.size ≤ gb172)); have GE172 := Aside0.mk ((by rw [hg]; exact (below_size (bw_ HB)) : w.heap.size ≤ gb172)); replace HB := Aside0.mk (below_step (bw_ HB) hb); clear hb hbox hg) | ((with_reducible refine gate_dst (N := 4) rfl ?_); refine box_event ?hg (N := 4) ?hd (cs := #[.int .i64 0, .int .i64 0]) (t := 29) ?hr ?_; (case hd => rfl); (case hg => rfl); (case hr => first | (go_simp; done) | (go_simp; rfl)); intro gb173 hg w7 hbox hb; have BK173 := Aside0.mk (hbox); have GW173 := Aside0.mk ((by rw [hg]; exact (below_size (bw_ HB)) : w.heap.size ≤ gb173)); have GE173 := Aside0.mk ((by rw [hg]; exact (below_size (bw_ HB)) : w.heap.size ≤ gb173)); have NB172_173 := Aside0.mk ((by rw [hg]; exact Nat.ne_of_lt (blk_lt (tk_ BK172)) : gb172 ≠ gb173)); have NB173_172 := Aside0.mk ((by rw [hg]; exact Nat.ne_of_gt (blk_lt (tk_ BK172)) : gb173 ≠ gb172)); replace BK172 := Aside0.mk (blk_below (tk_ BK172) hb); replace HB := Aside0.mk (below_step (bw_ HB) hb); clear hb hbox hg; have hnb8 := NB172_173.out; have hnc8 := NB173_172.out; have hcz9_0 := bc_0 BK172; have hcz9_1 := bc_1 BK172; have hfz9_0 := blk_frozen BK172.out 0; have hfz9_1 := blk_frozen BK172.out 1) | ((with_reducible refine gate_callee (f := 23) rfl ?_); refine goesL_ (some 7) rfl rfl Try.func23 (by kernel_rfl) rfl #[.agg #[.int .i64 a0_0, .int .i64 a0_1]] rfl (by (try simp only [l_4, l_5, l_6]); first | done | rfl | (simp only [l_7, l_8]; rfl)) ?_; (with_reducible refine (slice_fits.calls a0_0 a0_1 true _ A3.out).mono ?_); rintro e w10 ⟨rfl, hb⟩; (try clear A3); refine ⟨_, rfl, ?_⟩; replace BK172 := Aside0.mk (blk_below (tk_ BK172) hb); replace BK173 := Aside0.mk (blk_below (tk_ BK173) hb); replace HB := Aside0.mk (below_step (bw_ HB) hb); (try clear hb); (try clear hb2); (try clear hk); (try clear hi); have hcz11_0 := bc_0 BK173; have hcz11_1 := bc_1 BK173; have hfz11_0 := blk_frozen BK173.out 0; have hfz11_1 := blk_frozen BK173.out 1))
  refine bodyPost_ret (results_ct rfl _ _ gb173 29 #[.int .i64 0, .int .i64 0] (0, 0) _ rfl (by (with_reducible repeat (first | refine k_n ?_ _ | refine k_d ?_ | refine k_a ?_ _)); refine blk_put (cs := #[.int .i64 0, .int .i64 0]) ?_ 1 _ rfl; (with_reducible repeat (first | refine k_n ?_ _ | refine k_d ?_ | refine k_a ?_ _)); refine blk_put (cs := #[.int .i64 0, .int .i64 0]) ?_ 0 _ rfl; (with_reducible repeat (first | refine k_n ?_ _ | refine k_d ?_ | refine k_a ?_ _)); exact BK173.out) Try.underlying29 rfl (by kernel_rfl)) rfl ?_
  exact ⟨by first | rfl | (simp [errW_none, errW_some] <;> rfl) | (simp [*, errW_none, errW_some] <;> rfl), by repeat (first | (with_reducible first | exact HB.out | apply b_a | apply b_n | apply b_d | refine b_s ?_ GE172.out | refine b_s ?_ GE173.out) | exact HB.out)⟩
 rw [if_neg c5] at H
 have c5b0 : decide (a1 < 0) = false := decide_eq_false c5
 clear c5
 by_cases c12 : a1 ≥ (wrap64 (a0_0 * a0_1))
 ·
  rw [if_pos c12] at H
  have c12b0 : decide ((wrap64 (a0_0 * a0_1)) ≤ a1) = true := decide_eq_true c12
  clear c12
  simp only [Option.some.injEq, Prod.mk.injEq] at H
  obtain ⟨rfl, rfl, rfl⟩ := H
  go_enter Try.func19, Try.ntmps19
  go_wp2_with (first | ((with_reducible refine gate_dst (N := 2) rfl ?_); refine box_event ?hg (N := 2) ?hd (cs := #[.int .i64 a0_0, .int .i64 a0_1]) (t := 25) ?hr ?_; (case hd => rfl); (case hg => rfl); (case hr => first | (go_simp; done) | (go_simp; rfl)); intro gb172 hg w13 hbox hb; have BK172 := Aside0.mk (hbox); have GW172 := Aside0.mk ((by rw [hg]; exact (below_size (bw_ HB)) : w.heap.size ≤ gb172)); have GE172 := Aside0.mk ((by rw [hg]; exact (below_size (bw_ HB)) : w.heap.size ≤ gb172)); replace HB := Aside0.mk (below_step (bw_ HB) hb); clear hb hbox hg) | ((with_reducible refine gate_dst (N := 4) rfl ?_); refine box_event ?hg (N := 4) ?hd (cs := #[.int .i64 0, .int .i64 0]) (t := 29) ?hr ?_; (case hd => rfl); (case hg => rfl); (case hr => first | (go_simp; done) | (go_simp; rfl)); intro gb173 hg w14 hbox hb; have BK173 := Aside0.mk (hbox); have GW173 := Aside0.mk ((by rw [hg]; exact (below_size (bw_ HB)) : w.heap.size ≤ gb173)); have GE173 := Aside0.mk ((by rw [hg]; exact (below_size (bw_ HB)) : w.heap.size ≤ gb173)); have NB172_173 := Aside0.mk ((by rw [hg]; exact Nat.ne_of_lt (blk_lt (tk_ BK172)) : gb172 ≠ gb173)); have NB173_172 := Aside0.mk ((by rw [hg]; exact Nat.ne_of_gt (blk_lt (tk_ BK172)) : gb173 ≠ gb172)); replace BK172 := Aside0.mk (blk_below (tk_ BK172) hb); replace HB := Aside0.mk (below_step (bw_ HB) hb); clear hb hbox hg; have hnb15 := NB172_173.out; have hnc15 := NB173_172.out; have hcz16_0 := bc_0 BK172; have hcz16_1 := bc_1 BK172; have hfz16_0 := blk_frozen BK172.out 0; have hfz16_1 := blk_frozen BK172.out 1) | ((with_reducible refine gate_callee (f := 23) rfl ?_); refine goesL_ (some 7) rfl rfl Try.func23 (by kernel_rfl) rfl #[.agg #[.int .i64 a0_0, .int .i64 a0_1]] rfl (by (try simp only [l_4, l_5, l_6]); first | done | rfl | (simp only [l_7, l_8]; rfl)) ?_; (with_reducible refine (slice_fits.calls a0_0 a0_1 true _ A3.out).mono ?_); rintro e w17 ⟨rfl, hb⟩; (try clear A3); refine ⟨_, rfl, ?_⟩; replace BK172 := Aside0.mk (blk_below (tk_ BK172) hb); replace BK173 := Aside0.mk (blk_below (tk_ BK173) hb); replace HB := Aside0.mk (below_step (bw_ HB) hb); (try clear hb); (try clear hb2); (try clear hk); (try clear hi); have hcz18_0 := bc_0 BK172; have hcz18_1 := bc_1 BK172; have hfz18_0 := blk_frozen BK172.out 0; have hfz18_1 := blk_frozen BK172.out 1; have hcz19_0 := bc_0 BK173; have hcz19_1 := bc_1 BK173; have hfz19_0 := blk_frozen BK173.out 0; have hfz19_1 := blk_frozen BK173.out 1))
  refine bodyPost_ret (results_ct rfl _ _ gb173 29 #[.int .i64 0, .int .i64 0] (0, 0) _ rfl (by (with_reducible repeat (first | refine k_n ?_ _ | refine k_d ?_ | refine k_a ?_ _)); refine blk_put (cs := #[.int .i64 0, .int .i64 0]) ?_ 1 _ rfl; (with_reducible repeat (first | refine k_n ?_ _ | refine k_d ?_ | refine k_a ?_ _)); refine blk_put (cs := #[.int .i64 0, .int .i64 0]) ?_ 0 _ rfl; (with_reducible repeat (first | refine k_n ?_ _ | refine k_d ?_ | refine k_a ?_ _)); exact BK173.out) Try.underlying29 rfl (by kernel_rfl)) rfl ?_
  exact ⟨by first | rfl | (simp [errW_none, errW_some] <;> rfl) | (simp [*, errW_none, errW_some] <;> rfl), by repeat (first | (with_reducible first | exact HB.out | apply b_a | apply b_n | apply b_d | refine b_s ?_ GE172.out | refine b_s ?_ GE173.out) | exact HB.out)⟩
 rw [if_neg c12] at H
 have c12b0 : decide ((wrap64 (a0_0 * a0_1)) ≤ a1) = false := decide_eq_false c12
 clear c12
 by_cases c20 : a0_1 = 0
 ·
  rw [if_pos c20] at H
  exact absurd H (by simp)
 rw [if_neg c20] at H
 have c20b0 : (a0_1 == 0) = false := beq_eq_false_iff_ne.mpr c20
 have c20b1 : (a0_1 != 0) = true := bne_iff_ne.mpr c20
 simp only [Option.some.injEq, Prod.mk.injEq] at H
 obtain ⟨rfl, rfl, rfl⟩ := H
 go_enter Try.func19, Try.ntmps19
 try go_wp2_with (first | ((with_reducible refine gate_dst (N := 2) rfl ?_); refine box_event ?hg (N := 2) ?hd (cs := #[.int .i64 a0_0, .int .i64 a0_1]) (t := 25) ?hr ?_; (case hd => rfl); (case hg => rfl); (case hr => first | (go_simp; done) | (go_simp; rfl)); intro gb172 hg w21 hbox hb; have BK172 := Aside0.mk (hbox); have GW172 := Aside0.mk ((by rw [hg]; exact (below_size (bw_ HB)) : w.heap.size ≤ gb172)); have GE172 := Aside0.mk ((by rw [hg]; exact (below_size (bw_ HB)) : w.heap.size ≤ gb172)); replace HB := Aside0.mk (below_step (bw_ HB) hb); clear hb hbox hg) | ((with_reducible refine gate_dst (N := 4) rfl ?_); refine box_event ?hg (N := 4) ?hd (cs := #[.int .i64 0, .int .i64 0]) (t := 29) ?hr ?_; (case hd => rfl); (case hg => rfl); (case hr => first | (go_simp; done) | (go_simp; rfl)); intro gb173 hg w22 hbox hb; have BK173 := Aside0.mk (hbox); have GW173 := Aside0.mk ((by rw [hg]; exact (below_size (bw_ HB)) : w.heap.size ≤ gb173)); have GE173 := Aside0.mk ((by rw [hg]; exact (below_size (bw_ HB)) : w.heap.size ≤ gb173)); have NB172_173 := Aside0.mk ((by rw [hg]; exact Nat.ne_of_lt (blk_lt (tk_ BK172)) : gb172 ≠ gb173)); have NB173_172 := Aside0.mk ((by rw [hg]; exact Nat.ne_of_gt (blk_lt (tk_ BK172)) : gb173 ≠ gb172)); replace BK172 := Aside0.mk (blk_below (tk_ BK172) hb); replace HB := Aside0.mk (below_step (bw_ HB) hb); clear hb hbox hg; have hnb23 := NB172_173.out; have hnc23 := NB173_172.out; have hcz24_0 := bc_0 BK172; have hcz24_1 := bc_1 BK172; have hfz24_0 := blk_frozen BK172.out 0; have hfz24_1 := blk_frozen BK172.out 1) | ((with_reducible refine gate_callee (f := 23) rfl ?_); refine goesL_ (some 7) rfl rfl Try.func23 (by kernel_rfl) rfl #[.agg #[.int .i64 a0_0, .int .i64 a0_1]] rfl (by (try simp only [l_4, l_5, l_6]); first | done | rfl | (simp only [l_7, l_8]; rfl)) ?_; (with_reducible refine (slice_fits.calls a0_0 a0_1 true _ A3.out).mono ?_); rintro e w25 ⟨rfl, hb⟩; (try clear A3); refine ⟨_, rfl, ?_⟩; replace BK172 := Aside0.mk (blk_below (tk_ BK172) hb); replace BK173 := Aside0.mk (blk_below (tk_ BK173) hb); replace HB := Aside0.mk (below_step (bw_ HB) hb); (try clear hb); (try clear hb2); (try clear hk); (try clear hi); have hcz26_0 := bc_0 BK172; have hcz26_1 := bc_1 BK172; have hfz26_0 := blk_frozen BK172.out 0; have hfz26_1 := blk_frozen BK172.out 1))
 replace BK172 := Aside0.mk (k_d BK172.out)
 replace BK173 := Aside0.mk (k_d BK173.out)
 replace HB := Aside0.mk (b_d HB.out)
 refine start_ (n := 11) (S := fun w' => w'.cell? ⟨gb172, 0, none⟩ = some (.int .i64 a0_0) ∧ w'.cell? ⟨gb172, 1, none⟩ = some (.int .i64 a0_1)) (ds := []) #[false, false, false, false, false, false, false, false, false, false, false] (by kernel_rfl) rfl rfl ⟨(blk_cell BK172.out 0).trans rfl, (blk_cell BK172.out 1).trans rfl⟩ (fun hHeld => ?_); refine with_tabW slice_Where.tab3 slice_Where.bits3 (fun HT_ HW_ => ?_)
 generalize w25.drew = w27 at BK172 BK173 HB hHeld ⊢
 refine pu_ (i := 0) (N := some 23) (bs_ 11 1) rfl rfl HT_ ?_
 refine pu_ (i := 1) (N := some 24) (bs_ 11 3) rfl rfl HT_ ?_
 refine pu_ (i := 4) (N := some 27) (bs_ 11 19) rfl rfl HT_ ?_
 refine pu_ (i := 5) (N := some 28) (bs_ 11 51) rfl rfl HT_ ?_
 refine take_ (i := 2) (N := some 25) (v := ?_) (a' := ?_) (bs_ 11 55) rfl rfl (take_ofW HT_.out HW_.out (by kernel_rfl)) (fun _ _ _ h => h) (Or.inl ⟨by rfl, ?_⟩) hHeld ?_ ?_
 rotate_left
 ·
  rintro w' ⟨s0, s1⟩
  go_simp
  with_reducible rfl
 rotate_left
 ·
  simp only [Act.put, l_1, l_2, l_3, i64_w, i32_w]
  rfl
 refine pu_ (i := 3) (N := some 26) (bs_ 11 63) rfl rfl HT_ ?_
 refine take_ (i := 6) (N := some 29) (v := ?_) (a' := ?_) (bs_ 11 127) rfl rfl (take_ofW HT_.out HW_.out (by kernel_rfl)) (fun _ _ _ h => h) (Or.inl ⟨by rfl, ?_⟩) hHeld ?_ ?_
 rotate_left
 ·
  rintro w' ⟨s0, s1⟩
  go_simp
  with_reducible rfl
 rotate_left
 ·
  simp only [Act.put, l_1, l_2, l_3, i64_w, i32_w]
  rfl
 refine pu_ (i := 7) (N := some 30) (bs_ 11 255) rfl rfl HT_ ?_
 refine pu_ (i := 8) (N := some 31) (bs_ 11 511) rfl rfl HT_ ?_
 refine one_ (i := 9) (N := none) (bs_ 11 1023) rfl rfl (one_of HT_.out (by kernel_rfl)) (by decide) (fun K hK => ?_)
 have hs28 := bc_0 BK173
 have hfs28 := blk_frozen BK173.out 0
 have hns28_0 := NB172_173.out
 have hms28_0 := NB173_172.out
 have hs29 := bc_1 BK173
 have hfs29 := blk_frozen BK173.out 1
 have hns29_0 := NB172_173.out
 have hms29_0 := NB173_172.out
 refine skip_ (w1 := ?_) (by rfl) rfl ?_ ?_
 rotate_left
 ·
  go_simp
  rfl
 refine hK.out _ _ ⟨((cell_far (p := ⟨gb173, _, none⟩) NB172_173.out _).trans (((cell_far (p := ⟨gb173, _, none⟩) NB172_173.out _).trans (hHeld.1)))), ((cell_far (p := ⟨gb173, _, none⟩) NB172_173.out _).trans (((cell_far (p := ⟨gb173, _, none⟩) NB172_173.out _).trans (hHeld.2))))⟩ (fun hHeld => ?_)
 clear hK K
 refine pu_ (i := 10) (N := some 5) (bs_ 11 2047) rfl rfl HT_ ?_
 refine done_ (done_of HT_.out (by kernel_rfl)) ?_
 try go_wp2
 refine bodyPost_ret (results_ct rfl _ _ gb173 29 #[.int .i64 (wrap64 (Int.tdiv a1 a0_1)), .int .i64 (Int.tmod a1 a0_1)] (0, 0) _ rfl (by (with_reducible repeat (first | refine k_n ?_ _ | refine k_d ?_ | refine k_a ?_ _)); refine blk_put (cs := #[.int .i64 (wrap64 (Int.tdiv a1 a0_1)), .int .i64 0]) ?_ 1 _ rfl; (with_reducible repeat (first | refine k_n ?_ _ | refine k_d ?_ | refine k_a ?_ _)); refine blk_put (cs := #[.int .i64 0, .int .i64 0]) ?_ 0 _ rfl; (with_reducible repeat (first | refine k_n ?_ _ | refine k_d ?_ | refine k_a ?_ _)); exact BK173.out) Try.underlying29 rfl (by kernel_rfl)) rfl ?_
 exact ⟨by first | rfl | (simp [errW_none, errW_some] <;> rfl) | (simp [*, errW_none, errW_some] <;> rfl), by repeat (first | (with_reducible first | exact HB.out | apply b_a | apply b_n | apply b_d | refine b_s ?_ GE172.out | refine b_s ?_ GE173.out) | exact HB.out)⟩
-- NOT PRINTED: function 20 (slice_Owners)

end Go.Proofs.Ytijkcjlkfjeedaa.QSliceOwns
