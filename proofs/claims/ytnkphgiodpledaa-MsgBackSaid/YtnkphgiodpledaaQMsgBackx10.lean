-- Written by a program of this session (a turned copy of the print) out of the translation. Lean checks it.
import Derived.Test.YtnkphgiodpledaaQMsgBackx0
import Derived.Test.YtnkphgiodpledaaQMsgBackx2
import Derived.Test.YtnkphgiodpledaaQMsgBackx3
namespace Go.Proofs.Ytnkphgiodpledaa.QMsgBack
open Go.RowKit Go.Proofs.YtnkphgiodpledaaW.PrintWords Go.Proofs.YtnkphgiodpledaaW.PrintLast Go.Proofs.YtnkphgiodpledaaW.PrintMore
attribute [local go_sem] max2_int min2_int max_two min_two max_three min_three max_four min_four   -- for this text's walks alone
open Go.Proofs.YtnkphgiodpledaaW.PrintWords renaming below_alloc → b_a, pw_below_drewN → b_n, below_drew1 → b_d, below_set → b_s, blk_drewN → k_n, blk_drew → k_d, blk_alloc → k_a
open List renaming setIfInBounds_toArray → l_1, set_cons_zero → l_2, set_cons_succ → l_3, map_toArray → l_4, map_cons → l_5, map_nil → l_6, length_drop → l_7, length_take → l_8
set_option linter.unusedVariables false
set_option linter.unusedSimpArgs false

/-! ### pelotonref15_Bytes: function 17 -/
mutual
def pelotonref15_Bytes.l0 : Nat → ByteArray → List Int → Int → Int → Int → Int → Int → Int → Int → Int → Int → List Int → Option (List Int)
 | 0, _, _, _, _, _, _, _, _, _, _, _, _ => none
 | k + 1, x3, x4, x5, x212000, x212001, x212002, x212003, x212004, x212005, x212006, x212007, x212008 => if x5 < (x3.size : Int) then (if 0 ≤ x5 then (if (bt x3 x5) = 43 then ((some (([(wrap64 ((x212008.length : Int) / 256)) % 256, (x212008.length : Int) % 256] : List Int) : List Int)).bind fun y216 => (if x4.length + y216.length < 140737488355328 then (pelotonref15_Bytes.l1 k x3 (x4 ++ y216) x5 0 x212000 x212001 x212002 x212003 x212004 x212005 x212006 x212007 x212008) else (none))) else ((pelotonref15_Num.f x212000 x212001 x212002 x212003 x212004 x212005 x212006 x212007 x212008 (bt x3 x5)).bind fun t229 => ((some (([(wrap64 (Int.tdiv t229 4294967296)) % 256, (wrap64 (Int.tdiv t229 16777216)) % 256, (wrap64 (Int.tdiv t229 65536)) % 256, (wrap64 (Int.tdiv t229 256)) % 256, (t229) % 256] : List Int) : List Int)).bind fun y230 => (if x4.length + y230.length < 140737488355328 then (pelotonref15_Bytes.l0 k x3 (x4 ++ y230) (wrap64 (x5 + 1)) x212000 x212001 x212002 x212003 x212004 x212005 x212006 x212007 x212008) else (none))))) else (none)) else ((pelotonref14_Pack.f k ((x212000) % 256) x4).bind fun t213 => (some t213))
def pelotonref15_Bytes.l1 : Nat → ByteArray → List Int → Int → Int → Int → Int → Int → Int → Int → Int → Int → Int → List Int → Option (List Int)
 | 0, _, _, _, _, _, _, _, _, _, _, _, _, _ => none
 | k + 1, x3, x4, x5, x6, x212000, x212001, x212002, x212003, x212004, x212005, x212006, x212007, x212008 => if x6 < (x212008.length : Int) then (if 0 ≤ x6 then ((some (([(((rd x212008 x6) % 4294967296) / 16777216) % 256, (((rd x212008 x6) % 4294967296) / 65536) % 256, (((rd x212008 x6) % 4294967296) / 256) % 256, ((rd x212008 x6) % 4294967296) % 256] : List Int) : List Int)).bind fun y223 => (if x4.length + y223.length < 140737488355328 then (pelotonref15_Bytes.l1 k x3 (x4 ++ y223) x5 (wrap64 (x6 + 1)) x212000 x212001 x212002 x212003 x212004 x212005 x212006 x212007 x212008) else (none))) else (none)) else (pelotonref15_Bytes.l0 k x3 x4 (wrap64 (x5 + 1)) x212000 x212001 x212002 x212003 x212004 x212005 x212006 x212007 x212008)
end
def pelotonref15_Bytes.f (k : Nat) (a0_0 : Int) (a0_1 : Int) (a0_2 : Int) (a0_3 : Int) (a0_4 : Int) (a0_5 : Int) (a0_6 : Int) (a0_7 : Int) (l0_8 : List Int) : Option (List Int) := (pelotonref15_Form.f k a0_0).bind fun t212 => (pelotonref15_Bytes.l0 k t212 ([] : List Int) 0 a0_0 a0_1 a0_2 a0_3 a0_4 a0_5 a0_6 a0_7 l0_8)
theorem pelotonref15_Bytes.mono_l : ∀ k, (∀ y0 y1 y2 y3 y4 y5 y6 y7 y8 y9 y10 y11, LeO (pelotonref15_Bytes.l0 k y0 y1 y2 y3 y4 y5 y6 y7 y8 y9 y10 y11) (pelotonref15_Bytes.l0 (k + 1) y0 y1 y2 y3 y4 y5 y6 y7 y8 y9 y10 y11)) ∧ (∀ y0 y1 y2 y3 y4 y5 y6 y7 y8 y9 y10 y11 y12, LeO (pelotonref15_Bytes.l1 k y0 y1 y2 y3 y4 y5 y6 y7 y8 y9 y10 y11 y12) (pelotonref15_Bytes.l1 (k + 1) y0 y1 y2 y3 y4 y5 y6 y7 y8 y9 y10 y11 y12))
 | 0 => ⟨fun _ _ _ _ _ _ _ _ _ _ _ _ r h => by simp [pelotonref15_Bytes.l0] at h, fun _ _ _ _ _ _ _ _ _ _ _ _ _ r h => by simp [pelotonref15_Bytes.l1] at h⟩
 | k + 1 => by
  obtain ⟨ih0, ih1⟩ := pelotonref15_Bytes.mono_l k
  refine ⟨?_, ?_⟩
  ·
   intro y0 y1 y2 y3 y4 y5 y6 y7 y8 y9 y10 y11
   unfold pelotonref15_Bytes.l0
   repeat' first
   | (with_reducible exact ih0 _ _ _ _ _ _ _ _ _ _ _ _)
   | (with_reducible exact ih1 _ _ _ _ _ _ _ _ _ _ _ _ _)
   | (with_reducible exact pelotonref14_Pack.mono _ _ _)
   | (with_reducible exact pelotonref15_Form.mono _ _)
   | (with_reducible exact LeO.refl _)
   | (with_reducible exact LeO.none _)
   | (with_reducible refine LeO.ite ?_ ?_)
   | (with_reducible refine LeO.bind ?_ (fun _ => ?_))
   | exact ih0 _ _ _ _ _ _ _ _ _ _ _ _
   | exact ih1 _ _ _ _ _ _ _ _ _ _ _ _ _
   | exact pelotonref14_Pack.mono _ _ _
   | exact pelotonref15_Form.mono _ _
   | exact LeO.none _
   | refine LeO.ite ?_ ?_
   | refine LeO.bind ?_ (fun _ => ?_)
  ·
   intro y0 y1 y2 y3 y4 y5 y6 y7 y8 y9 y10 y11 y12
   unfold pelotonref15_Bytes.l1
   repeat' first
   | (with_reducible exact ih0 _ _ _ _ _ _ _ _ _ _ _ _)
   | (with_reducible exact ih1 _ _ _ _ _ _ _ _ _ _ _ _ _)
   | (with_reducible exact pelotonref14_Pack.mono _ _ _)
   | (with_reducible exact pelotonref15_Form.mono _ _)
   | (with_reducible exact LeO.refl _)
   | (with_reducible exact LeO.none _)
   | (with_reducible refine LeO.ite ?_ ?_)
   | (with_reducible refine LeO.bind ?_ (fun _ => ?_))
   | exact ih0 _ _ _ _ _ _ _ _ _ _ _ _
   | exact ih1 _ _ _ _ _ _ _ _ _ _ _ _ _
   | exact pelotonref14_Pack.mono _ _ _
   | exact pelotonref15_Form.mono _ _
   | exact LeO.none _
   | refine LeO.ite ?_ ?_
   | refine LeO.bind ?_ (fun _ => ?_)
theorem pelotonref15_Bytes.mono : ∀ a0 a1 a2 a3 a4 a5 a6 a7 a8 k, LeO (pelotonref15_Bytes.f k a0 a1 a2 a3 a4 a5 a6 a7 a8) (pelotonref15_Bytes.f (k + 1) a0 a1 a2 a3 a4 a5 a6 a7 a8) := by
 intro a0 a1 a2 a3 a4 a5 a6 a7 a8 k
 obtain ⟨ih0, ih1⟩ := pelotonref15_Bytes.mono_l k
 unfold pelotonref15_Bytes.f
 repeat' first
   | (with_reducible exact ih0 _ _ _ _ _ _ _ _ _ _ _ _)
   | (with_reducible exact ih1 _ _ _ _ _ _ _ _ _ _ _ _ _)
   | (with_reducible exact pelotonref14_Pack.mono _ _ _)
   | (with_reducible exact pelotonref15_Form.mono _ _)
   | (with_reducible exact LeO.refl _)
   | (with_reducible exact LeO.none _)
   | (with_reducible refine LeO.ite ?_ ?_)
   | (with_reducible refine LeO.bind ?_ (fun _ => ?_))
   | exact ih0 _ _ _ _ _ _ _ _ _ _ _ _
   | exact ih1 _ _ _ _ _ _ _ _ _ _ _ _ _
   | exact pelotonref14_Pack.mono _ _ _
   | exact pelotonref15_Form.mono _ _
   | exact LeO.none _
   | refine LeO.ite ?_ ?_
   | refine LeO.bind ?_ (fun _ => ?_)
set_option maxHeartbeats 60000000 in
set_option maxRecDepth 100000 in
theorem pelotonref15_Bytes.calls (k : Nat) (a0_0 : Int) (a0_1 : Int) (a0_2 : Int) (a0_3 : Int) (a0_4 : Int) (a0_5 : Int) (a0_6 : Int) (a0_7 : Int) (A0_8 : Option Addr) (c0_8 : Nat) (l0_8 : List Int) (r : List Int) (w : World) (hr0_8 : Kd.C (Kd.int .i32) w A0_8 l0_8.length l0_8) (hc0_8 : l0_8.length ≤ c0_8) (h : pelotonref15_Bytes.f k a0_0 a0_1 a0_2 a0_3 a0_4 a0_5 a0_6 a0_7 l0_8 = some r) :
  Calls Try.prog 17 #[.agg #[.int .i64 a0_0, .int .i64 a0_1, .int .i64 a0_2, .int .i64 a0_3, .int .i64 a0_4, .int .i64 a0_5, .int .i64 a0_6, .int .i64 a0_7, .slice A0_8 l0_8.length c0_8]] w fun e w' => ∃ v0_ : Value, e = .returned (v0_) ∧ Kd.R (Kd.int .u8) 5 w' w.heap.size (fun _ => True) v0_ r ∧ Below w.heap.size w w' := by
 have hu24 := Try.underlying24
 have HR0_8 := Aside0.mk hr0_8
 have HC0_8 := Aside0.mk hc0_8
 clear hr0_8 hc0_8
 have HB := Aside0.mk (Below.refl w.heap.size w)
 have H : ((pelotonref15_Form.f k a0_0).bind fun t212 => (pelotonref15_Bytes.l0 k t212 ([] : List Int) 0 a0_0 a0_1 a0_2 a0_3 a0_4 a0_5 a0_6 a0_7 l0_8)) = some r := h
 clear h
 replace H := Option.bind_eq_some_iff.mp H
 obtain ⟨t212, A20, H⟩ := H
 replace H : (pelotonref15_Bytes.l0 k t212 ([] : List Int) 0 a0_0 a0_1 a0_2 a0_3 a0_4 a0_5 a0_6 a0_7 l0_8) = some r := H
 have A2 := Aside0.mk A20
 clear A20
 have H' := Aside0.mk H
 clear H
 go_enter Try.func17, Try.ntmps17
 go_wp2_with (first | ((with_reducible refine gate_dst (N := 1) rfl ?_); refine box_event ?hg (N := 1) ?hd (cs := #[.int .i64 a0_0, .int .i64 a0_1, .int .i64 a0_2, .int .i64 a0_3, .int .i64 a0_4, .int .i64 a0_5, .int .i64 a0_6, .int .i64 a0_7, .slice A0_8 l0_8.length c0_8]) (t := 24) ?hr ?_; (case hd => rfl); (case hg => rfl); (case hr => first | (go_simp; done) | (go_simp; rfl)); intro gb211 hg w3 hbox hb; have BK211 := Aside0.mk (hbox); have GW211 := Aside0.mk ((by rw [hg]; exact (below_size (bw_ HB)) : w.heap.size ≤ gb211)); have GE211 := Aside0.mk ((by rw [hg]; exact (below_size (bw_ HB)) : w.heap.size ≤ gb211)); replace HB := Aside0.mk (below_step (bw_ HB) hb); clear hb hbox hg; have hcz4_0 := bc_0 BK211; have hcz4_1 := bc_1 BK211; have hcz4_2 := bc_2 BK211; have hcz4_3 := bc_3 BK211; have hcz4_4 := bc_4 BK211; have hcz4_5 := bc_5 BK211; have hcz4_6 := bc_6 BK211; have hcz4_7 := bc_7 BK211; have hcz4_8 : w3.cell? ⟨gb211, 8, none⟩ = some (.slice A0_8 l0_8.length c0_8) := (blk_cell BK211.out 8).trans rfl; have hfz4_0 := blk_frozen BK211.out 0; have hfz4_1 := blk_frozen BK211.out 1; have hfz4_2 := blk_frozen BK211.out 2; have hfz4_3 := blk_frozen BK211.out 3; have hfz4_4 := blk_frozen BK211.out 4; have hfz4_5 := blk_frozen BK211.out 5; have hfz4_6 := blk_frozen BK211.out 6; have hfz4_7 := blk_frozen BK211.out 7; have hfz4_8 := blk_frozen BK211.out 8) | ((with_reducible refine gate_callee (f := 10) rfl ?_); refine goesL_ (some 11) rfl rfl Try.func10 (by kernel_rfl) rfl #[.int .i64 a0_0] rfl (by (try simp only [l_4, l_5, l_6]); first | done | rfl | (simp only [l_7, l_8]; rfl)) ?_; (with_reducible refine (pelotonref15_Form.calls k a0_0 t212 _ A2.out).mono ?_); rintro e w' ⟨rfl, ⟨nd, rfl⟩⟩; refine ⟨_, rfl, ?_⟩))
 go_loopg [4, 5] k (fun kq v4 v5 w' => ∃ (x4_1 : List Int) (x5_1 : Int), v5 = .int .i64 x5_1 ∧ Aside0 (pelotonref15_Bytes.l0 kq t212 x4_1 x5_1 a0_0 a0_1 a0_2 a0_3 a0_4 a0_5 a0_6 a0_7 l0_8 = some r) ∧ Aside0 (kq ≤ k) ∧ Aside0 (Kd.R (Kd.int .u8) 5 w' w.heap.size (fun _ => True) v4 x4_1) ∧ Aside0 (w'.heap[gb211]? = some (.cells #[.int .i64 a0_0, .int .i64 a0_1, .int .i64 a0_2, .int .i64 a0_3, .int .i64 a0_4, .int .i64 a0_5, .int .i64 a0_6, .int .i64 a0_7, (.slice A0_8 l0_8.length c0_8)] 24 (0, 0))) ∧ Aside0 (Below w.heap.size w w'))
 case atStart => exact ⟨(([] : List Int)), (0), (by first | rfl | (simp; done) | (simp [*]; done)), H', ⟨Nat.le_refl _⟩, ⟨by first | exact Kd.R_nil _ _ _ _ _ | exact Kd.N_nil _ _ _ _ _ | exact Kd.V_nil _ _ _ _ _ | exact Kd.Q_nil _ _ _ _ _ | exact Kd.S_nil _ _ _ _ _⟩, ⟨tk_ BK211⟩, ⟨by repeat (first | (with_reducible first | exact HB.out | apply b_a | apply b_n | apply b_d | refine b_s ?_ GE211.out) | exact HB.out)⟩⟩
 case round =>
  clear H'
  try clear c1
  try clear p2
  try clear hcz4_0
  try clear hcz4_1
  try clear hcz4_2
  try clear hcz4_3
  try clear hcz4_4
  try clear hcz4_5
  try clear hcz4_6
  try clear hcz4_7
  try clear hcz4_8
  try clear hfz4_0
  try clear hfz4_1
  try clear hfz4_2
  try clear hfz4_3
  try clear hfz4_4
  try clear hfz4_5
  try clear hfz4_6
  try clear hfz4_7
  try clear hfz4_8
  obtain ⟨x4_1, x5_1, rfl, HA, HK1, HO_4, BK211, HB⟩ := hrel
  cases gk with
  | zero => exact absurd HA.out (by simp [pelotonref15_Bytes.l0])
  | succ k1 =>
   have H := HA.out
   clear HA
   simp only [pelotonref15_Bytes.l0] at H
   by_cases c5 : x5_1 < (t212.size : Int)
   rotate_left
   ·
    rw [if_neg c5] at H
    have c5b0 : decide (x5_1 < (t212.size : Int)) = false := decide_eq_false c5
    clear c5
    replace H := Option.bind_eq_some_iff.mp H
    obtain ⟨t213, A330, H⟩ := H
    replace H : (some t213) = some r := H
    have A33 := Aside0.mk A330
    clear A330
    obtain rfl := Option.some.inj H
    have hcz34_0 := bc_0 BK211
    have hcz34_1 := bc_1 BK211
    have hcz34_2 := bc_2 BK211
    have hcz34_3 := bc_3 BK211
    have hcz34_4 := bc_4 BK211
    have hcz34_5 := bc_5 BK211
    have hcz34_6 := bc_6 BK211
    have hcz34_7 := bc_7 BK211
    have hcz34_8 : wr.cell? ⟨gb211, 8, none⟩ = some (.slice A0_8 l0_8.length c0_8) := (blk_cell BK211.out 8).trans rfl
    have hfz34_0 := blk_frozen BK211.out 0
    have hfz34_1 := blk_frozen BK211.out 1
    have hfz34_2 := blk_frozen BK211.out 2
    have hfz34_3 := blk_frozen BK211.out 3
    have hfz34_4 := blk_frozen BK211.out 4
    have hfz34_5 := blk_frozen BK211.out 5
    have hfz34_6 := blk_frozen BK211.out 6
    have hfz34_7 := blk_frozen BK211.out 7
    have hfz34_8 := blk_frozen BK211.out 8
    obtain ⟨Ao35, co35, eo35⟩ := Kd.R_slice HO_4.out
    subst eo35
    go_wp2_with (first | ((with_reducible refine gate_callee (f := 18) rfl ?_); refine goesL_ (some 88) rfl rfl Try.func18 (by kernel_rfl) rfl #[.int .u8 ((a0_0) % 256), .slice Ao35 x4_1.length co35] rfl (by (try simp only [l_4, l_5, l_6]); first | done | rfl | (simp only [l_7, l_8]; rfl)) ?_; (with_reducible refine (pelotonref14_Pack.calls k1 ((a0_0) % 256) _ _ x4_1 t213 _ ?side1 ?side2 A33.out).mono ?_); (case side1 => repeat (first | exact (Kd.R_reads' HO_4.out).2.2 | (with_reducible refine Kd.C_alloc ?_ _) | (with_reducible refine Kd.C_drewN ?_ _) | (with_reducible refine Kd.C_drew ?_))); (case side2 => exact (Kd.R_reads' HO_4.out).2.1); rintro e w36 ⟨v214, rfl, ho0, hb⟩; (try clear A33); refine ⟨_, rfl, ?_⟩; have HO215 := Aside0.mk (Kd.R_lower (Kd.R_new' ho0 (Kd.R_lt (tR_ HO_4))) (below_size (bw_ HB))); replace HO_4 := Aside0.mk (Kd.R_elder' (tR_ HO_4) (Kd.R_base ho0) hb); replace BK211 := Aside0.mk (blk_below (tk_ BK211) hb); replace HB := Aside0.mk (below_step (bw_ HB) hb); (try clear hb); (try clear hb2); (try clear hk); (try clear hi); (try clear ho0)))
    go_ret
    exact ⟨_, by first | rfl | (simp [errW_none, errW_some] <;> rfl) | (simp [*, errW_none, errW_some] <;> rfl), by (with_reducible repeat (first | apply Kd.R_alloc | apply Kd.R_drewN | apply Kd.R_drew)); exact Kd.R_mono HO215.out (fun _ hk => trivial), by repeat (first | (with_reducible first | exact HB.out | apply b_a | apply b_n | apply b_d | refine b_s ?_ GE211.out) | exact HB.out)⟩

   rw [if_pos c5] at H
   have c5b0 : decide (x5_1 < (t212.size : Int)) = true := decide_eq_true c5
   clear c5
   by_cases c6 : 0 ≤ x5_1
   rotate_left
   ·
    rw [if_neg c6] at H
    exact absurd H (by simp)
   rw [if_pos c6] at H
   have c6b0 : decide (0 ≤ x5_1) = true := decide_eq_true c6
   clear c6
   by_cases c8 : (bt t212 x5_1) = 43
   rotate_left
   ·
    rw [if_neg c8] at H
    have c8b0 : ((bt t212 x5_1) == 43) = false := beq_eq_false_iff_ne.mpr c8
    have c8b1 : ((bt t212 x5_1) != 43) = true := bne_iff_ne.mpr c8
    replace H := Option.bind_eq_some_iff.mp H
    obtain ⟨t229, A250, H⟩ := H
    replace H : ((some (([(wrap64 (Int.tdiv t229 4294967296)) % 256, (wrap64 (Int.tdiv t229 16777216)) % 256, (wrap64 (Int.tdiv t229 65536)) % 256, (wrap64 (Int.tdiv t229 256)) % 256, (t229) % 256] : List Int) : List Int)).bind fun y230 => (if x4_1.length + y230.length < 140737488355328 then (pelotonref15_Bytes.l0 k1 t212 (x4_1 ++ y230) (wrap64 (x5_1 + 1)) a0_0 a0_1 a0_2 a0_3 a0_4 a0_5 a0_6 a0_7 l0_8) else (none))) = some r := H
    have A25 := Aside0.mk A250
    clear A250
    obtain ⟨y230, hy230⟩ : ∃ y_ : List Int, y_ = (([(wrap64 (Int.tdiv t229 4294967296)) % 256, (wrap64 (Int.tdiv t229 16777216)) % 256, (wrap64 (Int.tdiv t229 65536)) % 256, (wrap64 (Int.tdiv t229 256)) % 256, (t229) % 256] : List Int)) := ⟨_, rfl⟩
    replace H : (if x4_1.length + y230.length < 140737488355328 then (pelotonref15_Bytes.l0 k1 t212 (x4_1 ++ y230) (wrap64 (x5_1 + 1)) a0_0 a0_1 a0_2 a0_3 a0_4 a0_5 a0_6 a0_7 l0_8) else (none)) = some r := by first | (rw [hy230]; with_reducible exact H) | (have H2_ := (Option.bind_some _ _).symm.trans H; rw [hy230]; with_reducible exact H2_) | (have H2_ := (Option.bind_some _ _).symm.trans H; with_reducible exact H2_) | with_reducible exact H | (rw [hy230]; exact H) | exact H
    have Ny230 := Aside0.mk hy230
    clear hy230
    by_cases c26 : x4_1.length + y230.length < 140737488355328
    rotate_left
    ·
     rw [if_neg c26] at H
     exact absurd H (by simp)
    rw [if_pos c26] at H
    have LMc26 := Aside0.mk c26
    clear c26
    obtain ⟨y233, hy233⟩ : ∃ y_ : List Int, y_ = (x4_1 ++ y230) := ⟨_, rfl⟩
    replace H : (pelotonref15_Bytes.l0 k1 t212 y233 (wrap64 (x5_1 + 1)) a0_0 a0_1 a0_2 a0_3 a0_4 a0_5 a0_6 a0_7 l0_8) = some r := by first | (rw [hy233]; with_reducible exact H) | (have H2_ := (Option.bind_some _ _).symm.trans H; rw [hy233]; with_reducible exact H2_) | (have H2_ := (Option.bind_some _ _).symm.trans H; with_reducible exact H2_) | with_reducible exact H | (rw [hy233]; exact H) | exact H
    have Ny233 := Aside0.mk hy233
    clear hy233
    have H' := Aside0.mk H
    clear H
    have p7 : 0 ≤ (x5_1 : Int) := of_decide_eq_true (by first | (with_reducible assumption) | assumption)
    have q7 : x5_1 < (t212.size : Int) := of_decide_eq_true (by first | (with_reducible assumption) | assumption)
    have hx7 := bt_at t212 x5_1
    replace p7 := eq_true p7
    replace q7 := eq_true q7
    try go_wp2
    replace HO_4 := Aside0.mk (Kd.R_drew HO_4.out)
    replace BK211 := Aside0.mk (k_d BK211.out)
    replace HB := Aside0.mk (b_d HB.out)
    have p24 : 0 ≤ (x5_1 : Int) := of_decide_eq_true (by first | (with_reducible assumption) | assumption)
    have q24 : x5_1 < (t212.size : Int) := of_decide_eq_true (by first | (with_reducible assumption) | assumption)
    have hx24 := bt_at t212 x5_1
    replace p24 := eq_true p24
    replace q24 := eq_true q24
    refine start_ (n := 6) (S := fun w' => w'.cell? ⟨gb211, 0, none⟩ = some (.int .i64 a0_0) ∧ w'.cell? ⟨gb211, 1, none⟩ = some (.int .i64 a0_1) ∧ w'.cell? ⟨gb211, 2, none⟩ = some (.int .i64 a0_2) ∧ w'.cell? ⟨gb211, 3, none⟩ = some (.int .i64 a0_3) ∧ w'.cell? ⟨gb211, 4, none⟩ = some (.int .i64 a0_4) ∧ w'.cell? ⟨gb211, 5, none⟩ = some (.int .i64 a0_5) ∧ w'.cell? ⟨gb211, 6, none⟩ = some (.int .i64 a0_6) ∧ w'.cell? ⟨gb211, 7, none⟩ = some (.int .i64 a0_7) ∧ w'.cell? ⟨gb211, 8, none⟩ = some (.slice A0_8 l0_8.length c0_8)) (ds := []) #[false, false, false, false, false, false] (by kernel_rfl) rfl rfl ⟨(blk_cell BK211.out 0).trans rfl, (blk_cell BK211.out 1).trans rfl, (blk_cell BK211.out 2).trans rfl, (blk_cell BK211.out 3).trans rfl, (blk_cell BK211.out 4).trans rfl, (blk_cell BK211.out 5).trans rfl, (blk_cell BK211.out 6).trans rfl, (blk_cell BK211.out 7).trans rfl, (blk_cell BK211.out 8).trans rfl⟩ (fun hHeld => ?_)
    generalize wr.drew = w27 at HO_4 BK211 HB hHeld ⊢
    refine pure_ (i := 1) (N := some 63) (v := ?_) (a' := ?_) (bs_ 6 2) rfl rfl (by kernel_rfl) (fun _ _ _ h => h) (Or.inl ⟨by rfl, ?_⟩) ?_ ?_
    rotate_left
    ·
     intro w'
     go_simp
     with_reducible rfl
    rotate_left
    ·
     simp only [Act.put, l_1, l_2, l_3, i64_w, i32_w]
     rfl
    refine pure_ (i := 2) (N := some 64) (v := ?_) (a' := ?_) (bs_ 6 6) rfl rfl (by kernel_rfl) (fun _ _ _ h => h) (Or.inl ⟨by rfl, ?_⟩) ?_ ?_
    rotate_left
    ·
     intro w'
     go_simp
     with_reducible rfl
    rotate_left
    ·
     simp only [Act.put, l_1, l_2, l_3, i64_w, i32_w]
     rfl
    refine take_ (i := 0) (N := some 62) (v := ?_) (a' := ?_) (bs_ 6 7) rfl rfl (by kernel_rfl) (fun _ _ _ h => h) (Or.inl ⟨by rfl, ?_⟩) hHeld ?_ ?_
    rotate_left
    ·
     rintro w' ⟨s0, s1, s2, s3, s4, s5, s6, s7, s8⟩
     go_simp
     with_reducible rfl
    rotate_left
    ·
     simp only [Act.put, l_1, l_2, l_3, i64_w, i32_w]
     rfl
    refine take_ (i := 3) (N := some 65) (v := ?_) (a' := ?_) (bs_ 6 15) rfl rfl (by kernel_rfl) (fun _ _ _ h => h) (Or.inl ⟨by rfl, ?_⟩) hHeld ?_ ?_
    rotate_left
    ·
     rintro w' ⟨s0, s1, s2, s3, s4, s5, s6, s7, s8⟩
     go_simp
     with_reducible rfl
    rotate_left
    ·
     simp only [Act.put, l_1, l_2, l_3, i64_w, i32_w]
     rfl
    refine one_ (i := 4) (N := some 66) (bs_ 6 31) rfl rfl (by kernel_rfl) (by decide) (fun K hK => ?_)
    refine goes_ Try.func20 (by kernel_rfl) rfl #[.agg #[.int .i64 a0_0, .int .i64 a0_1, .int .i64 a0_2, .int .i64 a0_3, .int .i64 a0_4, .int .i64 a0_5, .int .i64 a0_6, .int .i64 a0_7, .slice A0_8 l0_8.length c0_8], .int .u8 (bt t212 x5_1)] (by rfl) rfl rfl (by (try simp only [l_4, l_5, l_6]); first | done | rfl | (simp only [l_7, l_8]; rfl)) ?_
    with_reducible refine (pelotonref15_Num.calls a0_0 a0_1 a0_2 a0_3 a0_4 a0_5 a0_6 a0_7 _ _ l0_8 (bt t212 x5_1) t229 _ ?side1 ?side2 A25.out).mono ?_
    (case side1 => repeat (first | exact (Kd.C_below HR0_8.out HB.out) | (with_reducible refine Kd.C_alloc ?_ _) | (with_reducible refine Kd.C_drewN ?_ _) | (with_reducible refine Kd.C_drew ?_)))
    (case side2 => exact HC0_8.out)
    rintro e w28 ⟨rfl, hb⟩
    refine ⟨_, rfl, ?_⟩
    replace HO_4 := Aside0.mk (Kd.R_below (tR_ HO_4) hb)
    replace BK211 := Aside0.mk (blk_below (tk_ BK211) hb)
    replace HB := Aside0.mk (below_step (bw_ HB) hb)
    (try clear hb)
    (try clear hb2)
    (try clear hk)
    (try clear hi)
    refine hK.out _ _ ⟨(blk_cell BK211.out 0).trans rfl, (blk_cell BK211.out 1).trans rfl, (blk_cell BK211.out 2).trans rfl, (blk_cell BK211.out 3).trans rfl, (blk_cell BK211.out 4).trans rfl, (blk_cell BK211.out 5).trans rfl, (blk_cell BK211.out 6).trans rfl, (blk_cell BK211.out 7).trans rfl, (blk_cell BK211.out 8).trans rfl⟩ (fun hHeld => ?_)
    clear hK K
    refine no_ (N := some 66) ?_
    refine pure_ (i := 5) (N := some 8) (v := ?_) (a' := ?_) (bs_ 6 63) rfl rfl (by kernel_rfl) (fun _ _ _ h => h) (Or.inl ⟨by rfl, ?_⟩) ?_ ?_
    rotate_left
    ·
     intro w'
     go_simp
     with_reducible rfl
    rotate_left
    ·
     simp only [Act.put, l_1, l_2, l_3, i64_w, i32_w]
     rfl
    refine done_ (by kernel_rfl) ?_
    try go_wp2_with (first | ((with_reducible refine gate_dst (N := 82) rfl ?_); refine Kd.R_lit (Kd.int .u8) _ 5 ?hg (N := 82) ?hd (xs := ([(wrap64 (Int.tdiv t229 4294967296)) % 256, (wrap64 (Int.tdiv t229 16777216)) % 256, (wrap64 (Int.tdiv t229 65536)) % 256, (wrap64 (Int.tdiv t229 256)) % 256, (t229) % 256] : List Int)) (inner := [.int .u8 ((wrap64 (Int.tdiv t229 4294967296)) % 256), .int .u8 ((wrap64 (Int.tdiv t229 16777216)) % 256), .int .u8 ((wrap64 (Int.tdiv t229 65536)) % 256), .int .u8 ((wrap64 (Int.tdiv t229 256)) % 256), .int .u8 ((t229) % 256)]) (ok := fun _ => True) (okp := fun _ => True) ?hr ?hp (fun _ hk => hk) trivial (Below.refl _ _) (Nat.le_refl _) (by simp) ?_; (case hd => rfl); (case hg => rfl); (case hr => first | (go_simp; done) | (go_simp; rfl)); (case hp => exact (Reps.one (show Kd.M (Kd.int .u8) _ _ _ ((wrap64 (Int.tdiv t229 4294967296)) % 256) [.int .u8 ((wrap64 (Int.tdiv t229 4294967296)) % 256)] from rfl) (Reps.one (show Kd.M (Kd.int .u8) _ _ _ ((wrap64 (Int.tdiv t229 16777216)) % 256) [.int .u8 ((wrap64 (Int.tdiv t229 16777216)) % 256)] from rfl) (Reps.one (show Kd.M (Kd.int .u8) _ _ _ ((wrap64 (Int.tdiv t229 65536)) % 256) [.int .u8 ((wrap64 (Int.tdiv t229 65536)) % 256)] from rfl) (Reps.one (show Kd.M (Kd.int .u8) _ _ _ ((wrap64 (Int.tdiv t229 256)) % 256) [.int .u8 ((wrap64 (Int.tdiv t229 256)) % 256)] from rfl) (Reps.one (show Kd.M (Kd.int .u8) _ _ _ ((t229) % 256) [.int .u8 ((t229) % 256)] from rfl) (Reps.none _ _))))))); intro v231 w29 ho30 hb hg_ hnew_; clear hg_ hnew_; (first | rw [← Ny230.out] at ho30 | (simp only [Int.reduceToNat] at ho30; rw [← Ny230.out] at ho30)); have HO232 := Aside0.mk (Kd.R_lower (Kd.R_new' ho30 (Kd.R_lt (tR_ HO_4))) (below_size (bw_ HB))); replace HO_4 := Aside0.mk (Kd.R_elder' (tR_ HO_4) (Kd.R_base ho30) hb); replace BK211 := Aside0.mk (blk_below (tk_ BK211) hb); replace HB := Aside0.mk (below_step (bw_ HB) hb); clear hb ho30; obtain ⟨Ao32, co32, eo32⟩ := Kd.R_slice HO232.out; subst eo32) | ((with_reducible refine gate_builtin (b := .append) (xs := #[.tmp 67, .tmp 82]) rfl ?_); at_builtin; refine Kd.R_append_rows (Kd.int .u8) (w0 := w) w.heap.size rfl (.tmp 67) (.tmp 82) 29 5 (.int .u8 0) 1 rfl Try.underlying29 info5 rfl (by decide) (by omega) u4 x4_1 y230 _ _ _ (fun k_ => some k_ ≠ (.slice Ao32 y230.length co32 : Value).ownBlock) (fun _ => False) rfl rfl ?aO ?aR (fun _ _ h => h) (fun _ h => h.elim) ?aF ?aB ?aS ?aL ?_; (case aR => repeat (first | exact (Kd.R_reads' HO232.out).2.2 | (with_reducible refine Kd.C_alloc ?_ _) | (with_reducible refine Kd.C_drewN ?_ _) | (with_reducible refine Kd.C_drew ?_))); (case aB => exact (bw_ HB)); (case aF => exact (fun k_ hk => Kd.fresh' (Kd.R_lt (tR_ HO232)) k_ hk)); (case aO => exact (by (with_reducible repeat (first | apply Kd.R_alloc | apply Kd.R_drewN | apply Kd.R_drew)); exact Kd.R_mono HO_4.out (fun _ hk => hk.2))); (case aS => exact (below_size (bw_ HB))); (case aL => have := LMc26.out; omega); intro v234 w31 ho hb hg hat; rw [← Ny233.out] at ho; have n0_ := Aside0.mk (blk_grown (tk_ BK211) hg (Kd.R_ne HO_4.out BK211.out (by decide))); have n1_ := Aside0.mk (Kd.R_after (ok := (fun _ => True)) (tR_ HO232) hg hat); have n2_ := Aside0.mk (hb); have n3_ := Aside0.mk (ho); clear BK211; clear HO232; clear HB; clear HO_4; have BK211 := n0_; have HO232 := n1_; have HB := n2_; have HO235 := n3_; clear n0_ n1_ n2_ n3_; clear ho hb hg hat))
    go_roundg k1
    case measure => have := HK1.out; omega
    case rel => exact ⟨(y233), (wrap64 (x5_1 + 1)), (by first | rfl | (simp; done) | (simp [*]; done)), H', ⟨by have := HK1.out; omega⟩, ⟨by (with_reducible repeat (first | apply Kd.R_alloc | apply Kd.R_drewN | apply Kd.R_drew)); exact Kd.R_mono HO235.out (fun _ hk => trivial)⟩, ⟨tk_ BK211⟩, ⟨by repeat (first | (with_reducible first | exact HB.out | apply b_a | apply b_n | apply b_d | refine b_s ?_ GE211.out) | exact HB.out)⟩⟩
   rw [if_pos c8] at H
   have c8b0 : ((bt t212 x5_1) == 43) = true := beq_iff_eq.mpr c8
   have c8b1 : ((bt t212 x5_1) != 43) = false := bne_eq_false_iff_eq.mpr c8
   clear c8
   obtain ⟨y216, hy216⟩ : ∃ y_ : List Int, y_ = (([(wrap64 ((l0_8.length : Int) / 256)) % 256, (l0_8.length : Int) % 256] : List Int)) := ⟨_, rfl⟩
   replace H : (if x4_1.length + y216.length < 140737488355328 then (pelotonref15_Bytes.l1 k1 t212 (x4_1 ++ y216) x5_1 0 a0_0 a0_1 a0_2 a0_3 a0_4 a0_5 a0_6 a0_7 l0_8) else (none)) = some r := by first | (rw [hy216]; with_reducible exact H) | (have H2_ := (Option.bind_some _ _).symm.trans H; rw [hy216]; with_reducible exact H2_) | (have H2_ := (Option.bind_some _ _).symm.trans H; with_reducible exact H2_) | with_reducible exact H | (rw [hy216]; exact H) | exact H
   have Ny216 := Aside0.mk hy216
   clear hy216
   by_cases c9 : x4_1.length + y216.length < 140737488355328
   rotate_left
   ·
    rw [if_neg c9] at H
    exact absurd H (by simp)
   rw [if_pos c9] at H
   have LMc9 := Aside0.mk c9
   clear c9
   obtain ⟨y219, hy219⟩ : ∃ y_ : List Int, y_ = (x4_1 ++ y216) := ⟨_, rfl⟩
   replace H : (pelotonref15_Bytes.l1 k1 t212 y219 x5_1 0 a0_0 a0_1 a0_2 a0_3 a0_4 a0_5 a0_6 a0_7 l0_8) = some r := by first | (rw [hy219]; with_reducible exact H) | (have H2_ := (Option.bind_some _ _).symm.trans H; rw [hy219]; with_reducible exact H2_) | (have H2_ := (Option.bind_some _ _).symm.trans H; with_reducible exact H2_) | with_reducible exact H | (rw [hy219]; exact H) | exact H
   have Ny219 := Aside0.mk hy219
   clear hy219
   have H' := Aside0.mk H
   clear H
   have p7 : 0 ≤ (x5_1 : Int) := of_decide_eq_true (by first | (with_reducible assumption) | assumption)
   have q7 : x5_1 < (t212.size : Int) := of_decide_eq_true (by first | (with_reducible assumption) | assumption)
   have hx7 := bt_at t212 x5_1
   replace p7 := eq_true p7
   replace q7 := eq_true q7
   have hcz10_0 := bc_0 BK211
   have hcz10_1 := bc_1 BK211
   have hcz10_2 := bc_2 BK211
   have hcz10_3 := bc_3 BK211
   have hcz10_4 := bc_4 BK211
   have hcz10_5 := bc_5 BK211
   have hcz10_6 := bc_6 BK211
   have hcz10_7 := bc_7 BK211
   have hcz10_8 : wr.cell? ⟨gb211, 8, none⟩ = some (.slice A0_8 l0_8.length c0_8) := (blk_cell BK211.out 8).trans rfl
   have hfz10_0 := blk_frozen BK211.out 0
   have hfz10_1 := blk_frozen BK211.out 1
   have hfz10_2 := blk_frozen BK211.out 2
   have hfz10_3 := blk_frozen BK211.out 3
   have hfz10_4 := blk_frozen BK211.out 4
   have hfz10_5 := blk_frozen BK211.out 5
   have hfz10_6 := blk_frozen BK211.out 6
   have hfz10_7 := blk_frozen BK211.out 7
   have hfz10_8 := blk_frozen BK211.out 8
   go_wp2_with (first | ((with_reducible refine gate_dst (N := 33) rfl ?_); refine Kd.R_lit (Kd.int .u8) _ 5 ?hg (N := 33) ?hd (xs := ([(wrap64 ((l0_8.length : Int) / 256)) % 256, (l0_8.length : Int) % 256] : List Int)) (inner := [.int .u8 ((wrap64 ((l0_8.length : Int) / 256)) % 256), .int .u8 ((l0_8.length : Int) % 256)]) (ok := fun _ => True) (okp := fun _ => True) ?hr ?hp (fun _ hk => hk) trivial (Below.refl _ _) (Nat.le_refl _) (by simp) ?_; (case hd => rfl); (case hg => rfl); (case hr => first | (go_simp; done) | (go_simp; rfl)); (case hp => exact (Reps.one (show Kd.M (Kd.int .u8) _ _ _ ((wrap64 ((l0_8.length : Int) / 256)) % 256) [.int .u8 ((wrap64 ((l0_8.length : Int) / 256)) % 256)] from rfl) (Reps.one (show Kd.M (Kd.int .u8) _ _ _ ((l0_8.length : Int) % 256) [.int .u8 ((l0_8.length : Int) % 256)] from rfl) (Reps.none _ _)))); intro v217 w11 ho12 hb hg_ hnew_; clear hg_ hnew_; (first | rw [← Ny216.out] at ho12 | (simp only [Int.reduceToNat] at ho12; rw [← Ny216.out] at ho12)); have HO218 := Aside0.mk (Kd.R_lower (Kd.R_new' ho12 (Kd.R_lt (tR_ HO_4))) (below_size (bw_ HB))); replace HO_4 := Aside0.mk (Kd.R_elder' (tR_ HO_4) (Kd.R_base ho12) hb); replace BK211 := Aside0.mk (blk_below (tk_ BK211) hb); replace HB := Aside0.mk (below_step (bw_ HB) hb); clear hb ho12; obtain ⟨Ao14, co14, eo14⟩ := Kd.R_slice HO218.out; subst eo14) | ((with_reducible refine gate_builtin (b := .append) (xs := #[.tmp 22, .tmp 33]) rfl ?_); at_builtin; refine Kd.R_append_rows (Kd.int .u8) (w0 := w) w.heap.size rfl (.tmp 22) (.tmp 33) 29 5 (.int .u8 0) 1 rfl Try.underlying29 info5 rfl (by decide) (by omega) u4 x4_1 y216 _ _ _ (fun k_ => some k_ ≠ (.slice Ao14 y216.length co14 : Value).ownBlock) (fun _ => False) rfl rfl ?aO ?aR (fun _ _ h => h) (fun _ h => h.elim) ?aF ?aB ?aS ?aL ?_; (case aR => repeat (first | exact (Kd.R_reads' HO218.out).2.2 | (with_reducible refine Kd.C_alloc ?_ _) | (with_reducible refine Kd.C_drewN ?_ _) | (with_reducible refine Kd.C_drew ?_))); (case aB => exact (bw_ HB)); (case aF => exact (fun k_ hk => Kd.fresh' (Kd.R_lt (tR_ HO218)) k_ hk)); (case aO => exact (by (with_reducible repeat (first | apply Kd.R_alloc | apply Kd.R_drewN | apply Kd.R_drew)); exact Kd.R_mono HO_4.out (fun _ hk => hk.2))); (case aS => exact (below_size (bw_ HB))); (case aL => have := LMc9.out; omega); intro v220 w13 ho hb hg hat; rw [← Ny219.out] at ho; have n0_ := Aside0.mk (blk_grown (tk_ BK211) hg (Kd.R_ne HO_4.out BK211.out (by decide))); have n1_ := Aside0.mk (Kd.R_after (ok := (fun _ => True)) (tR_ HO218) hg hat); have n2_ := Aside0.mk (hb); have n3_ := Aside0.mk (ho); clear BK211; clear HO218; clear HB; clear HO_4; have BK211 := n0_; have HO218 := n1_; have HB := n2_; have HO221 := n3_; clear n0_ n1_ n2_ n3_; clear ho hb hg hat))
   go_loopg [4, 6] k1 (fun kq v4 v6 w' => ∃ (x4_2 : List Int) (x6_2 : Int), v6 = .int .i64 x6_2 ∧ Aside0 (pelotonref15_Bytes.l1 kq t212 x4_2 x5_1 x6_2 a0_0 a0_1 a0_2 a0_3 a0_4 a0_5 a0_6 a0_7 l0_8 = some r) ∧ Aside0 (kq ≤ k1) ∧ Aside0 (Kd.R (Kd.int .u8) 5 w' w.heap.size (fun _ => True) v4 x4_2) ∧ Aside0 (w'.heap[gb211]? = some (.cells #[.int .i64 a0_0, .int .i64 a0_1, .int .i64 a0_2, .int .i64 a0_3, .int .i64 a0_4, .int .i64 a0_5, .int .i64 a0_6, .int .i64 a0_7, (.slice A0_8 l0_8.length c0_8)] 24 (0, 0))) ∧ Aside0 (Below w.heap.size w w'))
   case atStart => exact ⟨(y219), (0), (by first | rfl | (simp; done) | (simp [*]; done)), H', ⟨Nat.le_refl _⟩, ⟨by (with_reducible repeat (first | apply Kd.R_alloc | apply Kd.R_drewN | apply Kd.R_drew)); exact Kd.R_mono HO221.out (fun _ hk => trivial)⟩, ⟨tk_ BK211⟩, ⟨by repeat (first | (with_reducible first | exact HB.out | apply b_a | apply b_n | apply b_d | refine b_s ?_ GE211.out) | exact HB.out)⟩⟩
   case round =>
    clear H'
    try clear c1
    try clear p2
    try clear c5
    try clear c5b0
    try clear c6
    try clear c6b0
    try clear p6
    try clear p7
    try clear q7
    try clear hx7
    try clear c8
    try clear c8b0
    try clear c8b1
    try clear c9
    try clear c10
    try clear hcz10_0
    try clear hcz10_1
    try clear hcz10_2
    try clear hcz10_3
    try clear hcz10_4
    try clear hcz10_5
    try clear hcz10_6
    try clear hcz10_7
    try clear hcz10_8
    try clear hcz4_0
    try clear hcz4_1
    try clear hcz4_2
    try clear hcz4_3
    try clear hcz4_4
    try clear hcz4_5
    try clear hcz4_6
    try clear hcz4_7
    try clear hcz4_8
    try clear hfz10_0
    try clear hfz10_1
    try clear hfz10_2
    try clear hfz10_3
    try clear hfz10_4
    try clear hfz10_5
    try clear hfz10_6
    try clear hfz10_7
    try clear hfz10_8
    try clear hfz4_0
    try clear hfz4_1
    try clear hfz4_2
    try clear hfz4_3
    try clear hfz4_4
    try clear hfz4_5
    try clear hfz4_6
    try clear hfz4_7
    try clear hfz4_8
    try clear p2
    try clear p7
    try clear q7
    obtain ⟨x4_2, x6_2, rfl, HA, HK2, HO_4, BK211, HB⟩ := hrel
    cases gk with
    | zero => exact absurd HA.out (by simp [pelotonref15_Bytes.l1])
    | succ k2 =>
     have H := HA.out
     clear HA
     simp only [pelotonref15_Bytes.l1] at H
     by_cases c15 : x6_2 < (l0_8.length : Int)
     rotate_left
     ·
      rw [if_neg c15] at H
      have c15b0 : decide (x6_2 < (l0_8.length : Int)) = false := decide_eq_false c15
      clear c15
      have H' := Aside0.mk H
      clear H
      have hcz23_0 := bc_0 BK211
      have hcz23_1 := bc_1 BK211
      have hcz23_2 := bc_2 BK211
      have hcz23_3 := bc_3 BK211
      have hcz23_4 := bc_4 BK211
      have hcz23_5 := bc_5 BK211
      have hcz23_6 := bc_6 BK211
      have hcz23_7 := bc_7 BK211
      have hcz23_8 : wr.cell? ⟨gb211, 8, none⟩ = some (.slice A0_8 l0_8.length c0_8) := (blk_cell BK211.out 8).trans rfl
      have hfz23_0 := blk_frozen BK211.out 0
      have hfz23_1 := blk_frozen BK211.out 1
      have hfz23_2 := blk_frozen BK211.out 2
      have hfz23_3 := blk_frozen BK211.out 3
      have hfz23_4 := blk_frozen BK211.out 4
      have hfz23_5 := blk_frozen BK211.out 5
      have hfz23_6 := blk_frozen BK211.out 6
      have hfz23_7 := blk_frozen BK211.out 7
      have hfz23_8 := blk_frozen BK211.out 8
      go_wp2
      go_roundg k2
      case measure => have := HK1.out; have := HK2.out; omega
      case rel => exact ⟨(x4_2), (wrap64 (x5_1 + 1)), (by first | rfl | (simp; done) | (simp [*]; done)), H', ⟨by have := HK1.out; have := HK2.out; omega⟩, ⟨tR_ HO_4⟩, ⟨tk_ BK211⟩, ⟨by repeat (first | (with_reducible first | exact HB.out | apply b_a | apply b_n | apply b_d | refine b_s ?_ GE211.out) | exact HB.out)⟩⟩
     rw [if_pos c15] at H
     have c15b0 : decide (x6_2 < (l0_8.length : Int)) = true := decide_eq_true c15
     clear c15
     by_cases c16 : 0 ≤ x6_2
     rotate_left
     ·
      rw [if_neg c16] at H
      exact absurd H (by simp)
     rw [if_pos c16] at H
     have c16b0 : decide (0 ≤ x6_2) = true := decide_eq_true c16
     clear c16
     obtain ⟨y223, hy223⟩ : ∃ y_ : List Int, y_ = (([(((rd l0_8 x6_2) % 4294967296) / 16777216) % 256, (((rd l0_8 x6_2) % 4294967296) / 65536) % 256, (((rd l0_8 x6_2) % 4294967296) / 256) % 256, ((rd l0_8 x6_2) % 4294967296) % 256] : List Int)) := ⟨_, rfl⟩
     replace H : (if x4_2.length + y223.length < 140737488355328 then (pelotonref15_Bytes.l1 k2 t212 (x4_2 ++ y223) x5_1 (wrap64 (x6_2 + 1)) a0_0 a0_1 a0_2 a0_3 a0_4 a0_5 a0_6 a0_7 l0_8) else (none)) = some r := by first | (rw [hy223]; with_reducible exact H) | (have H2_ := (Option.bind_some _ _).symm.trans H; rw [hy223]; with_reducible exact H2_) | (have H2_ := (Option.bind_some _ _).symm.trans H; with_reducible exact H2_) | with_reducible exact H | (rw [hy223]; exact H) | exact H
     have Ny223 := Aside0.mk hy223
     clear hy223
     by_cases c17 : x4_2.length + y223.length < 140737488355328
     rotate_left
     ·
      rw [if_neg c17] at H
      exact absurd H (by simp)
     rw [if_pos c17] at H
     have LMc17 := Aside0.mk c17
     clear c17
     obtain ⟨y226, hy226⟩ : ∃ y_ : List Int, y_ = (x4_2 ++ y223) := ⟨_, rfl⟩
     replace H : (pelotonref15_Bytes.l1 k2 t212 y226 x5_1 (wrap64 (x6_2 + 1)) a0_0 a0_1 a0_2 a0_3 a0_4 a0_5 a0_6 a0_7 l0_8) = some r := by first | (rw [hy226]; with_reducible exact H) | (have H2_ := (Option.bind_some _ _).symm.trans H; rw [hy226]; with_reducible exact H2_) | (have H2_ := (Option.bind_some _ _).symm.trans H; with_reducible exact H2_) | with_reducible exact H | (rw [hy226]; exact H) | exact H
     have Ny226 := Aside0.mk hy226
     clear hy226
     have H' := Aside0.mk H
     clear H
     have hcz18_0 := bc_0 BK211
     have hcz18_1 := bc_1 BK211
     have hcz18_2 := bc_2 BK211
     have hcz18_3 := bc_3 BK211
     have hcz18_4 := bc_4 BK211
     have hcz18_5 := bc_5 BK211
     have hcz18_6 := bc_6 BK211
     have hcz18_7 := bc_7 BK211
     have hcz18_8 : wr.cell? ⟨gb211, 8, none⟩ = some (.slice A0_8 l0_8.length c0_8) := (blk_cell BK211.out 8).trans rfl
     have hfz18_0 := blk_frozen BK211.out 0
     have hfz18_1 := blk_frozen BK211.out 1
     have hfz18_2 := blk_frozen BK211.out 2
     have hfz18_3 := blk_frozen BK211.out 3
     have hfz18_4 := blk_frozen BK211.out 4
     have hfz18_5 := blk_frozen BK211.out 5
     have hfz18_6 := blk_frozen BK211.out 6
     have hfz18_7 := blk_frozen BK211.out 7
     have hfz18_8 := blk_frozen BK211.out 8
     have p222 : 0 ≤ (x6_2 : Int) := of_decide_eq_true (by first | (with_reducible assumption) | assumption)
     have q222 : x6_2 < (l0_8.length : Int) := of_decide_eq_true (by first | (with_reducible assumption) | assumption)
     obtain ⟨ad222, e222, hx222_0⟩ := Kd.at_int HR0_8.out x6_2 p222 q222
     cases e222
     replace hx222_0 := cb_ HB hx222_0
     replace p222 := eq_true p222
     replace q222 := eq_true q222
     obtain ⟨zr_, hzr_⟩ : ∃ z_ : Int, (rd l0_8 x6_2) % 4294967296 = z_ := ⟨_, rfl⟩
     rw [hzr_, show (zr_ / 16777216) % 256 = zr_ / 16777216 from by omega] at Ny223
     go_wp2_with (first | ((with_reducible refine gate_dst (N := 60) rfl ?_); refine Kd.R_lit (Kd.int .u8) _ 5 ?hg (N := 60) ?hd (xs := ([zr_ / 16777216, (zr_ / 65536) % 256, (zr_ / 256) % 256, zr_ % 256] : List Int)) (inner := [.int .u8 (zr_ / 16777216), .int .u8 ((zr_ / 65536) % 256), .int .u8 ((zr_ / 256) % 256), .int .u8 (zr_ % 256)]) (ok := fun _ => True) (okp := fun _ => True) ?hr ?hp (fun _ hk => hk) trivial (Below.refl _ _) (Nat.le_refl _) (by simp) ?_; (case hd => rfl); (case hg => rfl); (case hr => first | (go_simp; done) | (go_simp; rfl)); (case hp => exact (Reps.one (show Kd.M (Kd.int .u8) _ _ _ (zr_ / 16777216) [.int .u8 (zr_ / 16777216)] from rfl) (Reps.one (show Kd.M (Kd.int .u8) _ _ _ ((zr_ / 65536) % 256) [.int .u8 ((zr_ / 65536) % 256)] from rfl) (Reps.one (show Kd.M (Kd.int .u8) _ _ _ ((zr_ / 256) % 256) [.int .u8 ((zr_ / 256) % 256)] from rfl) (Reps.one (show Kd.M (Kd.int .u8) _ _ _ (zr_ % 256) [.int .u8 (zr_ % 256)] from rfl) (Reps.none _ _)))))); intro v224 w19 ho20 hb hg_ hnew_; clear hg_ hnew_; (first | rw [← Ny223.out] at ho20 | (simp only [Int.reduceToNat] at ho20; rw [← Ny223.out] at ho20)); have HO225 := Aside0.mk (Kd.R_lower (Kd.R_new' ho20 (Kd.R_lt (tR_ HO_4))) (below_size (bw_ HB))); replace HO_4 := Aside0.mk (Kd.R_elder' (tR_ HO_4) (Kd.R_base ho20) hb); replace BK211 := Aside0.mk (blk_below (tk_ BK211) hb); replace HB := Aside0.mk (below_step (bw_ HB) hb); clear hb ho20; obtain ⟨Ao22, co22, eo22⟩ := Kd.R_slice HO225.out; subst eo22) | ((with_reducible refine gate_builtin (b := .append) (xs := #[.tmp 48, .tmp 60]) rfl ?_); at_builtin; refine Kd.R_append_rows (Kd.int .u8) (w0 := w) w.heap.size rfl (.tmp 48) (.tmp 60) 29 5 (.int .u8 0) 1 rfl Try.underlying29 info5 rfl (by decide) (by omega) u4 x4_2 y223 _ _ _ (fun k_ => some k_ ≠ (.slice Ao22 y223.length co22 : Value).ownBlock) (fun _ => False) rfl rfl ?aO ?aR (fun _ _ h => h) (fun _ h => h.elim) ?aF ?aB ?aS ?aL ?_; (case aR => repeat (first | exact (Kd.R_reads' HO225.out).2.2 | (with_reducible refine Kd.C_alloc ?_ _) | (with_reducible refine Kd.C_drewN ?_ _) | (with_reducible refine Kd.C_drew ?_))); (case aB => exact (bw_ HB)); (case aF => exact (fun k_ hk => Kd.fresh' (Kd.R_lt (tR_ HO225)) k_ hk)); (case aO => exact (by (with_reducible repeat (first | apply Kd.R_alloc | apply Kd.R_drewN | apply Kd.R_drew)); exact Kd.R_mono HO_4.out (fun _ hk => hk.2))); (case aS => exact (below_size (bw_ HB))); (case aL => have := LMc17.out; omega); intro v227 w21 ho hb hg hat; rw [← Ny226.out] at ho; have n0_ := Aside0.mk (blk_grown (tk_ BK211) hg (Kd.R_ne HO_4.out BK211.out (by decide))); have n1_ := Aside0.mk (Kd.R_after (ok := (fun _ => True)) (tR_ HO225) hg hat); have n2_ := Aside0.mk (hb); have n3_ := Aside0.mk (ho); clear BK211; clear HO225; clear HB; clear HO_4; have BK211 := n0_; have HO225 := n1_; have HB := n2_; have HO228 := n3_; clear n0_ n1_ n2_ n3_; clear ho hb hg hat))
     go_roundg k2
     case measure => have := HK1.out; have := HK2.out; omega
     case rel => exact ⟨(y226), (wrap64 (x6_2 + 1)), (by first | rfl | (simp; done) | (simp [*]; done)), H', ⟨by have := HK1.out; have := HK2.out; omega⟩, ⟨by (with_reducible repeat (first | apply Kd.R_alloc | apply Kd.R_drewN | apply Kd.R_drew)); exact Kd.R_mono HO228.out (fun _ hk => trivial)⟩, ⟨tk_ BK211⟩, ⟨by repeat (first | (with_reducible first | exact HB.out | apply b_a | apply b_n | apply b_d | refine b_s ?_ GE211.out) | exact HB.out)⟩⟩
end Go.Proofs.Ytnkphgiodpledaa.QMsgBack
