-- Written by a program of this session (a turned copy of the print) out of the translation. Lean checks it.
import Derived.Test.YtggcgacndknlaaaQGridPartsx0
import Derived.Test.YtggcgacndknlaaaQGridPartsx1
import Derived.Test.YtggcgacndknlaaaQGridPartsx6
namespace Go.Proofs.Ytggcgacndknlaaa.QGridParts
open Go.RowKit Go.Proofs.YtggcgacndknlaaaW.PrintWords Go.Proofs.YtggcgacndknlaaaW.PrintLast Go.Proofs.YtggcgacndknlaaaW.PrintMore
attribute [local go_sem] max2_int min2_int max_two min_two max_three min_three max_four min_four   -- for this text's walks alone
open Go.Proofs.YtggcgacndknlaaaW.PrintWords renaming below_alloc → b_a, pw_below_drewN → b_n, below_drew1 → b_d, below_set → b_s, blk_drewN → k_n, blk_drew → k_d, blk_alloc → k_a
open List renaming setIfInBounds_toArray → l_1, set_cons_zero → l_2, set_cons_succ → l_3, map_toArray → l_4, map_cons → l_5, map_nil → l_6, length_drop → l_7, length_take → l_8
set_option linter.unusedVariables false
set_option linter.unusedSimpArgs false

/-! ### grid_Cols: function 31 -/
def grid_Cols.l0 : Nat → Int → Int → Int → Int → Int → Int → List Int → Int → Int → List Int → Option (Int × Int × List Int × Int)
 | 0, _, _, _, _, _, _, _, _, _, _ => none
 | k + 1, x1, x2, x28, x29, x189000, x189001, x189002, x192000, x192001, x192002 => if x29 < x28 then ((grid_row.f x189000 x189001 x189002 x29).bind fun t192 => (if 0 ≤ x1 then (if x1 ≤ x2 then (if x2 ≤ (t192.length : Int) then ((some ((t192.take (x2 : Int).toNat).drop (x1 : Int).toNat : List Int)).bind fun y195 => (if x192002.length + y195.length < 35184372088832 then (grid_Cols.l0 k x1 x2 x28 (wrap64 (x29 + 1)) x189000 x189001 x189002 x192000 x192001 (x192002 ++ y195)) else (none))) else (none)) else (none)) else (none))) else (some (x192000, x192001, x192002, 0))
def grid_Cols.f (k : Nat) (a0_0 : Int) (a0_1 : Int) (l0_2 : List Int) (a1 : Int) (a2 : Int) : Option (Int × Int × List Int × Int) := (grid_cut.f k a0_0 a0_1 l0_2 a1 a2 a0_1).bind fun t190 => (if t190 = 0 then (grid_Cols.l0 k a1 a2 a0_0 0 a0_0 a0_1 l0_2 a0_0 (wrap64 (a2 - a1)) ([] : List Int)) else (some (0, 0, ([] : List Int), t190)))
theorem grid_Cols.mono_l : ∀ k, (∀ y0 y1 y2 y3 y4 y5 y6 y7 y8 y9, LeO (grid_Cols.l0 k y0 y1 y2 y3 y4 y5 y6 y7 y8 y9) (grid_Cols.l0 (k + 1) y0 y1 y2 y3 y4 y5 y6 y7 y8 y9))
 | 0 => fun _ _ _ _ _ _ _ _ _ _ r h => by simp [grid_Cols.l0] at h
 | k + 1 => by
  have ih0 := grid_Cols.mono_l k
  ·
   intro y0 y1 y2 y3 y4 y5 y6 y7 y8 y9
   unfold grid_Cols.l0
   repeat' first
   | (with_reducible exact ih0 _ _ _ _ _ _ _ _ _ _)
   | (with_reducible exact grid_cut.mono _ _ _ _ _ _ _)
   | (with_reducible exact LeO.refl _)
   | (with_reducible exact LeO.none _)
   | (with_reducible refine LeO.ite ?_ ?_)
   | (with_reducible refine LeO.bind ?_ (fun _ => ?_))
   | exact ih0 _ _ _ _ _ _ _ _ _ _
   | exact grid_cut.mono _ _ _ _ _ _ _
   | exact LeO.none _
   | refine LeO.ite ?_ ?_
   | refine LeO.bind ?_ (fun _ => ?_)
theorem grid_Cols.mono : ∀ a0 a1 a2 a3 a4 k, LeO (grid_Cols.f k a0 a1 a2 a3 a4) (grid_Cols.f (k + 1) a0 a1 a2 a3 a4) := by
 intro a0 a1 a2 a3 a4 k
 have ih0 := grid_Cols.mono_l k
 unfold grid_Cols.f
 repeat' first
   | (with_reducible exact ih0 _ _ _ _ _ _ _ _ _ _)
   | (with_reducible exact grid_cut.mono _ _ _ _ _ _ _)
   | (with_reducible exact LeO.refl _)
   | (with_reducible exact LeO.none _)
   | (with_reducible refine LeO.ite ?_ ?_)
   | (with_reducible refine LeO.bind ?_ (fun _ => ?_))
   | exact ih0 _ _ _ _ _ _ _ _ _ _
   | exact grid_cut.mono _ _ _ _ _ _ _
   | exact LeO.none _
   | refine LeO.ite ?_ ?_
   | refine LeO.bind ?_ (fun _ => ?_)
def grid_Cols.T8 : Bool × List (List Nat × List Nat) := (true, [([], []), ([0], [0]), ([], []), ([], []), ([2, 3], [2, 3]), ([], []), ([], []), ([4, 5, 6], [4, 5, 6]), ([1, 7, 4], [1, 7]), ([0, 1, 2, 3, 4, 5, 6, 7, 8], []), ([9, 8, 8, 0, 1, 2, 3, 4, 5, 6, 7, 8], [8, 9])])
def grid_Cols.B8 : List Nat := [0, 1, 0, 0, 12, 0, 0, 124, 255, 511, 1023]
theorem grid_Cols.tab8 : rtab .any (opsOf Try.f31 8) = grid_Cols.T8 := by kernel_rfl
theorem grid_Cols.bits8 : waitsOk grid_Cols.T8.2 grid_Cols.B8 = true := by kernel_rfl
set_option maxHeartbeats 60000000 in
set_option maxRecDepth 100000 in
theorem grid_Cols.calls (k : Nat) (a0_0 : Int) (a0_1 : Int) (A0_2 : Option Addr) (c0_2 : Nat) (l0_2 : List Int) (a1 : Int) (a2 : Int) (r1 : Int) (r2 : Int) (r3 : List Int) (r4 : Int) (w : World) (hr0_2 : Kd.C (Kd.int .i32) w A0_2 l0_2.length l0_2) (hc0_2 : l0_2.length ≤ c0_2) (h : grid_Cols.f k a0_0 a0_1 l0_2 a1 a2 = some (r1, r2, r3, r4)) :
  Calls Try.prog 31 #[.agg #[.int .i64 a0_0, .int .i64 a0_1, .slice A0_2 l0_2.length c0_2], .int .i64 a1, .int .i64 a2] w fun e w' => ∃ v2_ : Value, e = .returned (.tuple #[.agg #[.int .i64 r1, .int .i64 r2, v2_], .int .i64 r4]) ∧ Kd.R (Kd.int .i32) 21 w' w.heap.size (fun _ => True) v2_ r3 ∧ Below w.heap.size w w' := by
 have hu24 := Try.underlying24
 have HR0_2 := Aside0.mk hr0_2
 have HC0_2 := Aside0.mk hc0_2
 clear hr0_2 hc0_2
 have HB := Aside0.mk (Below.refl w.heap.size w)
 have H : ((grid_cut.f k a0_0 a0_1 l0_2 a1 a2 a0_1).bind fun t190 => (if t190 = 0 then (grid_Cols.l0 k a1 a2 a0_0 0 a0_0 a0_1 l0_2 a0_0 (wrap64 (a2 - a1)) ([] : List Int)) else (some (0, 0, ([] : List Int), t190)))) = some (r1, r2, r3, r4) := h
 clear h
 replace H := Option.bind_eq_some_iff.mp H
 obtain ⟨t190, A40, H⟩ := H
 replace H : (if t190 = 0 then (grid_Cols.l0 k a1 a2 a0_0 0 a0_0 a0_1 l0_2 a0_0 (wrap64 (a2 - a1)) ([] : List Int)) else (some (0, 0, ([] : List Int), t190))) = some (r1, r2, r3, r4) := H
 have A4 := Aside0.mk A40
 clear A40
 by_cases c5 : t190 = 0
 rotate_left
 ·
  rw [if_neg c5] at H
  have c5b0 : (t190 == 0) = false := beq_eq_false_iff_ne.mpr c5
  have c5b1 : (t190 != 0) = true := bne_iff_ne.mpr c5
  simp only [Option.some.injEq, Prod.mk.injEq] at H
  obtain ⟨rfl, rfl, rfl, rfl⟩ := H
  go_enter Try.func31, Try.ntmps31
  go_wp2_with (first | ((with_reducible refine gate_dst (N := 3) rfl ?_); refine box_event ?hg (N := 3) ?hd (cs := #[.int .i64 a0_0, .int .i64 a0_1, .slice A0_2 l0_2.length c0_2]) (t := 24) ?hr ?_; (case hd => rfl); (case hg => rfl); (case hr => first | (go_simp; done) | (go_simp; rfl)); intro gb188 hg w36 hbox hb; have BK188 := Aside0.mk (hbox); have GW188 := Aside0.mk ((by rw [hg]; exact (below_size (bw_ HB)) : w.heap.size ≤ gb188)); have GE188 := Aside0.mk ((by rw [hg]; exact (below_size (bw_ HB)) : w.heap.size ≤ gb188)); replace HB := Aside0.mk (below_step (bw_ HB) hb); clear hb hbox hg) | ((with_reducible refine gate_dst (N := 6) rfl ?_); refine box_event ?hg (N := 6) ?hd (cs := #[.int .i64 0, .int .i64 0, .slice none 0 0]) (t := 24) ?hr ?_; (case hd => rfl); (case hg => rfl); (case hr => first | (go_simp; done) | (go_simp; rfl)); intro gb189 hg w37 hbox hb; have BK189 := Aside0.mk (hbox); have GW189 := Aside0.mk ((by rw [hg]; exact (below_size (bw_ HB)) : w.heap.size ≤ gb189)); have GE189 := Aside0.mk ((by rw [hg]; exact (below_size (bw_ HB)) : w.heap.size ≤ gb189)); have NB188_189 := Aside0.mk ((by rw [hg]; exact Nat.ne_of_lt (blk_lt (tk_ BK188)) : gb188 ≠ gb189)); have NB189_188 := Aside0.mk ((by rw [hg]; exact Nat.ne_of_gt (blk_lt (tk_ BK188)) : gb189 ≠ gb188)); replace BK188 := Aside0.mk (blk_below (tk_ BK188) hb); replace HB := Aside0.mk (below_step (bw_ HB) hb); clear hb hbox hg; have hnb38 := NB188_189.out; have hnc38 := NB189_188.out; have hcz39_0 := bc_0 BK188; have hcz39_1 := bc_1 BK188; have hcz39_2 := bc_2 BK188; have hfz39_0 := blk_frozen BK188.out 0; have hfz39_1 := blk_frozen BK188.out 1; have hfz39_2 := blk_frozen BK188.out 2) | ((with_reducible refine gate_callee (f := 42) rfl ?_); refine goesL_ (some 16) rfl rfl Try.func42 (by kernel_rfl) rfl #[.agg #[.int .i64 a0_0, .int .i64 a0_1, .slice A0_2 l0_2.length c0_2], .int .i64 a1, .int .i64 a2, .int .i64 a0_1] rfl (by (try simp only [l_4, l_5, l_6]); first | done | rfl | (simp only [l_7, l_8]; rfl)) ?_; (with_reducible refine (grid_cut.calls k a0_0 a0_1 (fun k_ => k_ < w.heap.size) _ _ l0_2 a1 a2 a0_1 t190 _ ?side1 A4.out).mono ?_); (case side1 => exact Kd.V_mk HC0_2.out (Kd.F_below (Kd.C_F (Kd.heap_int .i32) HR0_2.out) (bw_ HB))); rintro e w40 ⟨rfl, hb⟩; (try clear A4); refine ⟨_, rfl, ?_⟩; replace BK188 := Aside0.mk (blk_below (tk_ BK188) hb); replace BK189 := Aside0.mk (blk_below (tk_ BK189) hb); replace HB := Aside0.mk (below_step (bw_ HB) hb); (try clear hb); (try clear hb2); (try clear hk); (try clear hi); have hcz41_0 := bc_0 BK189; have hcz41_1 := bc_1 BK189; have hcz41_2 := bc_2 BK189; have hfz41_0 := blk_frozen BK189.out 0; have hfz41_1 := blk_frozen BK189.out 1; have hfz41_2 := blk_frozen BK189.out 2))
  refine bodyPost_ret (results_ct rfl _ _ gb189 24 #[.int .i64 0, .int .i64 0, .slice none 0 0] (0, 0) _ rfl (by (with_reducible repeat (first | refine k_n ?_ _ | refine k_d ?_ | refine k_a ?_ _)); refine blk_put (cs := #[.int .i64 0, .int .i64 0, .slice none 0 0]) ?_ 2 _ rfl; (with_reducible repeat (first | refine k_n ?_ _ | refine k_d ?_ | refine k_a ?_ _)); refine blk_put (cs := #[.int .i64 0, .int .i64 0, .slice none 0 0]) ?_ 1 _ rfl; (with_reducible repeat (first | refine k_n ?_ _ | refine k_d ?_ | refine k_a ?_ _)); refine blk_put (cs := #[.int .i64 0, .int .i64 0, .slice none 0 0]) ?_ 0 _ rfl; (with_reducible repeat (first | refine k_n ?_ _ | refine k_d ?_ | refine k_a ?_ _)); exact BK189.out) Try.underlying24 rfl (by kernel_rfl)) rfl ?_
  exact ⟨_, by first | rfl | (simp [errW_none, errW_some] <;> rfl) | (simp [*, errW_none, errW_some] <;> rfl), by first | exact Kd.R_nil _ _ _ _ _ | exact Kd.N_nil _ _ _ _ _ | exact Kd.V_nil _ _ _ _ _ | exact Kd.Q_nil _ _ _ _ _ | exact Kd.S_nil _ _ _ _ _, by repeat (first | (with_reducible first | exact HB.out | apply b_a | apply b_n | apply b_d | refine b_s ?_ GE188.out | refine b_s ?_ GE189.out) | exact HB.out)⟩

 rw [if_pos c5] at H
 have c5b0 : (t190 == 0) = true := beq_iff_eq.mpr c5
 have c5b1 : (t190 != 0) = false := bne_eq_false_iff_eq.mpr c5
 clear c5
 have H' := Aside0.mk H
 clear H
 go_enter Try.func31, Try.ntmps31
 go_wp2_with (first | ((with_reducible refine gate_dst (N := 3) rfl ?_); refine box_event ?hg (N := 3) ?hd (cs := #[.int .i64 a0_0, .int .i64 a0_1, .slice A0_2 l0_2.length c0_2]) (t := 24) ?hr ?_; (case hd => rfl); (case hg => rfl); (case hr => first | (go_simp; done) | (go_simp; rfl)); intro gb188 hg w6 hbox hb; have BK188 := Aside0.mk (hbox); have GW188 := Aside0.mk ((by rw [hg]; exact (below_size (bw_ HB)) : w.heap.size ≤ gb188)); have GE188 := Aside0.mk ((by rw [hg]; exact (below_size (bw_ HB)) : w.heap.size ≤ gb188)); replace HB := Aside0.mk (below_step (bw_ HB) hb); clear hb hbox hg) | ((with_reducible refine gate_dst (N := 6) rfl ?_); refine box_event ?hg (N := 6) ?hd (cs := #[.int .i64 0, .int .i64 0, .slice none 0 0]) (t := 24) ?hr ?_; (case hd => rfl); (case hg => rfl); (case hr => first | (go_simp; done) | (go_simp; rfl)); intro gb189 hg w7 hbox hb; have BK189 := Aside0.mk (hbox); have GW189 := Aside0.mk ((by rw [hg]; exact (below_size (bw_ HB)) : w.heap.size ≤ gb189)); have GE189 := Aside0.mk ((by rw [hg]; exact (below_size (bw_ HB)) : w.heap.size ≤ gb189)); have NB188_189 := Aside0.mk ((by rw [hg]; exact Nat.ne_of_lt (blk_lt (tk_ BK188)) : gb188 ≠ gb189)); have NB189_188 := Aside0.mk ((by rw [hg]; exact Nat.ne_of_gt (blk_lt (tk_ BK188)) : gb189 ≠ gb188)); replace BK188 := Aside0.mk (blk_below (tk_ BK188) hb); replace HB := Aside0.mk (below_step (bw_ HB) hb); clear hb hbox hg; have hnb8 := NB188_189.out; have hnc8 := NB189_188.out; have hcz9_0 := bc_0 BK188; have hcz9_1 := bc_1 BK188; have hcz9_2 := bc_2 BK188; have hfz9_0 := blk_frozen BK188.out 0; have hfz9_1 := blk_frozen BK188.out 1; have hfz9_2 := blk_frozen BK188.out 2) | ((with_reducible refine gate_callee (f := 42) rfl ?_); refine goesL_ (some 16) rfl rfl Try.func42 (by kernel_rfl) rfl #[.agg #[.int .i64 a0_0, .int .i64 a0_1, .slice A0_2 l0_2.length c0_2], .int .i64 a1, .int .i64 a2, .int .i64 a0_1] rfl (by (try simp only [l_4, l_5, l_6]); first | done | rfl | (simp only [l_7, l_8]; rfl)) ?_; (with_reducible refine (grid_cut.calls k a0_0 a0_1 (fun k_ => k_ < w.heap.size) _ _ l0_2 a1 a2 a0_1 t190 _ ?side1 A4.out).mono ?_); (case side1 => exact Kd.V_mk HC0_2.out (Kd.F_below (Kd.C_F (Kd.heap_int .i32) HR0_2.out) (bw_ HB))); rintro e w10 ⟨rfl, hb⟩; (try clear A4); refine ⟨_, rfl, ?_⟩; replace BK188 := Aside0.mk (blk_below (tk_ BK188) hb); replace BK189 := Aside0.mk (blk_below (tk_ BK189) hb); replace HB := Aside0.mk (below_step (bw_ HB) hb); (try clear hb); (try clear hb2); (try clear hk); (try clear hi); have hcz11_0 := bc_0 BK188; have hcz11_1 := bc_1 BK188; have hcz11_2 := bc_2 BK188; have hfz11_0 := blk_frozen BK188.out 0; have hfz11_1 := blk_frozen BK188.out 1; have hfz11_2 := blk_frozen BK188.out 2) | ((with_reducible refine gate_dst (N := 9) rfl ?_); refine box_event ?hg (N := 9) ?hd (cs := #[.int .i64 0, .int .i64 0, .slice none 0 0]) (t := 24) ?hr ?_; (case hd => rfl); (case hg => rfl); (case hr => first | (go_simp; done) | (go_simp; rfl)); intro gb191 hg w12 hbox hb; have BK191 := Aside0.mk (hbox); have GW191 := Aside0.mk ((by rw [hg]; exact (below_size (bw_ HB)) : w.heap.size ≤ gb191)); have GE191 := Aside0.mk ((by rw [hg]; exact (below_size (bw_ HB)) : w.heap.size ≤ gb191)); have NB188_191 := Aside0.mk ((by rw [hg]; exact Nat.ne_of_lt (blk_lt (tk_ BK188)) : gb188 ≠ gb191)); have NB191_188 := Aside0.mk ((by rw [hg]; exact Nat.ne_of_gt (blk_lt (tk_ BK188)) : gb191 ≠ gb188)); have NB189_191 := Aside0.mk ((by rw [hg]; exact Nat.ne_of_lt (blk_lt (tk_ BK189)) : gb189 ≠ gb191)); have NB191_189 := Aside0.mk ((by rw [hg]; exact Nat.ne_of_gt (blk_lt (tk_ BK189)) : gb191 ≠ gb189)); replace BK188 := Aside0.mk (blk_below (tk_ BK188) hb); replace BK189 := Aside0.mk (blk_below (tk_ BK189) hb); replace HB := Aside0.mk (below_step (bw_ HB) hb); clear hb hbox hg; have hnb13 := NB191_188.out; have hnc13 := NB188_191.out; have hnb14 := NB191_189.out; have hnc14 := NB189_191.out; have hcz15_0 := bc_0 BK191; have hcz15_1 := bc_1 BK191; have hcz15_2 := bc_2 BK191; have hfz15_0 := blk_frozen BK191.out 0; have hfz15_1 := blk_frozen BK191.out 1; have hfz15_2 := blk_frozen BK191.out 2; have hcz16_0 := bc_0 BK188; have hcz16_1 := bc_1 BK188; have hcz16_2 := bc_2 BK188; have hfz16_0 := blk_frozen BK188.out 0; have hfz16_1 := blk_frozen BK188.out 1; have hfz16_2 := blk_frozen BK188.out 2))
 go_loopg [29] k (fun kq v29 w' => ∃ (x29_1 : Int) (x192002_1 : List Int) (u192002 : Value), v29 = .int .i64 x29_1 ∧ Aside0 (grid_Cols.l0 kq a1 a2 a0_0 x29_1 a0_0 a0_1 l0_2 a0_0 (wrap64 (a2 - a1)) x192002_1 = some (r1, r2, r3, r4)) ∧ Aside0 (kq ≤ k) ∧ Aside0 (Kd.R (Kd.int .i32) 21 w' w.heap.size (fun _ => True) u192002 x192002_1) ∧ Aside0 (w'.heap[gb188]? = some (.cells #[.int .i64 a0_0, .int .i64 a0_1, (.slice A0_2 l0_2.length c0_2)] 24 (0, 0))) ∧ Aside0 (w'.heap[gb189]? = some (.cells #[.int .i64 0, .int .i64 0, (.slice none 0 0)] 24 (0, 0))) ∧ Aside0 (w'.heap[gb191]? = some (.cells #[.int .i64 a0_0, .int .i64 (wrap64 (a2 - a1)), u192002] 24 (0, 0))) ∧ Aside0 (Below w.heap.size w w'))
 case atStart => exact ⟨(0), (([] : List Int)), (.slice none 0 0), (by first | rfl | (simp; done) | (simp [*]; done)), H', ⟨Nat.le_refl _⟩, ⟨by first | exact Kd.R_nil _ _ _ _ _ | exact Kd.N_nil _ _ _ _ _ | exact Kd.V_nil _ _ _ _ _ | exact Kd.Q_nil _ _ _ _ _ | exact Kd.S_nil _ _ _ _ _⟩, ⟨by (with_reducible repeat (first | refine k_n ?_ _ | refine k_d ?_ | refine k_a ?_ _)); refine blk_far ?_ NB188_191.out _; (with_reducible repeat (first | refine k_n ?_ _ | refine k_d ?_ | refine k_a ?_ _)); refine blk_far ?_ NB188_191.out _; (with_reducible repeat (first | refine k_n ?_ _ | refine k_d ?_ | refine k_a ?_ _)); refine blk_far ?_ NB188_191.out _; (with_reducible repeat (first | refine k_n ?_ _ | refine k_d ?_ | refine k_a ?_ _)); exact BK188.out⟩, ⟨by (with_reducible repeat (first | refine k_n ?_ _ | refine k_d ?_ | refine k_a ?_ _)); refine blk_far ?_ NB189_191.out _; (with_reducible repeat (first | refine k_n ?_ _ | refine k_d ?_ | refine k_a ?_ _)); refine blk_far ?_ NB189_191.out _; (with_reducible repeat (first | refine k_n ?_ _ | refine k_d ?_ | refine k_a ?_ _)); refine blk_far ?_ NB189_191.out _; (with_reducible repeat (first | refine k_n ?_ _ | refine k_d ?_ | refine k_a ?_ _)); exact BK189.out⟩, ⟨by (with_reducible repeat (first | refine k_n ?_ _ | refine k_d ?_ | refine k_a ?_ _)); refine blk_put (cs := #[.int .i64 a0_0, .int .i64 (wrap64 (a2 - a1)), .slice none 0 0]) ?_ 2 _ rfl; (with_reducible repeat (first | refine k_n ?_ _ | refine k_d ?_ | refine k_a ?_ _)); refine blk_put (cs := #[.int .i64 a0_0, .int .i64 0, .slice none 0 0]) ?_ 1 _ rfl; (with_reducible repeat (first | refine k_n ?_ _ | refine k_d ?_ | refine k_a ?_ _)); refine blk_put (cs := #[.int .i64 0, .int .i64 0, .slice none 0 0]) ?_ 0 _ rfl; (with_reducible repeat (first | refine k_n ?_ _ | refine k_d ?_ | refine k_a ?_ _)); exact BK191.out⟩, ⟨by repeat (first | (with_reducible first | exact HB.out | apply b_a | apply b_n | apply b_d | refine b_s ?_ GE188.out | refine b_s ?_ GE189.out | refine b_s ?_ GE191.out) | exact HB.out)⟩⟩
 case round =>
  clear H'
  try clear c1
  try clear p2
  try clear c3
  try clear c4
  try clear c5
  try clear c5b0
  try clear c5b1
  try clear p6
  try clear c8
  try clear c13
  try clear c14
  try clear hcz11_0
  try clear hcz11_1
  try clear hcz11_2
  try clear hcz15_0
  try clear hcz15_1
  try clear hcz15_2
  try clear hcz16_0
  try clear hcz16_1
  try clear hcz16_2
  try clear hcz9_0
  try clear hcz9_1
  try clear hcz9_2
  try clear hfz11_0
  try clear hfz11_1
  try clear hfz11_2
  try clear hfz15_0
  try clear hfz15_1
  try clear hfz15_2
  try clear hfz16_0
  try clear hfz16_1
  try clear hfz16_2
  try clear hfz9_0
  try clear hfz9_1
  try clear hfz9_2
  obtain ⟨x29_1, x192002_1, u192002, rfl, HA, HK1, HO_192002, BK188, BK189, BK191, HB⟩ := hrel
  cases gk with
  | zero => exact absurd HA.out (by simp [grid_Cols.l0])
  | succ k1 =>
   have H := HA.out
   clear HA
   simp only [grid_Cols.l0] at H
   by_cases c17 : x29_1 < a0_0
   rotate_left
   ·
    rw [if_neg c17] at H
    have c17b0 : decide (x29_1 < a0_0) = false := decide_eq_false c17
    clear c17
    simp only [Option.some.injEq, Prod.mk.injEq] at H
    obtain ⟨rfl, rfl, rfl, rfl⟩ := H
    have hnb30 := NB191_188.out
    have hnc30 := NB188_191.out
    have hnb31 := NB191_189.out
    have hnc31 := NB189_191.out
    have hcz32_0 := bc_0 BK191
    have hcz32_1 := bc_1 BK191
    have hcz32_2 := bc_2 BK191
    have hfz32_0 := blk_frozen BK191.out 0
    have hfz32_1 := blk_frozen BK191.out 1
    have hfz32_2 := blk_frozen BK191.out 2
    have hnb33 := NB189_188.out
    have hnc33 := NB188_189.out
    have hcz34_0 := bc_0 BK189
    have hcz34_1 := bc_1 BK189
    have hcz34_2 := bc_2 BK189
    have hfz34_0 := blk_frozen BK189.out 0
    have hfz34_1 := blk_frozen BK189.out 1
    have hfz34_2 := blk_frozen BK189.out 2
    obtain ⟨Ao35, co35, eo35⟩ := Kd.R_slice HO_192002.out
    subst eo35
    go_wp2
    refine bodyPost_ret (results_ct rfl _ _ gb189 24 #[.int .i64 a0_0, .int .i64 (wrap64 (a2 - a1)), .slice Ao35 x192002_1.length co35] (0, 0) _ rfl (by (with_reducible repeat (first | refine k_n ?_ _ | refine k_d ?_ | refine k_a ?_ _)); refine blk_put (cs := #[.int .i64 a0_0, .int .i64 (wrap64 (a2 - a1)), .slice none 0 0]) ?_ 2 _ rfl; (with_reducible repeat (first | refine k_n ?_ _ | refine k_d ?_ | refine k_a ?_ _)); refine blk_put (cs := #[.int .i64 a0_0, .int .i64 0, .slice none 0 0]) ?_ 1 _ rfl; (with_reducible repeat (first | refine k_n ?_ _ | refine k_d ?_ | refine k_a ?_ _)); refine blk_put (cs := #[.int .i64 0, .int .i64 0, .slice none 0 0]) ?_ 0 _ rfl; (with_reducible repeat (first | refine k_n ?_ _ | refine k_d ?_ | refine k_a ?_ _)); exact BK189.out) Try.underlying24 rfl (by kernel_rfl)) rfl ?_
    exact ⟨_, by first | rfl | (simp [errW_none, errW_some] <;> rfl) | (simp [*, errW_none, errW_some] <;> rfl), by (with_reducible repeat (first | apply Kd.R_alloc | apply Kd.R_drewN | apply Kd.R_drew)); exact Kd.R_mono (Kd.R_far (p := ⟨gb189, 2, none⟩) (Kd.R_far (p := ⟨gb189, 1, none⟩) (Kd.R_far (p := ⟨gb189, 0, none⟩) (Kd.R_types HO_192002.out BK189.out (by decide)) (fun _ hk => hk.2) (.int .i64 a0_0)) (fun _ hk => hk.2) (.int .i64 (wrap64 (a2 - a1)))) (fun _ hk => hk.2) (.slice Ao35 x192002_1.length co35)) (fun _ hk => trivial), by repeat (first | (with_reducible first | exact HB.out | apply b_a | apply b_n | apply b_d | refine b_s ?_ GE188.out | refine b_s ?_ GE189.out | refine b_s ?_ GE191.out) | exact HB.out)⟩
   rw [if_pos c17] at H
   have c17b0 : decide (x29_1 < a0_0) = true := decide_eq_true c17
   clear c17
   replace H := Option.bind_eq_some_iff.mp H
   obtain ⟨t192, A180, H⟩ := H
   replace H : (if 0 ≤ a1 then (if a1 ≤ a2 then (if a2 ≤ (t192.length : Int) then ((some ((t192.take (a2 : Int).toNat).drop (a1 : Int).toNat : List Int)).bind fun y195 => (if x192002_1.length + y195.length < 35184372088832 then (grid_Cols.l0 k1 a1 a2 a0_0 (wrap64 (x29_1 + 1)) a0_0 a0_1 l0_2 a0_0 (wrap64 (a2 - a1)) (x192002_1 ++ y195)) else (none))) else (none)) else (none)) else (none)) = some (r1, r2, r3, r4) := H
   have A18 := Aside0.mk A180
   clear A180
   by_cases c19 : 0 ≤ a1
   rotate_left
   ·
    rw [if_neg c19] at H
    exact absurd H (by simp)
   rw [if_pos c19] at H
   have c19b0 := eq_true c19
   have c19b1 : decide (0 ≤ a1) = true := decide_eq_true c19
   clear c19
   by_cases c20 : a1 ≤ a2
   rotate_left
   ·
    rw [if_neg c20] at H
    exact absurd H (by simp)
   rw [if_pos c20] at H
   have c20b0 := eq_true c20
   have c20b1 : decide (a1 ≤ a2) = true := decide_eq_true c20
   clear c20
   by_cases c21 : a2 ≤ (t192.length : Int)
   rotate_left
   ·
    rw [if_neg c21] at H
    exact absurd H (by simp)
   rw [if_pos c21] at H
   have c21b0 := eq_true c21
   have c21b1 : decide (a2 ≤ (t192.length : Int)) = true := decide_eq_true c21
   clear c21
   obtain ⟨y195, hy195⟩ : ∃ y_ : List Int, y_ = ((t192.take (a2 : Int).toNat).drop (a1 : Int).toNat) := ⟨_, rfl⟩
   replace H : (if x192002_1.length + y195.length < 35184372088832 then (grid_Cols.l0 k1 a1 a2 a0_0 (wrap64 (x29_1 + 1)) a0_0 a0_1 l0_2 a0_0 (wrap64 (a2 - a1)) (x192002_1 ++ y195)) else (none)) = some (r1, r2, r3, r4) := by first | (rw [hy195]; with_reducible exact H) | (have H2_ := (Option.bind_some _ _).symm.trans H; rw [hy195]; with_reducible exact H2_) | (have H2_ := (Option.bind_some _ _).symm.trans H; with_reducible exact H2_) | with_reducible exact H | (rw [hy195]; exact H) | exact H
   have Ny195 := Aside0.mk hy195
   clear hy195
   by_cases c22 : x192002_1.length + y195.length < 35184372088832
   rotate_left
   ·
    rw [if_neg c22] at H
    exact absurd H (by simp)
   rw [if_pos c22] at H
   have LMc22 := Aside0.mk c22
   clear c22
   obtain ⟨y199, hy199⟩ : ∃ y_ : List Int, y_ = (x192002_1 ++ y195) := ⟨_, rfl⟩
   replace H : (grid_Cols.l0 k1 a1 a2 a0_0 (wrap64 (x29_1 + 1)) a0_0 a0_1 l0_2 a0_0 (wrap64 (a2 - a1)) y199) = some (r1, r2, r3, r4) := by first | (rw [hy199]; with_reducible exact H) | (have H2_ := (Option.bind_some _ _).symm.trans H; rw [hy199]; with_reducible exact H2_) | (have H2_ := (Option.bind_some _ _).symm.trans H; with_reducible exact H2_) | with_reducible exact H | (rw [hy199]; exact H) | exact H
   have Ny199 := Aside0.mk hy199
   clear hy199
   have H' := Aside0.mk H
   clear H
   try go_wp2
   replace HO_192002 := Aside0.mk (Kd.R_drew HO_192002.out)
   replace BK188 := Aside0.mk (k_d BK188.out)
   replace BK189 := Aside0.mk (k_d BK189.out)
   replace BK191 := Aside0.mk (k_d BK191.out)
   replace HB := Aside0.mk (b_d HB.out)
   refine start_ (n := 11) (S := fun w' => w'.cell? ⟨gb191, 0, none⟩ = some (.int .i64 a0_0) ∧ w'.cell? ⟨gb191, 1, none⟩ = some (.int .i64 (wrap64 (a2 - a1))) ∧ w'.cell? ⟨gb191, 2, none⟩ = some (u192002) ∧ w'.cell? ⟨gb188, 0, none⟩ = some (.int .i64 a0_0) ∧ w'.cell? ⟨gb188, 1, none⟩ = some (.int .i64 a0_1) ∧ w'.cell? ⟨gb188, 2, none⟩ = some (.slice A0_2 l0_2.length c0_2)) (ds := [10]) #[false, false, false, false, false, false, false, false, false, false, false] (by kernel_rfl) rfl rfl ⟨(blk_cell BK191.out 0).trans rfl, (blk_cell BK191.out 1).trans rfl, (blk_cell BK191.out 2).trans rfl, (blk_cell BK188.out 0).trans rfl, (blk_cell BK188.out 1).trans rfl, (blk_cell BK188.out 2).trans rfl⟩ (fun hHeld => ?_); refine with_tabW grid_Cols.tab8 grid_Cols.bits8 (fun HT_ HW_ => ?_)
   generalize wr.drew = w23 at HO_192002 BK188 BK189 BK191 HB hHeld ⊢
   refine pu_ (i := 0) (N := some 32) (bs_ 11 1) rfl rfl HT_ ?_
   refine pu_ (i := 3) (N := some 35) (bs_ 11 9) rfl rfl HT_ ?_
   refine pu_ (i := 5) (N := some 37) (bs_ 11 41) rfl rfl HT_ ?_
   refine pu_ (i := 6) (N := some 38) (bs_ 11 105) rfl rfl HT_ ?_
   refine take_ (i := 1) (N := some 33) (v := ?_) (a' := ?_) (bs_ 11 107) rfl rfl (take_ofW HT_.out HW_.out (by kernel_rfl)) (fun _ _ _ h => h) (Or.inl ⟨by rfl, ?_⟩) hHeld ?_ ?_
   rotate_left
   ·
    rintro w' ⟨s0, s1, s2, s3, s4, s5⟩
    go_simp
    with_reducible rfl
   rotate_left
   ·
    simp only [Act.put, l_1, l_2, l_3, i64_w, i32_w]
    rfl
   refine take_ (i := 2) (N := some 34) (v := ?_) (a' := ?_) (bs_ 11 111) rfl rfl (take_ofW HT_.out HW_.out (by kernel_rfl)) (fun _ _ _ h => h) (Or.inl ⟨by rfl, ?_⟩) hHeld ?_ ?_
   rotate_left
   ·
    rintro w' ⟨s0, s1, s2, s3, s4, s5⟩
    go_simp
    with_reducible rfl
   rotate_left
   ·
    simp only [Act.put, l_1, l_2, l_3, i64_w, i32_w]
    rfl
   refine one_ (i := 4) (N := some 36) (bs_ 11 127) rfl rfl (one_of HT_.out (by kernel_rfl)) (by decide) (fun K hK => ?_)
   refine goes_ Try.func37 (by kernel_rfl) rfl #[.agg #[.int .i64 a0_0, .int .i64 a0_1, .slice A0_2 l0_2.length c0_2], .int .i64 x29_1] (by rfl) rfl rfl (by (try simp only [l_4, l_5, l_6]); first | done | rfl | (simp only [l_7, l_8]; rfl)) ?_
   with_reducible refine (grid_row.callsC a0_0 a0_1 _ _ l0_2 x29_1 t192 _ ?side1 ?side2 A18.out).mono ?_
   (case side1 => repeat (first | exact (Kd.C_below HR0_2.out HB.out) | (with_reducible refine Kd.C_alloc ?_ _) | (with_reducible refine Kd.C_drewN ?_ _) | (with_reducible refine Kd.C_drew ?_)))
   (case side2 => exact HC0_2.out)
   rintro e w24 ⟨Ao26, co26, rfl, hroom_, hCr_, hb⟩
   refine ⟨_, rfl, ?_⟩
   skip
   replace HO_192002 := Aside0.mk (Kd.R_below (tR_ HO_192002) hb)
   replace BK188 := Aside0.mk (blk_below (tk_ BK188) hb)
   replace BK189 := Aside0.mk (blk_below (tk_ BK189) hb)
   replace BK191 := Aside0.mk (blk_below (tk_ BK191) hb)
   replace HB := Aside0.mk (below_step (bw_ HB) hb)
   (try clear hb)
   (try clear hb2)
   (try clear hk)
   (try clear hi)
   skip
   skip
   have q25 : (a2 : Int) ≤ ((t192.length : Int) : Int) := of_decide_eq_true (by first | (with_reducible assumption) | assumption)
   obtain ⟨i025, hi025, _, hsz25, _⟩ := info_parts info21
   have hroom25 : t192.length ≤ co26 := hroom_
   have hC25 : Kd.C (Kd.int .i32) w Ao26 t192.length t192 := hCr_ w HR0_2.out
   have ql25 : (a1 : Int) ≤ (a2 : Int) := of_decide_eq_true (by first | (with_reducible assumption) | assumption)
   have q025 : (0 : Int) ≤ (a1 : Int) := of_decide_eq_true (by first | (with_reducible assumption) | assumption)
   have hcut25 := cut_mid (P := Try.prog) 22 21 .i64 .i64 Try.underlying22 hi025 1 hsz25 Ao26 t192.length co26 a1 a2 q025 ql25 q25 hroom25
   have hr25 := Kd.C_mid (lo := (a1 : Int).toNat) (hi := (a2 : Int).toNat) (c := co26) hC25 (by omega) (by omega) hroom25
   obtain ⟨A25, hA25⟩ : ∃ A1, A1 = (if co26 = (a1 : Int).toNat then Ao26 else (Ao26 : Option Addr).map (·.add ((a1 : Int).toNat * 1))) := ⟨_, rfl⟩
   obtain ⟨c25, hc25⟩ : ∃ c1, c1 = co26 - (a1 : Int).toNat := ⟨_, rfl⟩
   have hy25 : y195.length = (a2 : Int).toNat - (a1 : Int).toNat := (by rw [Ny195.out, l_7, l_8] <;> omega)
   rw [show ((t192).take (a2 : Int).toNat).drop (a1 : Int).toNat = y195 from Ny195.out.symm] at hr25
   replace hr25 : Kd.C (Kd.int .i32) _ A25 y195.length y195 := (by rw [hA25]; exact hr25)
   rw [← hy25, ← hA25, ← hc25] at hcut25
   have HR198 := Aside0.mk hr25
   have HC198 := Aside0.mk (show y195.length ≤ c25 from by rw [hy25, hc25]; exact Nat.sub_le_sub_right (Nat.le_trans (by omega) hroom25) _)
   clear hr25 hC25 hroom25 hi025 hsz25 hc25
   have KY25 := Aside0.mk hy25
   have KA25 := Aside0.mk hA25
   clear hy25 hA25
   have KL25 := Aside0.mk (show (a2 : Int).toNat ≤ t192.length from by omega)
   have KM25 := Aside0.mk (show (a1 : Int).toNat ≤ (a2 : Int).toNat from by omega)
   replace q25 := eq_true q25
   refine hK.out _ _ ⟨(blk_cell BK191.out 0).trans rfl, (blk_cell BK191.out 1).trans rfl, (blk_cell BK191.out 2).trans rfl, (blk_cell BK188.out 0).trans rfl, (blk_cell BK188.out 1).trans rfl, (blk_cell BK188.out 2).trans rfl⟩ (fun hHeld => ?_)
   clear hK K
   refine no_ (N := some 36) ?_
   refine pu_ (i := 7) (N := some 39) (bs_ 11 255) rfl rfl HT_ ?_
   refine one_ (i := 8) (N := some 40) (bs_ 11 511) rfl rfl (one_of HT_.out (by kernel_rfl)) (by decide) (fun K hK => ?_)
   refine Kd.R_append_rows_step (Kd.int .i32) (w0 := w) w.heap.size (by rfl) (.tmp 33) (.tmp 39) 22 21 (.int .i32 0) 4 rfl Try.underlying22 info21 rfl (by decide) (by omega) u192002 x192002_1 y195 _ _ _ (fun _ => True) (fun _ => False) rfl rfl ?aO ?aR (fun _ _ h => h) (fun _ h => h.elim) ?aF ?aB ?aS ?aL ?_
   (case aR => repeat (first | exact (Kd.C_below HR198.out HB.out) | (with_reducible refine Kd.C_alloc ?_ _) | (with_reducible refine Kd.C_drewN ?_ _) | (with_reducible refine Kd.C_drew ?_)))
   (case aB => exact (bw_ HB))
   (case aF => exact (fun _ _ => trivial))
   (case aO => exact (tR_ HO_192002))
   (case aS => exact (below_size (bw_ HB)))
   (case aL => have := LMc22.out; omega)
   intro v200 w27 ho hb hg hat
   rw [← Ny199.out] at ho
   have n0_ := Aside0.mk (blk_grown (tk_ BK188) hg (Kd.R_ne HO_192002.out BK188.out (by decide)))
   have n1_ := Aside0.mk (blk_grown (tk_ BK189) hg (Kd.R_ne HO_192002.out BK189.out (by decide)))
   have n2_ := Aside0.mk (blk_grown (tk_ BK191) hg (Kd.R_ne HO_192002.out BK191.out (by decide)))
   skip
   have n4_ := Aside0.mk (hb)
   skip
   have n6_ := Aside0.mk (ho)
   clear BK188
   clear BK189
   clear BK191
   skip
   clear HB
   skip
   clear HO_192002
   have BK188 := n0_
   have BK189 := n1_
   have BK191 := n2_
   skip
   have HB := n4_
   skip
   have HO201 := n6_
   clear n0_ n1_ n2_ n4_ n6_
   clear ho hb hg hat
   obtain ⟨Ao28, co28, eo28⟩ := Kd.R_slice HO201.out
   (first | subst eo28 | (injection eo28 with f1_ f2_ f3_; have f4_ := f1_.symm; have f5_ := f3_.symm; clear f1_ f2_ f3_; subst f4_; subst f5_))
   refine hK.out _ _ ⟨(blk_cell BK191.out 0).trans rfl, (blk_cell BK191.out 1).trans rfl, (blk_cell BK191.out 2).trans rfl, (blk_cell BK188.out 0).trans rfl, (blk_cell BK188.out 1).trans rfl, (blk_cell BK188.out 2).trans rfl⟩ (fun hHeld => ?_)
   clear hK K
   refine no_ (N := some 40) ?_
   refine pu_ (i := 9) (N := some 41) (bs_ 11 1023) rfl rfl HT_ ?_
   refine last_ (i := 10) (N := none) (bs_ 11 2047) rfl rfl (one_of HT_.out (by kernel_rfl)) (by decide) (fun K hK => ?_)
   have hs29 := bc_2 BK191
   have hfs29 := blk_frozen BK191.out 2
   have hns29_0 := NB188_191.out
   have hns29_1 := NB189_191.out
   have hms29_0 := NB191_188.out
   have hms29_1 := NB191_189.out
   refine skip_ (w1 := ?_) (by rfl) rfl ?_ ?_
   rotate_left
   ·
    go_simp
    rfl
   refine hK.out _ _ ?_
   clear hK K
   refine done_ (done_of HT_.out (by kernel_rfl)) ?_
   try go_wp2
   go_roundg k1
   case measure => have := HK1.out; omega
   case rel => exact ⟨(wrap64 (x29_1 + 1)), (y199), (.slice Ao28 y199.length co28), (by first | rfl | (simp; done) | (simp [*]; done)), H', ⟨by have := HK1.out; omega⟩, ⟨by (with_reducible repeat (first | apply Kd.R_alloc | apply Kd.R_drewN | apply Kd.R_drew)); exact Kd.R_mono (Kd.R_far (p := ⟨gb191, 2, none⟩) (Kd.R_types HO201.out BK191.out (by decide)) (fun _ hk => hk.2) (.slice Ao28 y199.length co28)) (fun _ hk => trivial)⟩, ⟨by (with_reducible repeat (first | refine k_n ?_ _ | refine k_d ?_ | refine k_a ?_ _)); refine blk_far ?_ NB188_191.out _; (with_reducible repeat (first | refine k_n ?_ _ | refine k_d ?_ | refine k_a ?_ _)); exact BK188.out⟩, ⟨by (with_reducible repeat (first | refine k_n ?_ _ | refine k_d ?_ | refine k_a ?_ _)); refine blk_far ?_ NB189_191.out _; (with_reducible repeat (first | refine k_n ?_ _ | refine k_d ?_ | refine k_a ?_ _)); exact BK189.out⟩, ⟨by (with_reducible repeat (first | refine k_n ?_ _ | refine k_d ?_ | refine k_a ?_ _)); refine blk_put (cs := #[.int .i64 a0_0, .int .i64 (wrap64 (a2 - a1)), u192002]) ?_ 2 _ rfl; (with_reducible repeat (first | refine k_n ?_ _ | refine k_d ?_ | refine k_a ?_ _)); exact BK191.out⟩, ⟨by repeat (first | (with_reducible first | exact HB.out | apply b_a | apply b_n | apply b_d | refine b_s ?_ GE188.out | refine b_s ?_ GE189.out | refine b_s ?_ GE191.out) | exact HB.out)⟩⟩
/-! ### pelotonlaw03_GridParts_1: function 35, by hand -/
def pelotonlaw03_GridParts_1.f (x n : Int) : Int := Int.tmod (wrap64 (wrap64 (Int.tmod x (wrap64 (n + 1)) + n) + 1)) (wrap64 (n + 1))
theorem pelotonlaw03_GridParts_1.calls (x n : Int) (g : Nat) (w : World) (hc : w.cell? ⟨g, 0, none⟩ = some (.int .i64 x)) (hn : ¬ wrap64 (n + 1) = 0) :
    Calls Try.prog 35 #[.int .i64 n, .pointer (some ⟨g, 0, none⟩)] w fun e w' => e = .returned (.int .i64 (pelotonlaw03_GridParts_1.f x n)) ∧ w' = w := by
  have na : (wrap64 (n + 1) == 0) = false := beq_eq_false_iff_ne.2 hn
  have nb : decide (wrap64 (n + 1) = 0) = false := decide_eq_false hn
  have nc : (wrap64 (n + 1) = 0) = False := eq_false hn
  clear hn
  go_enter Try.func35, Try.ntmps35
  go_wp2
  go_ret
  exact ⟨rfl, rfl⟩
theorem pelotonlaw03_GridParts_1.closes {P : Program} {ops : Array Oper} {Q : Exit → Act → World → Prop} {oi : Oper} {N : Option Tmp} {a : Act} {w : World} {K : Act → World → Prop} {f : FuncId} {fn : Func} {x : Operand} {os : Array Operand} {ts : Array TypeId} (hf : P.funcs[f]? = some fn) (hname : (fn.name == "runtime.NumGoroutine") = false) (hb : fn.body.isSome = true) (args cap all : Array Value)
    (hw : Region.wanted oi (yielded ops a.tmps) = true) (hN : oi.dst = N) (hop : oi.op = .call { callee := .value x, args := os, argTypes := ts }) (hx : a.eval x = .func (.func f) #[] cap) (hargs : os.map a.eval = args) (hall : args ++ cap = all)
    (h : Calls P f all w fun e w' => ∃ v, e = .returned v ∧ K (a.put N v) w') : if Region.wanted oi (yielded ops a.tmps) = true then Oper.wp P oi a w K Q else K (a.put N undef) w := by
  refine call_ f all hw hN ?_ h
  subst hall
  have he := enters_ hf hname hb (args ++ cap) w
  unfold execOp
  simp [hop, resolve, Deferred.ofValue, invoke, hx, hargs, he]
end Go.Proofs.Ytggcgacndknlaaa.QGridParts
