-- Written by a program of this session (a turned copy of the print) out of the translation. Lean checks it.
import Derived.Test.YtijkcjlkfjeedaaQSliceCutsx0
import Derived.Test.YtijkcjlkfjeedaaQSliceCutsx2
namespace Go.Proofs.Ytijkcjlkfjeedaa.QSliceCuts
open Go.RowKit Go.Proofs.YtijkcjlkfjeedaaW.PrintWords Go.Proofs.YtijkcjlkfjeedaaW.PrintLast Go.Proofs.YtijkcjlkfjeedaaW.PrintMore
attribute [local go_sem] max2_int min2_int max_two min_two max_three min_three max_four min_four   -- for this text's walks alone
open Go.Proofs.YtijkcjlkfjeedaaW.PrintWords renaming below_alloc → b_a, pw_below_drewN → b_n, below_drew1 → b_d, below_set → b_s, blk_drewN → k_n, blk_drew → k_d, blk_alloc → k_a
open List renaming setIfInBounds_toArray → l_1, set_cons_zero → l_2, set_cons_succ → l_3, map_toArray → l_4, map_cons → l_5, map_nil → l_6, length_drop → l_7, length_take → l_8
set_option linter.unusedVariables false
set_option linter.unusedSimpArgs false

/-! ### pelotonref07_Right: function 21 -/
def pelotonref07_Right.f (a0_0 : Int) (a0_1 : Int) (a0_2 : Int) (a0_3 : Int) (a0_4 : Int) (a0_5 : Int) : Option (Bool) := if a0_0 < 1 then (some false) else (if a0_0 > 16 then (some false) else (if a0_2 < 1 then (some false) else (if a0_2 > 16 then (some false) else (if a0_1 < 2 then (some false) else (if a0_1 > 128 then (some false) else (if (wrap64 (2 * a0_2)) = 0 then (none) else (if (Int.tmod a0_1 (wrap64 (2 * a0_2))) = 0 then (if a0_3 ≥ 1 then (if a0_3 ≤ 256 then (if a0_4 ≥ 1 then (if a0_4 ≤ 512 then (if a0_5 ≥ 1 then (some (decide (a0_5 ≤ 256))) else (some false)) else (some false)) else (some false)) else (some false)) else (some false)) else (some false))))))))
set_option maxHeartbeats 8000000 in
set_option maxRecDepth 100000 in
theorem pelotonref07_Right.calls (a0_0 : Int) (a0_1 : Int) (a0_2 : Int) (a0_3 : Int) (a0_4 : Int) (a0_5 : Int) (r : Bool) (w : World) (h : pelotonref07_Right.f a0_0 a0_1 a0_2 a0_3 a0_4 a0_5 = some r) :
  Calls Try.prog 21 #[.agg #[.int .i64 a0_0, .int .i64 a0_1, .int .i64 a0_2, .int .i64 a0_3, .int .i64 a0_4, .int .i64 a0_5]] w fun e w' => e = .returned (.bool r) ∧ Below w.heap.size w w' := by
 have hu23 := Try.underlying23
 have HB := Aside0.mk (Below.refl w.heap.size w)
 have H : (if a0_0 < 1 then (some false) else (if a0_0 > 16 then (some false) else (if a0_2 < 1 then (some false) else (if a0_2 > 16 then (some false) else (if a0_1 < 2 then (some false) else (if a0_1 > 128 then (some false) else (if (wrap64 (2 * a0_2)) = 0 then (none) else (if (Int.tmod a0_1 (wrap64 (2 * a0_2))) = 0 then (if a0_3 ≥ 1 then (if a0_3 ≤ 256 then (if a0_4 ≥ 1 then (if a0_4 ≤ 512 then (if a0_5 ≥ 1 then (some (decide (a0_5 ≤ 256))) else (some false)) else (some false)) else (some false)) else (some false)) else (some false)) else (some false))))))))) = some r := h
 clear h
 by_cases c2 : a0_0 < 1
 ·
  rw [if_pos c2] at H
  have c2b0 : decide (a0_0 < 1) = true := decide_eq_true c2
  clear c2
  obtain rfl := Option.some.inj H
  go_enter Try.func21, Try.ntmps21
  go_wp2_with (first | ((with_reducible refine gate_dst (N := 1) rfl ?_); refine box_event ?hg (N := 1) ?hd (cs := #[.int .i64 a0_0, .int .i64 a0_1, .int .i64 a0_2, .int .i64 a0_3, .int .i64 a0_4, .int .i64 a0_5]) (t := 23) ?hr ?_; (case hd => rfl); (case hg => rfl); (case hr => first | (go_simp; done) | (go_simp; rfl)); intro gb147 hg w3 hbox hb; have n0_ := Aside0.mk (below_step (by repeat (first | (with_reducible first | exact HB.out | apply b_a | apply b_n | apply b_d) | exact HB.out)) hb); have n1_ := Aside0.mk (hbox); have n2_ := Aside0.mk ((by rw [hg]; exact (below_size (by repeat (first | (with_reducible first | exact HB.out | apply b_a | apply b_n | apply b_d) | exact HB.out))) : w.heap.size ≤ gb147)); have n3_ := Aside0.mk ((by rw [hg]; exact (below_size (by repeat (first | (with_reducible first | exact HB.out | apply b_a | apply b_n | apply b_d) | exact HB.out))) : w.heap.size ≤ gb147)); clear HB; have HB := n0_; have BK147 := n1_; have GW147 := n2_; have GE147 := n3_; clear n0_ n1_ n2_ n3_; clear hb hbox hg; have hcz4_0 : w3.cell? ⟨gb147, 0, none⟩ = some (.int .i64 a0_0) := (blk_cell BK147.out 0).trans rfl; have hcz4_1 : w3.cell? ⟨gb147, 1, none⟩ = some (.int .i64 a0_1) := (blk_cell BK147.out 1).trans rfl; have hcz4_2 : w3.cell? ⟨gb147, 2, none⟩ = some (.int .i64 a0_2) := (blk_cell BK147.out 2).trans rfl; have hcz4_3 : w3.cell? ⟨gb147, 3, none⟩ = some (.int .i64 a0_3) := (blk_cell BK147.out 3).trans rfl; have hcz4_4 : w3.cell? ⟨gb147, 4, none⟩ = some (.int .i64 a0_4) := (blk_cell BK147.out 4).trans rfl; have hcz4_5 : w3.cell? ⟨gb147, 5, none⟩ = some (.int .i64 a0_5) := (blk_cell BK147.out 5).trans rfl; have hfz4_0 := blk_frozen BK147.out 0; have hfz4_1 := blk_frozen BK147.out 1; have hfz4_2 := blk_frozen BK147.out 2; have hfz4_3 := blk_frozen BK147.out 3; have hfz4_4 := blk_frozen BK147.out 4; have hfz4_5 := blk_frozen BK147.out 5))
  go_ret
  exact ⟨by first | rfl | (simp [errW_none, errW_some] <;> rfl) | (simp [*, errW_none, errW_some] <;> rfl), by repeat (first | (with_reducible first | exact HB.out | apply b_a | apply b_n | apply b_d | refine b_s ?_ GE147.out) | exact HB.out)⟩
 rw [if_neg c2] at H
 have c2b0 : decide (a0_0 < 1) = false := decide_eq_false c2
 clear c2
 by_cases c5 : a0_0 > 16
 ·
  rw [if_pos c5] at H
  have c5b0 : decide (16 < a0_0) = true := decide_eq_true c5
  clear c5
  obtain rfl := Option.some.inj H
  go_enter Try.func21, Try.ntmps21
  go_wp2_with (first | ((with_reducible refine gate_dst (N := 1) rfl ?_); refine box_event ?hg (N := 1) ?hd (cs := #[.int .i64 a0_0, .int .i64 a0_1, .int .i64 a0_2, .int .i64 a0_3, .int .i64 a0_4, .int .i64 a0_5]) (t := 23) ?hr ?_; (case hd => rfl); (case hg => rfl); (case hr => first | (go_simp; done) | (go_simp; rfl)); intro gb147 hg w6 hbox hb; have n0_ := Aside0.mk (below_step (by repeat (first | (with_reducible first | exact HB.out | apply b_a | apply b_n | apply b_d) | exact HB.out)) hb); have n1_ := Aside0.mk (hbox); have n2_ := Aside0.mk ((by rw [hg]; exact (below_size (by repeat (first | (with_reducible first | exact HB.out | apply b_a | apply b_n | apply b_d) | exact HB.out))) : w.heap.size ≤ gb147)); have n3_ := Aside0.mk ((by rw [hg]; exact (below_size (by repeat (first | (with_reducible first | exact HB.out | apply b_a | apply b_n | apply b_d) | exact HB.out))) : w.heap.size ≤ gb147)); clear HB; have HB := n0_; have BK147 := n1_; have GW147 := n2_; have GE147 := n3_; clear n0_ n1_ n2_ n3_; clear hb hbox hg; have hcz7_0 : w6.cell? ⟨gb147, 0, none⟩ = some (.int .i64 a0_0) := (blk_cell BK147.out 0).trans rfl; have hcz7_1 : w6.cell? ⟨gb147, 1, none⟩ = some (.int .i64 a0_1) := (blk_cell BK147.out 1).trans rfl; have hcz7_2 : w6.cell? ⟨gb147, 2, none⟩ = some (.int .i64 a0_2) := (blk_cell BK147.out 2).trans rfl; have hcz7_3 : w6.cell? ⟨gb147, 3, none⟩ = some (.int .i64 a0_3) := (blk_cell BK147.out 3).trans rfl; have hcz7_4 : w6.cell? ⟨gb147, 4, none⟩ = some (.int .i64 a0_4) := (blk_cell BK147.out 4).trans rfl; have hcz7_5 : w6.cell? ⟨gb147, 5, none⟩ = some (.int .i64 a0_5) := (blk_cell BK147.out 5).trans rfl; have hfz7_0 := blk_frozen BK147.out 0; have hfz7_1 := blk_frozen BK147.out 1; have hfz7_2 := blk_frozen BK147.out 2; have hfz7_3 := blk_frozen BK147.out 3; have hfz7_4 := blk_frozen BK147.out 4; have hfz7_5 := blk_frozen BK147.out 5))
  go_ret
  exact ⟨by first | rfl | (simp [errW_none, errW_some] <;> rfl) | (simp [*, errW_none, errW_some] <;> rfl), by repeat (first | (with_reducible first | exact HB.out | apply b_a | apply b_n | apply b_d | refine b_s ?_ GE147.out) | exact HB.out)⟩
 rw [if_neg c5] at H
 have c5b0 : decide (16 < a0_0) = false := decide_eq_false c5
 clear c5
 by_cases c8 : a0_2 < 1
 ·
  rw [if_pos c8] at H
  have c8b0 : decide (a0_2 < 1) = true := decide_eq_true c8
  clear c8
  obtain rfl := Option.some.inj H
  go_enter Try.func21, Try.ntmps21
  go_wp2_with (first | ((with_reducible refine gate_dst (N := 1) rfl ?_); refine box_event ?hg (N := 1) ?hd (cs := #[.int .i64 a0_0, .int .i64 a0_1, .int .i64 a0_2, .int .i64 a0_3, .int .i64 a0_4, .int .i64 a0_5]) (t := 23) ?hr ?_; (case hd => rfl); (case hg => rfl); (case hr => first | (go_simp; done) | (go_simp; rfl)); intro gb147 hg w9 hbox hb; have n0_ := Aside0.mk (below_step (by repeat (first | (with_reducible first | exact HB.out | apply b_a | apply b_n | apply b_d) | exact HB.out)) hb); have n1_ := Aside0.mk (hbox); have n2_ := Aside0.mk ((by rw [hg]; exact (below_size (by repeat (first | (with_reducible first | exact HB.out | apply b_a | apply b_n | apply b_d) | exact HB.out))) : w.heap.size ≤ gb147)); have n3_ := Aside0.mk ((by rw [hg]; exact (below_size (by repeat (first | (with_reducible first | exact HB.out | apply b_a | apply b_n | apply b_d) | exact HB.out))) : w.heap.size ≤ gb147)); clear HB; have HB := n0_; have BK147 := n1_; have GW147 := n2_; have GE147 := n3_; clear n0_ n1_ n2_ n3_; clear hb hbox hg; have hcz10_0 : w9.cell? ⟨gb147, 0, none⟩ = some (.int .i64 a0_0) := (blk_cell BK147.out 0).trans rfl; have hcz10_1 : w9.cell? ⟨gb147, 1, none⟩ = some (.int .i64 a0_1) := (blk_cell BK147.out 1).trans rfl; have hcz10_2 : w9.cell? ⟨gb147, 2, none⟩ = some (.int .i64 a0_2) := (blk_cell BK147.out 2).trans rfl; have hcz10_3 : w9.cell? ⟨gb147, 3, none⟩ = some (.int .i64 a0_3) := (blk_cell BK147.out 3).trans rfl; have hcz10_4 : w9.cell? ⟨gb147, 4, none⟩ = some (.int .i64 a0_4) := (blk_cell BK147.out 4).trans rfl; have hcz10_5 : w9.cell? ⟨gb147, 5, none⟩ = some (.int .i64 a0_5) := (blk_cell BK147.out 5).trans rfl; have hfz10_0 := blk_frozen BK147.out 0; have hfz10_1 := blk_frozen BK147.out 1; have hfz10_2 := blk_frozen BK147.out 2; have hfz10_3 := blk_frozen BK147.out 3; have hfz10_4 := blk_frozen BK147.out 4; have hfz10_5 := blk_frozen BK147.out 5))
  go_ret
  exact ⟨by first | rfl | (simp [errW_none, errW_some] <;> rfl) | (simp [*, errW_none, errW_some] <;> rfl), by repeat (first | (with_reducible first | exact HB.out | apply b_a | apply b_n | apply b_d | refine b_s ?_ GE147.out) | exact HB.out)⟩
 rw [if_neg c8] at H
 have c8b0 : decide (a0_2 < 1) = false := decide_eq_false c8
 clear c8
 by_cases c11 : a0_2 > 16
 ·
  rw [if_pos c11] at H
  have c11b0 : decide (16 < a0_2) = true := decide_eq_true c11
  clear c11
  obtain rfl := Option.some.inj H
  go_enter Try.func21, Try.ntmps21
  go_wp2_with (first | ((with_reducible refine gate_dst (N := 1) rfl ?_); refine box_event ?hg (N := 1) ?hd (cs := #[.int .i64 a0_0, .int .i64 a0_1, .int .i64 a0_2, .int .i64 a0_3, .int .i64 a0_4, .int .i64 a0_5]) (t := 23) ?hr ?_; (case hd => rfl); (case hg => rfl); (case hr => first | (go_simp; done) | (go_simp; rfl)); intro gb147 hg w12 hbox hb; have n0_ := Aside0.mk (below_step (by repeat (first | (with_reducible first | exact HB.out | apply b_a | apply b_n | apply b_d) | exact HB.out)) hb); have n1_ := Aside0.mk (hbox); have n2_ := Aside0.mk ((by rw [hg]; exact (below_size (by repeat (first | (with_reducible first | exact HB.out | apply b_a | apply b_n | apply b_d) | exact HB.out))) : w.heap.size ≤ gb147)); have n3_ := Aside0.mk ((by rw [hg]; exact (below_size (by repeat (first | (with_reducible first | exact HB.out | apply b_a | apply b_n | apply b_d) | exact HB.out))) : w.heap.size ≤ gb147)); clear HB; have HB := n0_; have BK147 := n1_; have GW147 := n2_; have GE147 := n3_; clear n0_ n1_ n2_ n3_; clear hb hbox hg; have hcz13_0 : w12.cell? ⟨gb147, 0, none⟩ = some (.int .i64 a0_0) := (blk_cell BK147.out 0).trans rfl; have hcz13_1 : w12.cell? ⟨gb147, 1, none⟩ = some (.int .i64 a0_1) := (blk_cell BK147.out 1).trans rfl; have hcz13_2 : w12.cell? ⟨gb147, 2, none⟩ = some (.int .i64 a0_2) := (blk_cell BK147.out 2).trans rfl; have hcz13_3 : w12.cell? ⟨gb147, 3, none⟩ = some (.int .i64 a0_3) := (blk_cell BK147.out 3).trans rfl; have hcz13_4 : w12.cell? ⟨gb147, 4, none⟩ = some (.int .i64 a0_4) := (blk_cell BK147.out 4).trans rfl; have hcz13_5 : w12.cell? ⟨gb147, 5, none⟩ = some (.int .i64 a0_5) := (blk_cell BK147.out 5).trans rfl; have hfz13_0 := blk_frozen BK147.out 0; have hfz13_1 := blk_frozen BK147.out 1; have hfz13_2 := blk_frozen BK147.out 2; have hfz13_3 := blk_frozen BK147.out 3; have hfz13_4 := blk_frozen BK147.out 4; have hfz13_5 := blk_frozen BK147.out 5))
  go_ret
  exact ⟨by first | rfl | (simp [errW_none, errW_some] <;> rfl) | (simp [*, errW_none, errW_some] <;> rfl), by repeat (first | (with_reducible first | exact HB.out | apply b_a | apply b_n | apply b_d | refine b_s ?_ GE147.out) | exact HB.out)⟩
 rw [if_neg c11] at H
 have c11b0 : decide (16 < a0_2) = false := decide_eq_false c11
 clear c11
 by_cases c14 : a0_1 < 2
 ·
  rw [if_pos c14] at H
  have c14b0 : decide (a0_1 < 2) = true := decide_eq_true c14
  clear c14
  obtain rfl := Option.some.inj H
  go_enter Try.func21, Try.ntmps21
  go_wp2_with (first | ((with_reducible refine gate_dst (N := 1) rfl ?_); refine box_event ?hg (N := 1) ?hd (cs := #[.int .i64 a0_0, .int .i64 a0_1, .int .i64 a0_2, .int .i64 a0_3, .int .i64 a0_4, .int .i64 a0_5]) (t := 23) ?hr ?_; (case hd => rfl); (case hg => rfl); (case hr => first | (go_simp; done) | (go_simp; rfl)); intro gb147 hg w15 hbox hb; have n0_ := Aside0.mk (below_step (by repeat (first | (with_reducible first | exact HB.out | apply b_a | apply b_n | apply b_d) | exact HB.out)) hb); have n1_ := Aside0.mk (hbox); have n2_ := Aside0.mk ((by rw [hg]; exact (below_size (by repeat (first | (with_reducible first | exact HB.out | apply b_a | apply b_n | apply b_d) | exact HB.out))) : w.heap.size ≤ gb147)); have n3_ := Aside0.mk ((by rw [hg]; exact (below_size (by repeat (first | (with_reducible first | exact HB.out | apply b_a | apply b_n | apply b_d) | exact HB.out))) : w.heap.size ≤ gb147)); clear HB; have HB := n0_; have BK147 := n1_; have GW147 := n2_; have GE147 := n3_; clear n0_ n1_ n2_ n3_; clear hb hbox hg; have hcz16_0 : w15.cell? ⟨gb147, 0, none⟩ = some (.int .i64 a0_0) := (blk_cell BK147.out 0).trans rfl; have hcz16_1 : w15.cell? ⟨gb147, 1, none⟩ = some (.int .i64 a0_1) := (blk_cell BK147.out 1).trans rfl; have hcz16_2 : w15.cell? ⟨gb147, 2, none⟩ = some (.int .i64 a0_2) := (blk_cell BK147.out 2).trans rfl; have hcz16_3 : w15.cell? ⟨gb147, 3, none⟩ = some (.int .i64 a0_3) := (blk_cell BK147.out 3).trans rfl; have hcz16_4 : w15.cell? ⟨gb147, 4, none⟩ = some (.int .i64 a0_4) := (blk_cell BK147.out 4).trans rfl; have hcz16_5 : w15.cell? ⟨gb147, 5, none⟩ = some (.int .i64 a0_5) := (blk_cell BK147.out 5).trans rfl; have hfz16_0 := blk_frozen BK147.out 0; have hfz16_1 := blk_frozen BK147.out 1; have hfz16_2 := blk_frozen BK147.out 2; have hfz16_3 := blk_frozen BK147.out 3; have hfz16_4 := blk_frozen BK147.out 4; have hfz16_5 := blk_frozen BK147.out 5))
  go_ret
  exact ⟨by first | rfl | (simp [errW_none, errW_some] <;> rfl) | (simp [*, errW_none, errW_some] <;> rfl), by repeat (first | (with_reducible first | exact HB.out | apply b_a | apply b_n | apply b_d | refine b_s ?_ GE147.out) | exact HB.out)⟩
 rw [if_neg c14] at H
 have c14b0 : decide (a0_1 < 2) = false := decide_eq_false c14
 clear c14
 by_cases c17 : a0_1 > 128
 ·
  rw [if_pos c17] at H
  have c17b0 : decide (128 < a0_1) = true := decide_eq_true c17
  clear c17
  obtain rfl := Option.some.inj H
  go_enter Try.func21, Try.ntmps21
  go_wp2_with (first | ((with_reducible refine gate_dst (N := 1) rfl ?_); refine box_event ?hg (N := 1) ?hd (cs := #[.int .i64 a0_0, .int .i64 a0_1, .int .i64 a0_2, .int .i64 a0_3, .int .i64 a0_4, .int .i64 a0_5]) (t := 23) ?hr ?_; (case hd => rfl); (case hg => rfl); (case hr => first | (go_simp; done) | (go_simp; rfl)); intro gb147 hg w18 hbox hb; have n0_ := Aside0.mk (below_step (by repeat (first | (with_reducible first | exact HB.out | apply b_a | apply b_n | apply b_d) | exact HB.out)) hb); have n1_ := Aside0.mk (hbox); have n2_ := Aside0.mk ((by rw [hg]; exact (below_size (by repeat (first | (with_reducible first | exact HB.out | apply b_a | apply b_n | apply b_d) | exact HB.out))) : w.heap.size ≤ gb147)); have n3_ := Aside0.mk ((by rw [hg]; exact (below_size (by repeat (first | (with_reducible first | exact HB.out | apply b_a | apply b_n | apply b_d) | exact HB.out))) : w.heap.size ≤ gb147)); clear HB; have HB := n0_; have BK147 := n1_; have GW147 := n2_; have GE147 := n3_; clear n0_ n1_ n2_ n3_; clear hb hbox hg; have hcz19_0 : w18.cell? ⟨gb147, 0, none⟩ = some (.int .i64 a0_0) := (blk_cell BK147.out 0).trans rfl; have hcz19_1 : w18.cell? ⟨gb147, 1, none⟩ = some (.int .i64 a0_1) := (blk_cell BK147.out 1).trans rfl; have hcz19_2 : w18.cell? ⟨gb147, 2, none⟩ = some (.int .i64 a0_2) := (blk_cell BK147.out 2).trans rfl; have hcz19_3 : w18.cell? ⟨gb147, 3, none⟩ = some (.int .i64 a0_3) := (blk_cell BK147.out 3).trans rfl; have hcz19_4 : w18.cell? ⟨gb147, 4, none⟩ = some (.int .i64 a0_4) := (blk_cell BK147.out 4).trans rfl; have hcz19_5 : w18.cell? ⟨gb147, 5, none⟩ = some (.int .i64 a0_5) := (blk_cell BK147.out 5).trans rfl; have hfz19_0 := blk_frozen BK147.out 0; have hfz19_1 := blk_frozen BK147.out 1; have hfz19_2 := blk_frozen BK147.out 2; have hfz19_3 := blk_frozen BK147.out 3; have hfz19_4 := blk_frozen BK147.out 4; have hfz19_5 := blk_frozen BK147.out 5))
  go_ret
  exact ⟨by first | rfl | (simp [errW_none, errW_some] <;> rfl) | (simp [*, errW_none, errW_some] <;> rfl), by repeat (first | (with_reducible first | exact HB.out | apply b_a | apply b_n | apply b_d | refine b_s ?_ GE147.out) | exact HB.out)⟩
 rw [if_neg c17] at H
 have c17b0 : decide (128 < a0_1) = false := decide_eq_false c17
 clear c17
 by_cases c20 : (wrap64 (2 * a0_2)) = 0
 ·
  rw [if_pos c20] at H
  exact absurd H (by simp)
 rw [if_neg c20] at H
 have c20b0 : ((wrap64 (2 * a0_2)) == 0) = false := beq_eq_false_iff_ne.mpr c20
 have c20b1 : ((wrap64 (2 * a0_2)) != 0) = true := bne_iff_ne.mpr c20
 by_cases c21 : (Int.tmod a0_1 (wrap64 (2 * a0_2))) = 0
 rotate_left
 ·
  rw [if_neg c21] at H
  have c21b0 : ((Int.tmod a0_1 (wrap64 (2 * a0_2))) == 0) = false := beq_eq_false_iff_ne.mpr c21
  have c21b1 : ((Int.tmod a0_1 (wrap64 (2 * a0_2))) != 0) = true := bne_iff_ne.mpr c21
  obtain rfl := Option.some.inj H
  go_enter Try.func21, Try.ntmps21
  go_wp2_with (first | ((with_reducible refine gate_dst (N := 1) rfl ?_); refine box_event ?hg (N := 1) ?hd (cs := #[.int .i64 a0_0, .int .i64 a0_1, .int .i64 a0_2, .int .i64 a0_3, .int .i64 a0_4, .int .i64 a0_5]) (t := 23) ?hr ?_; (case hd => rfl); (case hg => rfl); (case hr => first | (go_simp; done) | (go_simp; rfl)); intro gb147 hg w39 hbox hb; have n0_ := Aside0.mk (below_step (by repeat (first | (with_reducible first | exact HB.out | apply b_a | apply b_n | apply b_d) | exact HB.out)) hb); have n1_ := Aside0.mk (hbox); have n2_ := Aside0.mk ((by rw [hg]; exact (below_size (by repeat (first | (with_reducible first | exact HB.out | apply b_a | apply b_n | apply b_d) | exact HB.out))) : w.heap.size ≤ gb147)); have n3_ := Aside0.mk ((by rw [hg]; exact (below_size (by repeat (first | (with_reducible first | exact HB.out | apply b_a | apply b_n | apply b_d) | exact HB.out))) : w.heap.size ≤ gb147)); clear HB; have HB := n0_; have BK147 := n1_; have GW147 := n2_; have GE147 := n3_; clear n0_ n1_ n2_ n3_; clear hb hbox hg; have hcz40_0 : w39.cell? ⟨gb147, 0, none⟩ = some (.int .i64 a0_0) := (blk_cell BK147.out 0).trans rfl; have hcz40_1 : w39.cell? ⟨gb147, 1, none⟩ = some (.int .i64 a0_1) := (blk_cell BK147.out 1).trans rfl; have hcz40_2 : w39.cell? ⟨gb147, 2, none⟩ = some (.int .i64 a0_2) := (blk_cell BK147.out 2).trans rfl; have hcz40_3 : w39.cell? ⟨gb147, 3, none⟩ = some (.int .i64 a0_3) := (blk_cell BK147.out 3).trans rfl; have hcz40_4 : w39.cell? ⟨gb147, 4, none⟩ = some (.int .i64 a0_4) := (blk_cell BK147.out 4).trans rfl; have hcz40_5 : w39.cell? ⟨gb147, 5, none⟩ = some (.int .i64 a0_5) := (blk_cell BK147.out 5).trans rfl; have hfz40_0 := blk_frozen BK147.out 0; have hfz40_1 := blk_frozen BK147.out 1; have hfz40_2 := blk_frozen BK147.out 2; have hfz40_3 := blk_frozen BK147.out 3; have hfz40_4 := blk_frozen BK147.out 4; have hfz40_5 := blk_frozen BK147.out 5))
  go_ret
  exact ⟨by first | rfl | (simp [errW_none, errW_some] <;> rfl) | (simp [*, errW_none, errW_some] <;> rfl), by repeat (first | (with_reducible first | exact HB.out | apply b_a | apply b_n | apply b_d | refine b_s ?_ GE147.out) | exact HB.out)⟩

 rw [if_pos c21] at H
 have c21b0 : ((Int.tmod a0_1 (wrap64 (2 * a0_2))) == 0) = true := beq_iff_eq.mpr c21
 have c21b1 : ((Int.tmod a0_1 (wrap64 (2 * a0_2))) != 0) = false := bne_eq_false_iff_eq.mpr c21
 clear c21
 by_cases c22 : a0_3 ≥ 1
 rotate_left
 ·
  rw [if_neg c22] at H
  have c22b0 : decide (1 ≤ a0_3) = false := decide_eq_false c22
  clear c22
  obtain rfl := Option.some.inj H
  go_enter Try.func21, Try.ntmps21
  go_wp2_with (first | ((with_reducible refine gate_dst (N := 1) rfl ?_); refine box_event ?hg (N := 1) ?hd (cs := #[.int .i64 a0_0, .int .i64 a0_1, .int .i64 a0_2, .int .i64 a0_3, .int .i64 a0_4, .int .i64 a0_5]) (t := 23) ?hr ?_; (case hd => rfl); (case hg => rfl); (case hr => first | (go_simp; done) | (go_simp; rfl)); intro gb147 hg w37 hbox hb; have n0_ := Aside0.mk (below_step (by repeat (first | (with_reducible first | exact HB.out | apply b_a | apply b_n | apply b_d) | exact HB.out)) hb); have n1_ := Aside0.mk (hbox); have n2_ := Aside0.mk ((by rw [hg]; exact (below_size (by repeat (first | (with_reducible first | exact HB.out | apply b_a | apply b_n | apply b_d) | exact HB.out))) : w.heap.size ≤ gb147)); have n3_ := Aside0.mk ((by rw [hg]; exact (below_size (by repeat (first | (with_reducible first | exact HB.out | apply b_a | apply b_n | apply b_d) | exact HB.out))) : w.heap.size ≤ gb147)); clear HB; have HB := n0_; have BK147 := n1_; have GW147 := n2_; have GE147 := n3_; clear n0_ n1_ n2_ n3_; clear hb hbox hg; have hcz38_0 : w37.cell? ⟨gb147, 0, none⟩ = some (.int .i64 a0_0) := (blk_cell BK147.out 0).trans rfl; have hcz38_1 : w37.cell? ⟨gb147, 1, none⟩ = some (.int .i64 a0_1) := (blk_cell BK147.out 1).trans rfl; have hcz38_2 : w37.cell? ⟨gb147, 2, none⟩ = some (.int .i64 a0_2) := (blk_cell BK147.out 2).trans rfl; have hcz38_3 : w37.cell? ⟨gb147, 3, none⟩ = some (.int .i64 a0_3) := (blk_cell BK147.out 3).trans rfl; have hcz38_4 : w37.cell? ⟨gb147, 4, none⟩ = some (.int .i64 a0_4) := (blk_cell BK147.out 4).trans rfl; have hcz38_5 : w37.cell? ⟨gb147, 5, none⟩ = some (.int .i64 a0_5) := (blk_cell BK147.out 5).trans rfl; have hfz38_0 := blk_frozen BK147.out 0; have hfz38_1 := blk_frozen BK147.out 1; have hfz38_2 := blk_frozen BK147.out 2; have hfz38_3 := blk_frozen BK147.out 3; have hfz38_4 := blk_frozen BK147.out 4; have hfz38_5 := blk_frozen BK147.out 5))
  go_ret
  exact ⟨by first | rfl | (simp [errW_none, errW_some] <;> rfl) | (simp [*, errW_none, errW_some] <;> rfl), by repeat (first | (with_reducible first | exact HB.out | apply b_a | apply b_n | apply b_d | refine b_s ?_ GE147.out) | exact HB.out)⟩
 rw [if_pos c22] at H
 have c22b0 : decide (1 ≤ a0_3) = true := decide_eq_true c22
 clear c22
 by_cases c23 : a0_3 ≤ 256
 rotate_left
 ·
  rw [if_neg c23] at H
  have c23b0 : decide (a0_3 ≤ 256) = false := decide_eq_false c23
  clear c23
  obtain rfl := Option.some.inj H
  go_enter Try.func21, Try.ntmps21
  go_wp2_with (first | ((with_reducible refine gate_dst (N := 1) rfl ?_); refine box_event ?hg (N := 1) ?hd (cs := #[.int .i64 a0_0, .int .i64 a0_1, .int .i64 a0_2, .int .i64 a0_3, .int .i64 a0_4, .int .i64 a0_5]) (t := 23) ?hr ?_; (case hd => rfl); (case hg => rfl); (case hr => first | (go_simp; done) | (go_simp; rfl)); intro gb147 hg w35 hbox hb; have n0_ := Aside0.mk (below_step (by repeat (first | (with_reducible first | exact HB.out | apply b_a | apply b_n | apply b_d) | exact HB.out)) hb); have n1_ := Aside0.mk (hbox); have n2_ := Aside0.mk ((by rw [hg]; exact (below_size (by repeat (first | (with_reducible first | exact HB.out | apply b_a | apply b_n | apply b_d) | exact HB.out))) : w.heap.size ≤ gb147)); have n3_ := Aside0.mk ((by rw [hg]; exact (below_size (by repeat (first | (with_reducible first | exact HB.out | apply b_a | apply b_n | apply b_d) | exact HB.out))) : w.heap.size ≤ gb147)); clear HB; have HB := n0_; have BK147 := n1_; have GW147 := n2_; have GE147 := n3_; clear n0_ n1_ n2_ n3_; clear hb hbox hg; have hcz36_0 : w35.cell? ⟨gb147, 0, none⟩ = some (.int .i64 a0_0) := (blk_cell BK147.out 0).trans rfl; have hcz36_1 : w35.cell? ⟨gb147, 1, none⟩ = some (.int .i64 a0_1) := (blk_cell BK147.out 1).trans rfl; have hcz36_2 : w35.cell? ⟨gb147, 2, none⟩ = some (.int .i64 a0_2) := (blk_cell BK147.out 2).trans rfl; have hcz36_3 : w35.cell? ⟨gb147, 3, none⟩ = some (.int .i64 a0_3) := (blk_cell BK147.out 3).trans rfl; have hcz36_4 : w35.cell? ⟨gb147, 4, none⟩ = some (.int .i64 a0_4) := (blk_cell BK147.out 4).trans rfl; have hcz36_5 : w35.cell? ⟨gb147, 5, none⟩ = some (.int .i64 a0_5) := (blk_cell BK147.out 5).trans rfl; have hfz36_0 := blk_frozen BK147.out 0; have hfz36_1 := blk_frozen BK147.out 1; have hfz36_2 := blk_frozen BK147.out 2; have hfz36_3 := blk_frozen BK147.out 3; have hfz36_4 := blk_frozen BK147.out 4; have hfz36_5 := blk_frozen BK147.out 5))
  go_ret
  exact ⟨by first | rfl | (simp [errW_none, errW_some] <;> rfl) | (simp [*, errW_none, errW_some] <;> rfl), by repeat (first | (with_reducible first | exact HB.out | apply b_a | apply b_n | apply b_d | refine b_s ?_ GE147.out) | exact HB.out)⟩
 rw [if_pos c23] at H
 have c23b0 : decide (a0_3 ≤ 256) = true := decide_eq_true c23
 clear c23
 by_cases c24 : a0_4 ≥ 1
 rotate_left
 ·
  rw [if_neg c24] at H
  have c24b0 : decide (1 ≤ a0_4) = false := decide_eq_false c24
  clear c24
  obtain rfl := Option.some.inj H
  go_enter Try.func21, Try.ntmps21
  go_wp2_with (first | ((with_reducible refine gate_dst (N := 1) rfl ?_); refine box_event ?hg (N := 1) ?hd (cs := #[.int .i64 a0_0, .int .i64 a0_1, .int .i64 a0_2, .int .i64 a0_3, .int .i64 a0_4, .int .i64 a0_5]) (t := 23) ?hr ?_; (case hd => rfl); (case hg => rfl); (case hr => first | (go_simp; done) | (go_simp; rfl)); intro gb147 hg w33 hbox hb; have n0_ := Aside0.mk (below_step (by repeat (first | (with_reducible first | exact HB.out | apply b_a | apply b_n | apply b_d) | exact HB.out)) hb); have n1_ := Aside0.mk (hbox); have n2_ := Aside0.mk ((by rw [hg]; exact (below_size (by repeat (first | (with_reducible first | exact HB.out | apply b_a | apply b_n | apply b_d) | exact HB.out))) : w.heap.size ≤ gb147)); have n3_ := Aside0.mk ((by rw [hg]; exact (below_size (by repeat (first | (with_reducible first | exact HB.out | apply b_a | apply b_n | apply b_d) | exact HB.out))) : w.heap.size ≤ gb147)); clear HB; have HB := n0_; have BK147 := n1_; have GW147 := n2_; have GE147 := n3_; clear n0_ n1_ n2_ n3_; clear hb hbox hg; have hcz34_0 : w33.cell? ⟨gb147, 0, none⟩ = some (.int .i64 a0_0) := (blk_cell BK147.out 0).trans rfl; have hcz34_1 : w33.cell? ⟨gb147, 1, none⟩ = some (.int .i64 a0_1) := (blk_cell BK147.out 1).trans rfl; have hcz34_2 : w33.cell? ⟨gb147, 2, none⟩ = some (.int .i64 a0_2) := (blk_cell BK147.out 2).trans rfl; have hcz34_3 : w33.cell? ⟨gb147, 3, none⟩ = some (.int .i64 a0_3) := (blk_cell BK147.out 3).trans rfl; have hcz34_4 : w33.cell? ⟨gb147, 4, none⟩ = some (.int .i64 a0_4) := (blk_cell BK147.out 4).trans rfl; have hcz34_5 : w33.cell? ⟨gb147, 5, none⟩ = some (.int .i64 a0_5) := (blk_cell BK147.out 5).trans rfl; have hfz34_0 := blk_frozen BK147.out 0; have hfz34_1 := blk_frozen BK147.out 1; have hfz34_2 := blk_frozen BK147.out 2; have hfz34_3 := blk_frozen BK147.out 3; have hfz34_4 := blk_frozen BK147.out 4; have hfz34_5 := blk_frozen BK147.out 5))
  go_ret
  exact ⟨by first | rfl | (simp [errW_none, errW_some] <;> rfl) | (simp [*, errW_none, errW_some] <;> rfl), by repeat (first | (with_reducible first | exact HB.out | apply b_a | apply b_n | apply b_d | refine b_s ?_ GE147.out) | exact HB.out)⟩
 rw [if_pos c24] at H
 have c24b0 : decide (1 ≤ a0_4) = true := decide_eq_true c24
 clear c24
 by_cases c25 : a0_4 ≤ 512
 rotate_left
 ·
  rw [if_neg c25] at H
  have c25b0 : decide (a0_4 ≤ 512) = false := decide_eq_false c25
  clear c25
  obtain rfl := Option.some.inj H
  go_enter Try.func21, Try.ntmps21
  go_wp2_with (first | ((with_reducible refine gate_dst (N := 1) rfl ?_); refine box_event ?hg (N := 1) ?hd (cs := #[.int .i64 a0_0, .int .i64 a0_1, .int .i64 a0_2, .int .i64 a0_3, .int .i64 a0_4, .int .i64 a0_5]) (t := 23) ?hr ?_; (case hd => rfl); (case hg => rfl); (case hr => first | (go_simp; done) | (go_simp; rfl)); intro gb147 hg w31 hbox hb; have n0_ := Aside0.mk (below_step (by repeat (first | (with_reducible first | exact HB.out | apply b_a | apply b_n | apply b_d) | exact HB.out)) hb); have n1_ := Aside0.mk (hbox); have n2_ := Aside0.mk ((by rw [hg]; exact (below_size (by repeat (first | (with_reducible first | exact HB.out | apply b_a | apply b_n | apply b_d) | exact HB.out))) : w.heap.size ≤ gb147)); have n3_ := Aside0.mk ((by rw [hg]; exact (below_size (by repeat (first | (with_reducible first | exact HB.out | apply b_a | apply b_n | apply b_d) | exact HB.out))) : w.heap.size ≤ gb147)); clear HB; have HB := n0_; have BK147 := n1_; have GW147 := n2_; have GE147 := n3_; clear n0_ n1_ n2_ n3_; clear hb hbox hg; have hcz32_0 : w31.cell? ⟨gb147, 0, none⟩ = some (.int .i64 a0_0) := (blk_cell BK147.out 0).trans rfl; have hcz32_1 : w31.cell? ⟨gb147, 1, none⟩ = some (.int .i64 a0_1) := (blk_cell BK147.out 1).trans rfl; have hcz32_2 : w31.cell? ⟨gb147, 2, none⟩ = some (.int .i64 a0_2) := (blk_cell BK147.out 2).trans rfl; have hcz32_3 : w31.cell? ⟨gb147, 3, none⟩ = some (.int .i64 a0_3) := (blk_cell BK147.out 3).trans rfl; have hcz32_4 : w31.cell? ⟨gb147, 4, none⟩ = some (.int .i64 a0_4) := (blk_cell BK147.out 4).trans rfl; have hcz32_5 : w31.cell? ⟨gb147, 5, none⟩ = some (.int .i64 a0_5) := (blk_cell BK147.out 5).trans rfl; have hfz32_0 := blk_frozen BK147.out 0; have hfz32_1 := blk_frozen BK147.out 1; have hfz32_2 := blk_frozen BK147.out 2; have hfz32_3 := blk_frozen BK147.out 3; have hfz32_4 := blk_frozen BK147.out 4; have hfz32_5 := blk_frozen BK147.out 5))
  go_ret
  exact ⟨by first | rfl | (simp [errW_none, errW_some] <;> rfl) | (simp [*, errW_none, errW_some] <;> rfl), by repeat (first | (with_reducible first | exact HB.out | apply b_a | apply b_n | apply b_d | refine b_s ?_ GE147.out) | exact HB.out)⟩
 rw [if_pos c25] at H
 have c25b0 : decide (a0_4 ≤ 512) = true := decide_eq_true c25
 clear c25
 by_cases c26 : a0_5 ≥ 1
 ·
  rw [if_pos c26] at H
  have c26b0 : decide (1 ≤ a0_5) = true := decide_eq_true c26
  clear c26
  obtain rfl := Option.some.inj H
  go_enter Try.func21, Try.ntmps21
  go_wp2_with (first | ((with_reducible refine gate_dst (N := 1) rfl ?_); refine box_event ?hg (N := 1) ?hd (cs := #[.int .i64 a0_0, .int .i64 a0_1, .int .i64 a0_2, .int .i64 a0_3, .int .i64 a0_4, .int .i64 a0_5]) (t := 23) ?hr ?_; (case hd => rfl); (case hg => rfl); (case hr => first | (go_simp; done) | (go_simp; rfl)); intro gb147 hg w27 hbox hb; have n0_ := Aside0.mk (below_step (by repeat (first | (with_reducible first | exact HB.out | apply b_a | apply b_n | apply b_d) | exact HB.out)) hb); have n1_ := Aside0.mk (hbox); have n2_ := Aside0.mk ((by rw [hg]; exact (below_size (by repeat (first | (with_reducible first | exact HB.out | apply b_a | apply b_n | apply b_d) | exact HB.out))) : w.heap.size ≤ gb147)); have n3_ := Aside0.mk ((by rw [hg]; exact (below_size (by repeat (first | (with_reducible first | exact HB.out | apply b_a | apply b_n | apply b_d) | exact HB.out))) : w.heap.size ≤ gb147)); clear HB; have HB := n0_; have BK147 := n1_; have GW147 := n2_; have GE147 := n3_; clear n0_ n1_ n2_ n3_; clear hb hbox hg; have hcz28_0 : w27.cell? ⟨gb147, 0, none⟩ = some (.int .i64 a0_0) := (blk_cell BK147.out 0).trans rfl; have hcz28_1 : w27.cell? ⟨gb147, 1, none⟩ = some (.int .i64 a0_1) := (blk_cell BK147.out 1).trans rfl; have hcz28_2 : w27.cell? ⟨gb147, 2, none⟩ = some (.int .i64 a0_2) := (blk_cell BK147.out 2).trans rfl; have hcz28_3 : w27.cell? ⟨gb147, 3, none⟩ = some (.int .i64 a0_3) := (blk_cell BK147.out 3).trans rfl; have hcz28_4 : w27.cell? ⟨gb147, 4, none⟩ = some (.int .i64 a0_4) := (blk_cell BK147.out 4).trans rfl; have hcz28_5 : w27.cell? ⟨gb147, 5, none⟩ = some (.int .i64 a0_5) := (blk_cell BK147.out 5).trans rfl; have hfz28_0 := blk_frozen BK147.out 0; have hfz28_1 := blk_frozen BK147.out 1; have hfz28_2 := blk_frozen BK147.out 2; have hfz28_3 := blk_frozen BK147.out 3; have hfz28_4 := blk_frozen BK147.out 4; have hfz28_5 := blk_frozen BK147.out 5))
  go_ret
  exact ⟨by first | rfl | (simp [errW_none, errW_some] <;> rfl) | (simp [*, errW_none, errW_some] <;> rfl), by repeat (first | (with_reducible first | exact HB.out | apply b_a | apply b_n | apply b_d | refine b_s ?_ GE147.out) | exact HB.out)⟩
 rw [if_neg c26] at H
 have c26b0 : decide (1 ≤ a0_5) = false := decide_eq_false c26
 clear c26
 obtain rfl := Option.some.inj H
 go_enter Try.func21, Try.ntmps21
 go_wp2_with (first | ((with_reducible refine gate_dst (N := 1) rfl ?_); refine box_event ?hg (N := 1) ?hd (cs := #[.int .i64 a0_0, .int .i64 a0_1, .int .i64 a0_2, .int .i64 a0_3, .int .i64 a0_4, .int .i64 a0_5]) (t := 23) ?hr ?_; (case hd => rfl); (case hg => rfl); (case hr => first | (go_simp; done) | (go_simp; rfl)); intro gb147 hg w29 hbox hb; have n0_ := Aside0.mk (below_step (by repeat (first | (with_reducible first | exact HB.out | apply b_a | apply b_n | apply b_d) | exact HB.out)) hb); have n1_ := Aside0.mk (hbox); have n2_ := Aside0.mk ((by rw [hg]; exact (below_size (by repeat (first | (with_reducible first | exact HB.out | apply b_a | apply b_n | apply b_d) | exact HB.out))) : w.heap.size ≤ gb147)); have n3_ := Aside0.mk ((by rw [hg]; exact (below_size (by repeat (first | (with_reducible first | exact HB.out | apply b_a | apply b_n | apply b_d) | exact HB.out))) : w.heap.size ≤ gb147)); clear HB; have HB := n0_; have BK147 := n1_; have GW147 := n2_; have GE147 := n3_; clear n0_ n1_ n2_ n3_; clear hb hbox hg; have hcz30_0 : w29.cell? ⟨gb147, 0, none⟩ = some (.int .i64 a0_0) := (blk_cell BK147.out 0).trans rfl; have hcz30_1 : w29.cell? ⟨gb147, 1, none⟩ = some (.int .i64 a0_1) := (blk_cell BK147.out 1).trans rfl; have hcz30_2 : w29.cell? ⟨gb147, 2, none⟩ = some (.int .i64 a0_2) := (blk_cell BK147.out 2).trans rfl; have hcz30_3 : w29.cell? ⟨gb147, 3, none⟩ = some (.int .i64 a0_3) := (blk_cell BK147.out 3).trans rfl; have hcz30_4 : w29.cell? ⟨gb147, 4, none⟩ = some (.int .i64 a0_4) := (blk_cell BK147.out 4).trans rfl; have hcz30_5 : w29.cell? ⟨gb147, 5, none⟩ = some (.int .i64 a0_5) := (blk_cell BK147.out 5).trans rfl; have hfz30_0 := blk_frozen BK147.out 0; have hfz30_1 := blk_frozen BK147.out 1; have hfz30_2 := blk_frozen BK147.out 2; have hfz30_3 := blk_frozen BK147.out 3; have hfz30_4 := blk_frozen BK147.out 4; have hfz30_5 := blk_frozen BK147.out 5))
 go_ret
 exact ⟨by first | rfl | (simp [errW_none, errW_some] <;> rfl) | (simp [*, errW_none, errW_some] <;> rfl), by repeat (first | (with_reducible first | exact HB.out | apply b_a | apply b_n | apply b_d | refine b_s ?_ GE147.out) | exact HB.out)⟩
/-! ### pelotonref10_Right: function 8 -/
def pelotonref10_Right.f (a0_0 : Int) (a0_1 : Int) (a0_2 : Int) (a0_3 : Int) (a0_4 : Int) (a0_5 : Int) (a1_0 : Int) (a1_1 : Int) : Option (Bool) := (pelotonref07_Right.f a0_0 a0_1 a0_2 a0_3 a0_4 a0_5).bind fun t150 => (if t150 = true then (if a1_0 < 1 then (some false) else (if a1_0 > a0_0 then (some false) else (if a1_1 < 1 then (some false) else (if a1_1 > a0_2 then (some false) else (if a1_1 = 0 then (none) else (if (Int.tmod a0_2 a1_1) = 0 then (if (Int.tmod a0_3 a1_1) = 0 then (some (decide ((wrap64 (a1_0 * a1_1)) ≤ 64))) else (some false)) else (some false))))))) else (some false))
set_option maxHeartbeats 8000000 in
set_option maxRecDepth 100000 in
theorem pelotonref10_Right.calls (a0_0 : Int) (a0_1 : Int) (a0_2 : Int) (a0_3 : Int) (a0_4 : Int) (a0_5 : Int) (a1_0 : Int) (a1_1 : Int) (r : Bool) (w : World) (h : pelotonref10_Right.f a0_0 a0_1 a0_2 a0_3 a0_4 a0_5 a1_0 a1_1 = some r) :
  Calls Try.prog 8 #[.agg #[.int .i64 a0_0, .int .i64 a0_1, .int .i64 a0_2, .int .i64 a0_3, .int .i64 a0_4, .int .i64 a0_5], .agg #[.int .i64 a1_0, .int .i64 a1_1]] w fun e w' => e = .returned (.bool r) ∧ Below w.heap.size w w' := by
 have hu23 := Try.underlying23
 have hu25 := Try.underlying25
 have HB := Aside0.mk (Below.refl w.heap.size w)
 have H : ((pelotonref07_Right.f a0_0 a0_1 a0_2 a0_3 a0_4 a0_5).bind fun t150 => (if t150 = true then (if a1_0 < 1 then (some false) else (if a1_0 > a0_0 then (some false) else (if a1_1 < 1 then (some false) else (if a1_1 > a0_2 then (some false) else (if a1_1 = 0 then (none) else (if (Int.tmod a0_2 a1_1) = 0 then (if (Int.tmod a0_3 a1_1) = 0 then (some (decide ((wrap64 (a1_0 * a1_1)) ≤ 64))) else (some false)) else (some false))))))) else (some false))) = some r := h
 clear h
 replace H := Option.bind_eq_some_iff.mp H
 obtain ⟨t150, A30, H⟩ := H
 replace H : (if t150 = true then (if a1_0 < 1 then (some false) else (if a1_0 > a0_0 then (some false) else (if a1_1 < 1 then (some false) else (if a1_1 > a0_2 then (some false) else (if a1_1 = 0 then (none) else (if (Int.tmod a0_2 a1_1) = 0 then (if (Int.tmod a0_3 a1_1) = 0 then (some (decide ((wrap64 (a1_0 * a1_1)) ≤ 64))) else (some false)) else (some false))))))) else (some false)) = some r := H
 have A3 := Aside0.mk A30
 clear A30
 by_cases c4 : t150 = true
 rotate_left
 ·
  replace c4 := Bool.eq_false_iff.mpr c4
  subst c4
  have H1 : (some false) = some r := by rw [if_neg (show ¬ (false = true) by decide)] at H; exact H
  clear H
  have H := H1
  clear H1
  obtain rfl := Option.some.inj H
  go_enter Try.func8, Try.ntmps8
  go_wp2_with (first | ((with_reducible refine gate_dst (N := 2) rfl ?_); refine box_event ?hg (N := 2) ?hd (cs := #[.int .i64 a0_0, .int .i64 a0_1, .int .i64 a0_2, .int .i64 a0_3, .int .i64 a0_4, .int .i64 a0_5]) (t := 23) ?hr ?_; (case hd => rfl); (case hg => rfl); (case hr => first | (go_simp; done) | (go_simp; rfl)); intro gb148 hg w60 hbox hb; have n0_ := Aside0.mk (below_step (by repeat (first | (with_reducible first | exact HB.out | apply b_a | apply b_n | apply b_d) | exact HB.out)) hb); have n1_ := Aside0.mk (hbox); have n2_ := Aside0.mk ((by rw [hg]; exact (below_size (by repeat (first | (with_reducible first | exact HB.out | apply b_a | apply b_n | apply b_d) | exact HB.out))) : w.heap.size ≤ gb148)); have n3_ := Aside0.mk ((by rw [hg]; exact (below_size (by repeat (first | (with_reducible first | exact HB.out | apply b_a | apply b_n | apply b_d) | exact HB.out))) : w.heap.size ≤ gb148)); clear HB; have HB := n0_; have BK148 := n1_; have GW148 := n2_; have GE148 := n3_; clear n0_ n1_ n2_ n3_; clear hb hbox hg) | ((with_reducible refine gate_dst (N := 3) rfl ?_); refine box_event ?hg (N := 3) ?hd (cs := #[.int .i64 a1_0, .int .i64 a1_1]) (t := 25) ?hr ?_; (case hd => rfl); (case hg => rfl); (case hr => first | (go_simp; done) | (go_simp; rfl)); intro gb149 hg w61 hbox hb; have n0_ := Aside0.mk (blk_below (g := gb148) (o := .cells #[.int .i64 a0_0, .int .i64 a0_1, .int .i64 a0_2, .int .i64 a0_3, .int .i64 a0_4, .int .i64 a0_5] 23 (0, 0)) (by (with_reducible repeat (first | refine k_n ?_ _ | refine k_d ?_ | refine k_a ?_ _)); exact BK148.out) hb); have n1_ := Aside0.mk (below_step (by repeat (first | (with_reducible first | exact HB.out | apply b_a | apply b_n | apply b_d | refine b_s ?_ GE148.out) | exact HB.out)) hb); have n2_ := Aside0.mk (hbox); have n3_ := Aside0.mk ((by rw [hg]; exact (below_size (by repeat (first | (with_reducible first | exact HB.out | apply b_a | apply b_n | apply b_d | refine b_s ?_ GE148.out) | exact HB.out))) : w.heap.size ≤ gb149)); have n4_ := Aside0.mk ((by rw [hg]; exact (below_size (by repeat (first | (with_reducible first | exact HB.out | apply b_a | apply b_n | apply b_d | refine b_s ?_ GE148.out) | exact HB.out))) : w.heap.size ≤ gb149)); have n5_ := Aside0.mk ((by rw [hg]; exact Nat.ne_of_lt (blk_lt (g := gb148) (o := .cells #[.int .i64 a0_0, .int .i64 a0_1, .int .i64 a0_2, .int .i64 a0_3, .int .i64 a0_4, .int .i64 a0_5] 23 (0, 0)) (by (with_reducible repeat (first | refine k_n ?_ _ | refine k_d ?_ | refine k_a ?_ _)); exact BK148.out)) : gb148 ≠ gb149)); have n6_ := Aside0.mk ((by rw [hg]; exact Nat.ne_of_gt (blk_lt (g := gb148) (o := .cells #[.int .i64 a0_0, .int .i64 a0_1, .int .i64 a0_2, .int .i64 a0_3, .int .i64 a0_4, .int .i64 a0_5] 23 (0, 0)) (by (with_reducible repeat (first | refine k_n ?_ _ | refine k_d ?_ | refine k_a ?_ _)); exact BK148.out)) : gb149 ≠ gb148)); clear BK148; clear HB; have BK148 := n0_; have HB := n1_; have BK149 := n2_; have GW149 := n3_; have GE149 := n4_; have NB148_149 := n5_; have NB149_148 := n6_; clear n0_ n1_ n2_ n3_ n4_ n5_ n6_; clear hb hbox hg; have hnb62 := NB148_149.out; have hnc62 := NB149_148.out; have hcz63_0 : w61.cell? ⟨gb148, 0, none⟩ = some (.int .i64 a0_0) := (blk_cell BK148.out 0).trans rfl; have hcz63_1 : w61.cell? ⟨gb148, 1, none⟩ = some (.int .i64 a0_1) := (blk_cell BK148.out 1).trans rfl; have hcz63_2 : w61.cell? ⟨gb148, 2, none⟩ = some (.int .i64 a0_2) := (blk_cell BK148.out 2).trans rfl; have hcz63_3 : w61.cell? ⟨gb148, 3, none⟩ = some (.int .i64 a0_3) := (blk_cell BK148.out 3).trans rfl; have hcz63_4 : w61.cell? ⟨gb148, 4, none⟩ = some (.int .i64 a0_4) := (blk_cell BK148.out 4).trans rfl; have hcz63_5 : w61.cell? ⟨gb148, 5, none⟩ = some (.int .i64 a0_5) := (blk_cell BK148.out 5).trans rfl; have hfz63_0 := blk_frozen BK148.out 0; have hfz63_1 := blk_frozen BK148.out 1; have hfz63_2 := blk_frozen BK148.out 2; have hfz63_3 := blk_frozen BK148.out 3; have hfz63_4 := blk_frozen BK148.out 4; have hfz63_5 := blk_frozen BK148.out 5) | ((with_reducible refine gate_callee (f := 21) rfl ?_); refine goesL_ (some 6) rfl rfl Try.func21 (by kernel_rfl) rfl #[.agg #[.int .i64 a0_0, .int .i64 a0_1, .int .i64 a0_2, .int .i64 a0_3, .int .i64 a0_4, .int .i64 a0_5]] rfl (by (try simp only [l_4, l_5, l_6]); first | done | rfl | (simp only [l_7, l_8]; rfl)) ?_; (with_reducible refine (pelotonref07_Right.calls a0_0 a0_1 a0_2 a0_3 a0_4 a0_5 false _ A3.out).mono ?_); rintro e w64 ⟨rfl, hb⟩; refine ⟨_, rfl, ?_⟩; have n0_ := Aside0.mk (blk_below (g := gb148) (o := .cells #[.int .i64 a0_0, .int .i64 a0_1, .int .i64 a0_2, .int .i64 a0_3, .int .i64 a0_4, .int .i64 a0_5] 23 (0, 0)) (by (with_reducible repeat (first | refine k_n ?_ _ | refine k_d ?_ | refine k_a ?_ _)); exact BK148.out) hb); have n1_ := Aside0.mk (blk_below (g := gb149) (o := .cells #[.int .i64 a1_0, .int .i64 a1_1] 25 (0, 0)) (by (with_reducible repeat (first | refine k_n ?_ _ | refine k_d ?_ | refine k_a ?_ _)); exact BK149.out) hb); have n2_ := Aside0.mk (below_step (by repeat (first | (with_reducible first | exact HB.out | apply b_a | apply b_n | apply b_d | refine b_s ?_ GE148.out | refine b_s ?_ GE149.out) | exact HB.out)) hb); clear BK148; clear BK149; clear HB; have BK148 := n0_; have BK149 := n1_; have HB := n2_; clear n0_ n1_ n2_; (try clear hb); (try clear hb2); (try clear hk); (try clear hi)))
  go_ret
  exact ⟨by first | rfl | (simp [errW_none, errW_some] <;> rfl) | (simp [*, errW_none, errW_some] <;> rfl), by repeat (first | (with_reducible first | exact HB.out | apply b_a | apply b_n | apply b_d | refine b_s ?_ GE148.out | refine b_s ?_ GE149.out) | exact HB.out)⟩

 subst c4
 have H1 : (if a1_0 < 1 then (some false) else (if a1_0 > a0_0 then (some false) else (if a1_1 < 1 then (some false) else (if a1_1 > a0_2 then (some false) else (if a1_1 = 0 then (none) else (if (Int.tmod a0_2 a1_1) = 0 then (if (Int.tmod a0_3 a1_1) = 0 then (some (decide ((wrap64 (a1_0 * a1_1)) ≤ 64))) else (some false)) else (some false))))))) = some r := by rw [if_pos rfl] at H; exact H
 clear H
 have H := H1
 clear H1
 by_cases c5 : a1_0 < 1
 ·
  rw [if_pos c5] at H
  have c5b0 : decide (a1_0 < 1) = true := decide_eq_true c5
  clear c5
  obtain rfl := Option.some.inj H
  go_enter Try.func8, Try.ntmps8
  go_wp2_with (first | ((with_reducible refine gate_dst (N := 2) rfl ?_); refine box_event ?hg (N := 2) ?hd (cs := #[.int .i64 a0_0, .int .i64 a0_1, .int .i64 a0_2, .int .i64 a0_3, .int .i64 a0_4, .int .i64 a0_5]) (t := 23) ?hr ?_; (case hd => rfl); (case hg => rfl); (case hr => first | (go_simp; done) | (go_simp; rfl)); intro gb148 hg w6 hbox hb; have n0_ := Aside0.mk (below_step (by repeat (first | (with_reducible first | exact HB.out | apply b_a | apply b_n | apply b_d) | exact HB.out)) hb); have n1_ := Aside0.mk (hbox); have n2_ := Aside0.mk ((by rw [hg]; exact (below_size (by repeat (first | (with_reducible first | exact HB.out | apply b_a | apply b_n | apply b_d) | exact HB.out))) : w.heap.size ≤ gb148)); have n3_ := Aside0.mk ((by rw [hg]; exact (below_size (by repeat (first | (with_reducible first | exact HB.out | apply b_a | apply b_n | apply b_d) | exact HB.out))) : w.heap.size ≤ gb148)); clear HB; have HB := n0_; have BK148 := n1_; have GW148 := n2_; have GE148 := n3_; clear n0_ n1_ n2_ n3_; clear hb hbox hg) | ((with_reducible refine gate_dst (N := 3) rfl ?_); refine box_event ?hg (N := 3) ?hd (cs := #[.int .i64 a1_0, .int .i64 a1_1]) (t := 25) ?hr ?_; (case hd => rfl); (case hg => rfl); (case hr => first | (go_simp; done) | (go_simp; rfl)); intro gb149 hg w7 hbox hb; have n0_ := Aside0.mk (blk_below (g := gb148) (o := .cells #[.int .i64 a0_0, .int .i64 a0_1, .int .i64 a0_2, .int .i64 a0_3, .int .i64 a0_4, .int .i64 a0_5] 23 (0, 0)) (by (with_reducible repeat (first | refine k_n ?_ _ | refine k_d ?_ | refine k_a ?_ _)); exact BK148.out) hb); have n1_ := Aside0.mk (below_step (by repeat (first | (with_reducible first | exact HB.out | apply b_a | apply b_n | apply b_d | refine b_s ?_ GE148.out) | exact HB.out)) hb); have n2_ := Aside0.mk (hbox); have n3_ := Aside0.mk ((by rw [hg]; exact (below_size (by repeat (first | (with_reducible first | exact HB.out | apply b_a | apply b_n | apply b_d | refine b_s ?_ GE148.out) | exact HB.out))) : w.heap.size ≤ gb149)); have n4_ := Aside0.mk ((by rw [hg]; exact (below_size (by repeat (first | (with_reducible first | exact HB.out | apply b_a | apply b_n | apply b_d | refine b_s ?_ GE148.out) | exact HB.out))) : w.heap.size ≤ gb149)); have n5_ := Aside0.mk ((by rw [hg]; exact Nat.ne_of_lt (blk_lt (g := gb148) (o := .cells #[.int .i64 a0_0, .int .i64 a0_1, .int .i64 a0_2, .int .i64 a0_3, .int .i64 a0_4, .int .i64 a0_5] 23 (0, 0)) (by (with_reducible repeat (first | refine k_n ?_ _ | refine k_d ?_ | refine k_a ?_ _)); exact BK148.out)) : gb148 ≠ gb149)); have n6_ := Aside0.mk ((by rw [hg]; exact Nat.ne_of_gt (blk_lt (g := gb148) (o := .cells #[.int .i64 a0_0, .int .i64 a0_1, .int .i64 a0_2, .int .i64 a0_3, .int .i64 a0_4, .int .i64 a0_5] 23 (0, 0)) (by (with_reducible repeat (first | refine k_n ?_ _ | refine k_d ?_ | refine k_a ?_ _)); exact BK148.out)) : gb149 ≠ gb148)); clear BK148; clear HB; have BK148 := n0_; have HB := n1_; have BK149 := n2_; have GW149 := n3_; have GE149 := n4_; have NB148_149 := n5_; have NB149_148 := n6_; clear n0_ n1_ n2_ n3_ n4_ n5_ n6_; clear hb hbox hg; have hnb8 := NB148_149.out; have hnc8 := NB149_148.out; have hcz9_0 : w7.cell? ⟨gb148, 0, none⟩ = some (.int .i64 a0_0) := (blk_cell BK148.out 0).trans rfl; have hcz9_1 : w7.cell? ⟨gb148, 1, none⟩ = some (.int .i64 a0_1) := (blk_cell BK148.out 1).trans rfl; have hcz9_2 : w7.cell? ⟨gb148, 2, none⟩ = some (.int .i64 a0_2) := (blk_cell BK148.out 2).trans rfl; have hcz9_3 : w7.cell? ⟨gb148, 3, none⟩ = some (.int .i64 a0_3) := (blk_cell BK148.out 3).trans rfl; have hcz9_4 : w7.cell? ⟨gb148, 4, none⟩ = some (.int .i64 a0_4) := (blk_cell BK148.out 4).trans rfl; have hcz9_5 : w7.cell? ⟨gb148, 5, none⟩ = some (.int .i64 a0_5) := (blk_cell BK148.out 5).trans rfl; have hfz9_0 := blk_frozen BK148.out 0; have hfz9_1 := blk_frozen BK148.out 1; have hfz9_2 := blk_frozen BK148.out 2; have hfz9_3 := blk_frozen BK148.out 3; have hfz9_4 := blk_frozen BK148.out 4; have hfz9_5 := blk_frozen BK148.out 5) | ((with_reducible refine gate_callee (f := 21) rfl ?_); refine goesL_ (some 6) rfl rfl Try.func21 (by kernel_rfl) rfl #[.agg #[.int .i64 a0_0, .int .i64 a0_1, .int .i64 a0_2, .int .i64 a0_3, .int .i64 a0_4, .int .i64 a0_5]] rfl (by (try simp only [l_4, l_5, l_6]); first | done | rfl | (simp only [l_7, l_8]; rfl)) ?_; (with_reducible refine (pelotonref07_Right.calls a0_0 a0_1 a0_2 a0_3 a0_4 a0_5 true _ A3.out).mono ?_); rintro e w10 ⟨rfl, hb⟩; refine ⟨_, rfl, ?_⟩; have n0_ := Aside0.mk (blk_below (g := gb148) (o := .cells #[.int .i64 a0_0, .int .i64 a0_1, .int .i64 a0_2, .int .i64 a0_3, .int .i64 a0_4, .int .i64 a0_5] 23 (0, 0)) (by (with_reducible repeat (first | refine k_n ?_ _ | refine k_d ?_ | refine k_a ?_ _)); exact BK148.out) hb); have n1_ := Aside0.mk (blk_below (g := gb149) (o := .cells #[.int .i64 a1_0, .int .i64 a1_1] 25 (0, 0)) (by (with_reducible repeat (first | refine k_n ?_ _ | refine k_d ?_ | refine k_a ?_ _)); exact BK149.out) hb); have n2_ := Aside0.mk (below_step (by repeat (first | (with_reducible first | exact HB.out | apply b_a | apply b_n | apply b_d | refine b_s ?_ GE148.out | refine b_s ?_ GE149.out) | exact HB.out)) hb); clear BK148; clear BK149; clear HB; have BK148 := n0_; have BK149 := n1_; have HB := n2_; clear n0_ n1_ n2_; (try clear hb); (try clear hb2); (try clear hk); (try clear hi); have hcz11_0 : w10.cell? ⟨gb149, 0, none⟩ = some (.int .i64 a1_0) := (blk_cell BK149.out 0).trans rfl; have hcz11_1 : w10.cell? ⟨gb149, 1, none⟩ = some (.int .i64 a1_1) := (blk_cell BK149.out 1).trans rfl; have hfz11_0 := blk_frozen BK149.out 0; have hfz11_1 := blk_frozen BK149.out 1))
  go_ret
  exact ⟨by first | rfl | (simp [errW_none, errW_some] <;> rfl) | (simp [*, errW_none, errW_some] <;> rfl), by repeat (first | (with_reducible first | exact HB.out | apply b_a | apply b_n | apply b_d | refine b_s ?_ GE148.out | refine b_s ?_ GE149.out) | exact HB.out)⟩
 rw [if_neg c5] at H
 have c5b0 : decide (a1_0 < 1) = false := decide_eq_false c5
 clear c5
 by_cases c12 : a1_0 > a0_0
 ·
  rw [if_pos c12] at H
  have c12b0 : decide (a0_0 < a1_0) = true := decide_eq_true c12
  clear c12
  obtain rfl := Option.some.inj H
  go_enter Try.func8, Try.ntmps8
  go_wp2_with (first | ((with_reducible refine gate_dst (N := 2) rfl ?_); refine box_event ?hg (N := 2) ?hd (cs := #[.int .i64 a0_0, .int .i64 a0_1, .int .i64 a0_2, .int .i64 a0_3, .int .i64 a0_4, .int .i64 a0_5]) (t := 23) ?hr ?_; (case hd => rfl); (case hg => rfl); (case hr => first | (go_simp; done) | (go_simp; rfl)); intro gb148 hg w13 hbox hb; have n0_ := Aside0.mk (below_step (by repeat (first | (with_reducible first | exact HB.out | apply b_a | apply b_n | apply b_d) | exact HB.out)) hb); have n1_ := Aside0.mk (hbox); have n2_ := Aside0.mk ((by rw [hg]; exact (below_size (by repeat (first | (with_reducible first | exact HB.out | apply b_a | apply b_n | apply b_d) | exact HB.out))) : w.heap.size ≤ gb148)); have n3_ := Aside0.mk ((by rw [hg]; exact (below_size (by repeat (first | (with_reducible first | exact HB.out | apply b_a | apply b_n | apply b_d) | exact HB.out))) : w.heap.size ≤ gb148)); clear HB; have HB := n0_; have BK148 := n1_; have GW148 := n2_; have GE148 := n3_; clear n0_ n1_ n2_ n3_; clear hb hbox hg) | ((with_reducible refine gate_dst (N := 3) rfl ?_); refine box_event ?hg (N := 3) ?hd (cs := #[.int .i64 a1_0, .int .i64 a1_1]) (t := 25) ?hr ?_; (case hd => rfl); (case hg => rfl); (case hr => first | (go_simp; done) | (go_simp; rfl)); intro gb149 hg w14 hbox hb; have n0_ := Aside0.mk (blk_below (g := gb148) (o := .cells #[.int .i64 a0_0, .int .i64 a0_1, .int .i64 a0_2, .int .i64 a0_3, .int .i64 a0_4, .int .i64 a0_5] 23 (0, 0)) (by (with_reducible repeat (first | refine k_n ?_ _ | refine k_d ?_ | refine k_a ?_ _)); exact BK148.out) hb); have n1_ := Aside0.mk (below_step (by repeat (first | (with_reducible first | exact HB.out | apply b_a | apply b_n | apply b_d | refine b_s ?_ GE148.out) | exact HB.out)) hb); have n2_ := Aside0.mk (hbox); have n3_ := Aside0.mk ((by rw [hg]; exact (below_size (by repeat (first | (with_reducible first | exact HB.out | apply b_a | apply b_n | apply b_d | refine b_s ?_ GE148.out) | exact HB.out))) : w.heap.size ≤ gb149)); have n4_ := Aside0.mk ((by rw [hg]; exact (below_size (by repeat (first | (with_reducible first | exact HB.out | apply b_a | apply b_n | apply b_d | refine b_s ?_ GE148.out) | exact HB.out))) : w.heap.size ≤ gb149)); have n5_ := Aside0.mk ((by rw [hg]; exact Nat.ne_of_lt (blk_lt (g := gb148) (o := .cells #[.int .i64 a0_0, .int .i64 a0_1, .int .i64 a0_2, .int .i64 a0_3, .int .i64 a0_4, .int .i64 a0_5] 23 (0, 0)) (by (with_reducible repeat (first | refine k_n ?_ _ | refine k_d ?_ | refine k_a ?_ _)); exact BK148.out)) : gb148 ≠ gb149)); have n6_ := Aside0.mk ((by rw [hg]; exact Nat.ne_of_gt (blk_lt (g := gb148) (o := .cells #[.int .i64 a0_0, .int .i64 a0_1, .int .i64 a0_2, .int .i64 a0_3, .int .i64 a0_4, .int .i64 a0_5] 23 (0, 0)) (by (with_reducible repeat (first | refine k_n ?_ _ | refine k_d ?_ | refine k_a ?_ _)); exact BK148.out)) : gb149 ≠ gb148)); clear BK148; clear HB; have BK148 := n0_; have HB := n1_; have BK149 := n2_; have GW149 := n3_; have GE149 := n4_; have NB148_149 := n5_; have NB149_148 := n6_; clear n0_ n1_ n2_ n3_ n4_ n5_ n6_; clear hb hbox hg; have hnb15 := NB148_149.out; have hnc15 := NB149_148.out; have hcz16_0 : w14.cell? ⟨gb148, 0, none⟩ = some (.int .i64 a0_0) := (blk_cell BK148.out 0).trans rfl; have hcz16_1 : w14.cell? ⟨gb148, 1, none⟩ = some (.int .i64 a0_1) := (blk_cell BK148.out 1).trans rfl; have hcz16_2 : w14.cell? ⟨gb148, 2, none⟩ = some (.int .i64 a0_2) := (blk_cell BK148.out 2).trans rfl; have hcz16_3 : w14.cell? ⟨gb148, 3, none⟩ = some (.int .i64 a0_3) := (blk_cell BK148.out 3).trans rfl; have hcz16_4 : w14.cell? ⟨gb148, 4, none⟩ = some (.int .i64 a0_4) := (blk_cell BK148.out 4).trans rfl; have hcz16_5 : w14.cell? ⟨gb148, 5, none⟩ = some (.int .i64 a0_5) := (blk_cell BK148.out 5).trans rfl; have hfz16_0 := blk_frozen BK148.out 0; have hfz16_1 := blk_frozen BK148.out 1; have hfz16_2 := blk_frozen BK148.out 2; have hfz16_3 := blk_frozen BK148.out 3; have hfz16_4 := blk_frozen BK148.out 4; have hfz16_5 := blk_frozen BK148.out 5) | ((with_reducible refine gate_callee (f := 21) rfl ?_); refine goesL_ (some 6) rfl rfl Try.func21 (by kernel_rfl) rfl #[.agg #[.int .i64 a0_0, .int .i64 a0_1, .int .i64 a0_2, .int .i64 a0_3, .int .i64 a0_4, .int .i64 a0_5]] rfl (by (try simp only [l_4, l_5, l_6]); first | done | rfl | (simp only [l_7, l_8]; rfl)) ?_; (with_reducible refine (pelotonref07_Right.calls a0_0 a0_1 a0_2 a0_3 a0_4 a0_5 true _ A3.out).mono ?_); rintro e w17 ⟨rfl, hb⟩; refine ⟨_, rfl, ?_⟩; have n0_ := Aside0.mk (blk_below (g := gb148) (o := .cells #[.int .i64 a0_0, .int .i64 a0_1, .int .i64 a0_2, .int .i64 a0_3, .int .i64 a0_4, .int .i64 a0_5] 23 (0, 0)) (by (with_reducible repeat (first | refine k_n ?_ _ | refine k_d ?_ | refine k_a ?_ _)); exact BK148.out) hb); have n1_ := Aside0.mk (blk_below (g := gb149) (o := .cells #[.int .i64 a1_0, .int .i64 a1_1] 25 (0, 0)) (by (with_reducible repeat (first | refine k_n ?_ _ | refine k_d ?_ | refine k_a ?_ _)); exact BK149.out) hb); have n2_ := Aside0.mk (below_step (by repeat (first | (with_reducible first | exact HB.out | apply b_a | apply b_n | apply b_d | refine b_s ?_ GE148.out | refine b_s ?_ GE149.out) | exact HB.out)) hb); clear BK148; clear BK149; clear HB; have BK148 := n0_; have BK149 := n1_; have HB := n2_; clear n0_ n1_ n2_; (try clear hb); (try clear hb2); (try clear hk); (try clear hi); have hcz18_0 : w17.cell? ⟨gb149, 0, none⟩ = some (.int .i64 a1_0) := (blk_cell BK149.out 0).trans rfl; have hcz18_1 : w17.cell? ⟨gb149, 1, none⟩ = some (.int .i64 a1_1) := (blk_cell BK149.out 1).trans rfl; have hfz18_0 := blk_frozen BK149.out 0; have hfz18_1 := blk_frozen BK149.out 1; have hcz19_0 : w17.cell? ⟨gb148, 0, none⟩ = some (.int .i64 a0_0) := (blk_cell BK148.out 0).trans rfl; have hcz19_1 : w17.cell? ⟨gb148, 1, none⟩ = some (.int .i64 a0_1) := (blk_cell BK148.out 1).trans rfl; have hcz19_2 : w17.cell? ⟨gb148, 2, none⟩ = some (.int .i64 a0_2) := (blk_cell BK148.out 2).trans rfl; have hcz19_3 : w17.cell? ⟨gb148, 3, none⟩ = some (.int .i64 a0_3) := (blk_cell BK148.out 3).trans rfl; have hcz19_4 : w17.cell? ⟨gb148, 4, none⟩ = some (.int .i64 a0_4) := (blk_cell BK148.out 4).trans rfl; have hcz19_5 : w17.cell? ⟨gb148, 5, none⟩ = some (.int .i64 a0_5) := (blk_cell BK148.out 5).trans rfl; have hfz19_0 := blk_frozen BK148.out 0; have hfz19_1 := blk_frozen BK148.out 1; have hfz19_2 := blk_frozen BK148.out 2; have hfz19_3 := blk_frozen BK148.out 3; have hfz19_4 := blk_frozen BK148.out 4; have hfz19_5 := blk_frozen BK148.out 5))
  go_ret
  exact ⟨by first | rfl | (simp [errW_none, errW_some] <;> rfl) | (simp [*, errW_none, errW_some] <;> rfl), by repeat (first | (with_reducible first | exact HB.out | apply b_a | apply b_n | apply b_d | refine b_s ?_ GE148.out | refine b_s ?_ GE149.out) | exact HB.out)⟩
 rw [if_neg c12] at H
 have c12b0 : decide (a0_0 < a1_0) = false := decide_eq_false c12
 clear c12
 by_cases c20 : a1_1 < 1
 ·
  rw [if_pos c20] at H
  have c20b0 : decide (a1_1 < 1) = true := decide_eq_true c20
  clear c20
  obtain rfl := Option.some.inj H
  go_enter Try.func8, Try.ntmps8
  go_wp2_with (first | ((with_reducible refine gate_dst (N := 2) rfl ?_); refine box_event ?hg (N := 2) ?hd (cs := #[.int .i64 a0_0, .int .i64 a0_1, .int .i64 a0_2, .int .i64 a0_3, .int .i64 a0_4, .int .i64 a0_5]) (t := 23) ?hr ?_; (case hd => rfl); (case hg => rfl); (case hr => first | (go_simp; done) | (go_simp; rfl)); intro gb148 hg w21 hbox hb; have n0_ := Aside0.mk (below_step (by repeat (first | (with_reducible first | exact HB.out | apply b_a | apply b_n | apply b_d) | exact HB.out)) hb); have n1_ := Aside0.mk (hbox); have n2_ := Aside0.mk ((by rw [hg]; exact (below_size (by repeat (first | (with_reducible first | exact HB.out | apply b_a | apply b_n | apply b_d) | exact HB.out))) : w.heap.size ≤ gb148)); have n3_ := Aside0.mk ((by rw [hg]; exact (below_size (by repeat (first | (with_reducible first | exact HB.out | apply b_a | apply b_n | apply b_d) | exact HB.out))) : w.heap.size ≤ gb148)); clear HB; have HB := n0_; have BK148 := n1_; have GW148 := n2_; have GE148 := n3_; clear n0_ n1_ n2_ n3_; clear hb hbox hg) | ((with_reducible refine gate_dst (N := 3) rfl ?_); refine box_event ?hg (N := 3) ?hd (cs := #[.int .i64 a1_0, .int .i64 a1_1]) (t := 25) ?hr ?_; (case hd => rfl); (case hg => rfl); (case hr => first | (go_simp; done) | (go_simp; rfl)); intro gb149 hg w22 hbox hb; have n0_ := Aside0.mk (blk_below (g := gb148) (o := .cells #[.int .i64 a0_0, .int .i64 a0_1, .int .i64 a0_2, .int .i64 a0_3, .int .i64 a0_4, .int .i64 a0_5] 23 (0, 0)) (by (with_reducible repeat (first | refine k_n ?_ _ | refine k_d ?_ | refine k_a ?_ _)); exact BK148.out) hb); have n1_ := Aside0.mk (below_step (by repeat (first | (with_reducible first | exact HB.out | apply b_a | apply b_n | apply b_d | refine b_s ?_ GE148.out) | exact HB.out)) hb); have n2_ := Aside0.mk (hbox); have n3_ := Aside0.mk ((by rw [hg]; exact (below_size (by repeat (first | (with_reducible first | exact HB.out | apply b_a | apply b_n | apply b_d | refine b_s ?_ GE148.out) | exact HB.out))) : w.heap.size ≤ gb149)); have n4_ := Aside0.mk ((by rw [hg]; exact (below_size (by repeat (first | (with_reducible first | exact HB.out | apply b_a | apply b_n | apply b_d | refine b_s ?_ GE148.out) | exact HB.out))) : w.heap.size ≤ gb149)); have n5_ := Aside0.mk ((by rw [hg]; exact Nat.ne_of_lt (blk_lt (g := gb148) (o := .cells #[.int .i64 a0_0, .int .i64 a0_1, .int .i64 a0_2, .int .i64 a0_3, .int .i64 a0_4, .int .i64 a0_5] 23 (0, 0)) (by (with_reducible repeat (first | refine k_n ?_ _ | refine k_d ?_ | refine k_a ?_ _)); exact BK148.out)) : gb148 ≠ gb149)); have n6_ := Aside0.mk ((by rw [hg]; exact Nat.ne_of_gt (blk_lt (g := gb148) (o := .cells #[.int .i64 a0_0, .int .i64 a0_1, .int .i64 a0_2, .int .i64 a0_3, .int .i64 a0_4, .int .i64 a0_5] 23 (0, 0)) (by (with_reducible repeat (first | refine k_n ?_ _ | refine k_d ?_ | refine k_a ?_ _)); exact BK148.out)) : gb149 ≠ gb148)); clear BK148; clear HB; have BK148 := n0_; have HB := n1_; have BK149 := n2_; have GW149 := n3_; have GE149 := n4_; have NB148_149 := n5_; have NB149_148 := n6_; clear n0_ n1_ n2_ n3_ n4_ n5_ n6_; clear hb hbox hg; have hnb23 := NB148_149.out; have hnc23 := NB149_148.out; have hcz24_0 : w22.cell? ⟨gb148, 0, none⟩ = some (.int .i64 a0_0) := (blk_cell BK148.out 0).trans rfl; have hcz24_1 : w22.cell? ⟨gb148, 1, none⟩ = some (.int .i64 a0_1) := (blk_cell BK148.out 1).trans rfl; have hcz24_2 : w22.cell? ⟨gb148, 2, none⟩ = some (.int .i64 a0_2) := (blk_cell BK148.out 2).trans rfl; have hcz24_3 : w22.cell? ⟨gb148, 3, none⟩ = some (.int .i64 a0_3) := (blk_cell BK148.out 3).trans rfl; have hcz24_4 : w22.cell? ⟨gb148, 4, none⟩ = some (.int .i64 a0_4) := (blk_cell BK148.out 4).trans rfl; have hcz24_5 : w22.cell? ⟨gb148, 5, none⟩ = some (.int .i64 a0_5) := (blk_cell BK148.out 5).trans rfl; have hfz24_0 := blk_frozen BK148.out 0; have hfz24_1 := blk_frozen BK148.out 1; have hfz24_2 := blk_frozen BK148.out 2; have hfz24_3 := blk_frozen BK148.out 3; have hfz24_4 := blk_frozen BK148.out 4; have hfz24_5 := blk_frozen BK148.out 5) | ((with_reducible refine gate_callee (f := 21) rfl ?_); refine goesL_ (some 6) rfl rfl Try.func21 (by kernel_rfl) rfl #[.agg #[.int .i64 a0_0, .int .i64 a0_1, .int .i64 a0_2, .int .i64 a0_3, .int .i64 a0_4, .int .i64 a0_5]] rfl (by (try simp only [l_4, l_5, l_6]); first | done | rfl | (simp only [l_7, l_8]; rfl)) ?_; (with_reducible refine (pelotonref07_Right.calls a0_0 a0_1 a0_2 a0_3 a0_4 a0_5 true _ A3.out).mono ?_); rintro e w25 ⟨rfl, hb⟩; refine ⟨_, rfl, ?_⟩; have n0_ := Aside0.mk (blk_below (g := gb148) (o := .cells #[.int .i64 a0_0, .int .i64 a0_1, .int .i64 a0_2, .int .i64 a0_3, .int .i64 a0_4, .int .i64 a0_5] 23 (0, 0)) (by (with_reducible repeat (first | refine k_n ?_ _ | refine k_d ?_ | refine k_a ?_ _)); exact BK148.out) hb); have n1_ := Aside0.mk (blk_below (g := gb149) (o := .cells #[.int .i64 a1_0, .int .i64 a1_1] 25 (0, 0)) (by (with_reducible repeat (first | refine k_n ?_ _ | refine k_d ?_ | refine k_a ?_ _)); exact BK149.out) hb); have n2_ := Aside0.mk (below_step (by repeat (first | (with_reducible first | exact HB.out | apply b_a | apply b_n | apply b_d | refine b_s ?_ GE148.out | refine b_s ?_ GE149.out) | exact HB.out)) hb); clear BK148; clear BK149; clear HB; have BK148 := n0_; have BK149 := n1_; have HB := n2_; clear n0_ n1_ n2_; (try clear hb); (try clear hb2); (try clear hk); (try clear hi); have hcz26_0 : w25.cell? ⟨gb149, 0, none⟩ = some (.int .i64 a1_0) := (blk_cell BK149.out 0).trans rfl; have hcz26_1 : w25.cell? ⟨gb149, 1, none⟩ = some (.int .i64 a1_1) := (blk_cell BK149.out 1).trans rfl; have hfz26_0 := blk_frozen BK149.out 0; have hfz26_1 := blk_frozen BK149.out 1; have hcz27_0 : w25.cell? ⟨gb148, 0, none⟩ = some (.int .i64 a0_0) := (blk_cell BK148.out 0).trans rfl; have hcz27_1 : w25.cell? ⟨gb148, 1, none⟩ = some (.int .i64 a0_1) := (blk_cell BK148.out 1).trans rfl; have hcz27_2 : w25.cell? ⟨gb148, 2, none⟩ = some (.int .i64 a0_2) := (blk_cell BK148.out 2).trans rfl; have hcz27_3 : w25.cell? ⟨gb148, 3, none⟩ = some (.int .i64 a0_3) := (blk_cell BK148.out 3).trans rfl; have hcz27_4 : w25.cell? ⟨gb148, 4, none⟩ = some (.int .i64 a0_4) := (blk_cell BK148.out 4).trans rfl; have hcz27_5 : w25.cell? ⟨gb148, 5, none⟩ = some (.int .i64 a0_5) := (blk_cell BK148.out 5).trans rfl; have hfz27_0 := blk_frozen BK148.out 0; have hfz27_1 := blk_frozen BK148.out 1; have hfz27_2 := blk_frozen BK148.out 2; have hfz27_3 := blk_frozen BK148.out 3; have hfz27_4 := blk_frozen BK148.out 4; have hfz27_5 := blk_frozen BK148.out 5))
  go_ret
  exact ⟨by first | rfl | (simp [errW_none, errW_some] <;> rfl) | (simp [*, errW_none, errW_some] <;> rfl), by repeat (first | (with_reducible first | exact HB.out | apply b_a | apply b_n | apply b_d | refine b_s ?_ GE148.out | refine b_s ?_ GE149.out) | exact HB.out)⟩
 rw [if_neg c20] at H
 have c20b0 : decide (a1_1 < 1) = false := decide_eq_false c20
 clear c20
 by_cases c28 : a1_1 > a0_2
 ·
  rw [if_pos c28] at H
  have c28b0 : decide (a0_2 < a1_1) = true := decide_eq_true c28
  clear c28
  obtain rfl := Option.some.inj H
  go_enter Try.func8, Try.ntmps8
  go_wp2_with (first | ((with_reducible refine gate_dst (N := 2) rfl ?_); refine box_event ?hg (N := 2) ?hd (cs := #[.int .i64 a0_0, .int .i64 a0_1, .int .i64 a0_2, .int .i64 a0_3, .int .i64 a0_4, .int .i64 a0_5]) (t := 23) ?hr ?_; (case hd => rfl); (case hg => rfl); (case hr => first | (go_simp; done) | (go_simp; rfl)); intro gb148 hg w29 hbox hb; have n0_ := Aside0.mk (below_step (by repeat (first | (with_reducible first | exact HB.out | apply b_a | apply b_n | apply b_d) | exact HB.out)) hb); have n1_ := Aside0.mk (hbox); have n2_ := Aside0.mk ((by rw [hg]; exact (below_size (by repeat (first | (with_reducible first | exact HB.out | apply b_a | apply b_n | apply b_d) | exact HB.out))) : w.heap.size ≤ gb148)); have n3_ := Aside0.mk ((by rw [hg]; exact (below_size (by repeat (first | (with_reducible first | exact HB.out | apply b_a | apply b_n | apply b_d) | exact HB.out))) : w.heap.size ≤ gb148)); clear HB; have HB := n0_; have BK148 := n1_; have GW148 := n2_; have GE148 := n3_; clear n0_ n1_ n2_ n3_; clear hb hbox hg) | ((with_reducible refine gate_dst (N := 3) rfl ?_); refine box_event ?hg (N := 3) ?hd (cs := #[.int .i64 a1_0, .int .i64 a1_1]) (t := 25) ?hr ?_; (case hd => rfl); (case hg => rfl); (case hr => first | (go_simp; done) | (go_simp; rfl)); intro gb149 hg w30 hbox hb; have n0_ := Aside0.mk (blk_below (g := gb148) (o := .cells #[.int .i64 a0_0, .int .i64 a0_1, .int .i64 a0_2, .int .i64 a0_3, .int .i64 a0_4, .int .i64 a0_5] 23 (0, 0)) (by (with_reducible repeat (first | refine k_n ?_ _ | refine k_d ?_ | refine k_a ?_ _)); exact BK148.out) hb); have n1_ := Aside0.mk (below_step (by repeat (first | (with_reducible first | exact HB.out | apply b_a | apply b_n | apply b_d | refine b_s ?_ GE148.out) | exact HB.out)) hb); have n2_ := Aside0.mk (hbox); have n3_ := Aside0.mk ((by rw [hg]; exact (below_size (by repeat (first | (with_reducible first | exact HB.out | apply b_a | apply b_n | apply b_d | refine b_s ?_ GE148.out) | exact HB.out))) : w.heap.size ≤ gb149)); have n4_ := Aside0.mk ((by rw [hg]; exact (below_size (by repeat (first | (with_reducible first | exact HB.out | apply b_a | apply b_n | apply b_d | refine b_s ?_ GE148.out) | exact HB.out))) : w.heap.size ≤ gb149)); have n5_ := Aside0.mk ((by rw [hg]; exact Nat.ne_of_lt (blk_lt (g := gb148) (o := .cells #[.int .i64 a0_0, .int .i64 a0_1, .int .i64 a0_2, .int .i64 a0_3, .int .i64 a0_4, .int .i64 a0_5] 23 (0, 0)) (by (with_reducible repeat (first | refine k_n ?_ _ | refine k_d ?_ | refine k_a ?_ _)); exact BK148.out)) : gb148 ≠ gb149)); have n6_ := Aside0.mk ((by rw [hg]; exact Nat.ne_of_gt (blk_lt (g := gb148) (o := .cells #[.int .i64 a0_0, .int .i64 a0_1, .int .i64 a0_2, .int .i64 a0_3, .int .i64 a0_4, .int .i64 a0_5] 23 (0, 0)) (by (with_reducible repeat (first | refine k_n ?_ _ | refine k_d ?_ | refine k_a ?_ _)); exact BK148.out)) : gb149 ≠ gb148)); clear BK148; clear HB; have BK148 := n0_; have HB := n1_; have BK149 := n2_; have GW149 := n3_; have GE149 := n4_; have NB148_149 := n5_; have NB149_148 := n6_; clear n0_ n1_ n2_ n3_ n4_ n5_ n6_; clear hb hbox hg; have hnb31 := NB148_149.out; have hnc31 := NB149_148.out; have hcz32_0 : w30.cell? ⟨gb148, 0, none⟩ = some (.int .i64 a0_0) := (blk_cell BK148.out 0).trans rfl; have hcz32_1 : w30.cell? ⟨gb148, 1, none⟩ = some (.int .i64 a0_1) := (blk_cell BK148.out 1).trans rfl; have hcz32_2 : w30.cell? ⟨gb148, 2, none⟩ = some (.int .i64 a0_2) := (blk_cell BK148.out 2).trans rfl; have hcz32_3 : w30.cell? ⟨gb148, 3, none⟩ = some (.int .i64 a0_3) := (blk_cell BK148.out 3).trans rfl; have hcz32_4 : w30.cell? ⟨gb148, 4, none⟩ = some (.int .i64 a0_4) := (blk_cell BK148.out 4).trans rfl; have hcz32_5 : w30.cell? ⟨gb148, 5, none⟩ = some (.int .i64 a0_5) := (blk_cell BK148.out 5).trans rfl; have hfz32_0 := blk_frozen BK148.out 0; have hfz32_1 := blk_frozen BK148.out 1; have hfz32_2 := blk_frozen BK148.out 2; have hfz32_3 := blk_frozen BK148.out 3; have hfz32_4 := blk_frozen BK148.out 4; have hfz32_5 := blk_frozen BK148.out 5) | ((with_reducible refine gate_callee (f := 21) rfl ?_); refine goesL_ (some 6) rfl rfl Try.func21 (by kernel_rfl) rfl #[.agg #[.int .i64 a0_0, .int .i64 a0_1, .int .i64 a0_2, .int .i64 a0_3, .int .i64 a0_4, .int .i64 a0_5]] rfl (by (try simp only [l_4, l_5, l_6]); first | done | rfl | (simp only [l_7, l_8]; rfl)) ?_; (with_reducible refine (pelotonref07_Right.calls a0_0 a0_1 a0_2 a0_3 a0_4 a0_5 true _ A3.out).mono ?_); rintro e w33 ⟨rfl, hb⟩; refine ⟨_, rfl, ?_⟩; have n0_ := Aside0.mk (blk_below (g := gb148) (o := .cells #[.int .i64 a0_0, .int .i64 a0_1, .int .i64 a0_2, .int .i64 a0_3, .int .i64 a0_4, .int .i64 a0_5] 23 (0, 0)) (by (with_reducible repeat (first | refine k_n ?_ _ | refine k_d ?_ | refine k_a ?_ _)); exact BK148.out) hb); have n1_ := Aside0.mk (blk_below (g := gb149) (o := .cells #[.int .i64 a1_0, .int .i64 a1_1] 25 (0, 0)) (by (with_reducible repeat (first | refine k_n ?_ _ | refine k_d ?_ | refine k_a ?_ _)); exact BK149.out) hb); have n2_ := Aside0.mk (below_step (by repeat (first | (with_reducible first | exact HB.out | apply b_a | apply b_n | apply b_d | refine b_s ?_ GE148.out | refine b_s ?_ GE149.out) | exact HB.out)) hb); clear BK148; clear BK149; clear HB; have BK148 := n0_; have BK149 := n1_; have HB := n2_; clear n0_ n1_ n2_; (try clear hb); (try clear hb2); (try clear hk); (try clear hi); have hcz34_0 : w33.cell? ⟨gb149, 0, none⟩ = some (.int .i64 a1_0) := (blk_cell BK149.out 0).trans rfl; have hcz34_1 : w33.cell? ⟨gb149, 1, none⟩ = some (.int .i64 a1_1) := (blk_cell BK149.out 1).trans rfl; have hfz34_0 := blk_frozen BK149.out 0; have hfz34_1 := blk_frozen BK149.out 1; have hcz35_0 : w33.cell? ⟨gb148, 0, none⟩ = some (.int .i64 a0_0) := (blk_cell BK148.out 0).trans rfl; have hcz35_1 : w33.cell? ⟨gb148, 1, none⟩ = some (.int .i64 a0_1) := (blk_cell BK148.out 1).trans rfl; have hcz35_2 : w33.cell? ⟨gb148, 2, none⟩ = some (.int .i64 a0_2) := (blk_cell BK148.out 2).trans rfl; have hcz35_3 : w33.cell? ⟨gb148, 3, none⟩ = some (.int .i64 a0_3) := (blk_cell BK148.out 3).trans rfl; have hcz35_4 : w33.cell? ⟨gb148, 4, none⟩ = some (.int .i64 a0_4) := (blk_cell BK148.out 4).trans rfl; have hcz35_5 : w33.cell? ⟨gb148, 5, none⟩ = some (.int .i64 a0_5) := (blk_cell BK148.out 5).trans rfl; have hfz35_0 := blk_frozen BK148.out 0; have hfz35_1 := blk_frozen BK148.out 1; have hfz35_2 := blk_frozen BK148.out 2; have hfz35_3 := blk_frozen BK148.out 3; have hfz35_4 := blk_frozen BK148.out 4; have hfz35_5 := blk_frozen BK148.out 5))
  go_ret
  exact ⟨by first | rfl | (simp [errW_none, errW_some] <;> rfl) | (simp [*, errW_none, errW_some] <;> rfl), by repeat (first | (with_reducible first | exact HB.out | apply b_a | apply b_n | apply b_d | refine b_s ?_ GE148.out | refine b_s ?_ GE149.out) | exact HB.out)⟩
 rw [if_neg c28] at H
 have c28b0 : decide (a0_2 < a1_1) = false := decide_eq_false c28
 clear c28
 by_cases c36 : a1_1 = 0
 ·
  rw [if_pos c36] at H
  exact absurd H (by simp)
 rw [if_neg c36] at H
 have c36b0 : (a1_1 == 0) = false := beq_eq_false_iff_ne.mpr c36
 have c36b1 : (a1_1 != 0) = true := bne_iff_ne.mpr c36
 by_cases c37 : (Int.tmod a0_2 a1_1) = 0
 rotate_left
 ·
  rw [if_neg c37] at H
  have c37b0 : ((Int.tmod a0_2 a1_1) == 0) = false := beq_eq_false_iff_ne.mpr c37
  have c37b1 : ((Int.tmod a0_2 a1_1) != 0) = true := bne_iff_ne.mpr c37
  obtain rfl := Option.some.inj H
  go_enter Try.func8, Try.ntmps8
  go_wp2_with (first | ((with_reducible refine gate_dst (N := 2) rfl ?_); refine box_event ?hg (N := 2) ?hd (cs := #[.int .i64 a0_0, .int .i64 a0_1, .int .i64 a0_2, .int .i64 a0_3, .int .i64 a0_4, .int .i64 a0_5]) (t := 23) ?hr ?_; (case hd => rfl); (case hg => rfl); (case hr => first | (go_simp; done) | (go_simp; rfl)); intro gb148 hg w53 hbox hb; have n0_ := Aside0.mk (below_step (by repeat (first | (with_reducible first | exact HB.out | apply b_a | apply b_n | apply b_d) | exact HB.out)) hb); have n1_ := Aside0.mk (hbox); have n2_ := Aside0.mk ((by rw [hg]; exact (below_size (by repeat (first | (with_reducible first | exact HB.out | apply b_a | apply b_n | apply b_d) | exact HB.out))) : w.heap.size ≤ gb148)); have n3_ := Aside0.mk ((by rw [hg]; exact (below_size (by repeat (first | (with_reducible first | exact HB.out | apply b_a | apply b_n | apply b_d) | exact HB.out))) : w.heap.size ≤ gb148)); clear HB; have HB := n0_; have BK148 := n1_; have GW148 := n2_; have GE148 := n3_; clear n0_ n1_ n2_ n3_; clear hb hbox hg) | ((with_reducible refine gate_dst (N := 3) rfl ?_); refine box_event ?hg (N := 3) ?hd (cs := #[.int .i64 a1_0, .int .i64 a1_1]) (t := 25) ?hr ?_; (case hd => rfl); (case hg => rfl); (case hr => first | (go_simp; done) | (go_simp; rfl)); intro gb149 hg w54 hbox hb; have n0_ := Aside0.mk (blk_below (g := gb148) (o := .cells #[.int .i64 a0_0, .int .i64 a0_1, .int .i64 a0_2, .int .i64 a0_3, .int .i64 a0_4, .int .i64 a0_5] 23 (0, 0)) (by (with_reducible repeat (first | refine k_n ?_ _ | refine k_d ?_ | refine k_a ?_ _)); exact BK148.out) hb); have n1_ := Aside0.mk (below_step (by repeat (first | (with_reducible first | exact HB.out | apply b_a | apply b_n | apply b_d | refine b_s ?_ GE148.out) | exact HB.out)) hb); have n2_ := Aside0.mk (hbox); have n3_ := Aside0.mk ((by rw [hg]; exact (below_size (by repeat (first | (with_reducible first | exact HB.out | apply b_a | apply b_n | apply b_d | refine b_s ?_ GE148.out) | exact HB.out))) : w.heap.size ≤ gb149)); have n4_ := Aside0.mk ((by rw [hg]; exact (below_size (by repeat (first | (with_reducible first | exact HB.out | apply b_a | apply b_n | apply b_d | refine b_s ?_ GE148.out) | exact HB.out))) : w.heap.size ≤ gb149)); have n5_ := Aside0.mk ((by rw [hg]; exact Nat.ne_of_lt (blk_lt (g := gb148) (o := .cells #[.int .i64 a0_0, .int .i64 a0_1, .int .i64 a0_2, .int .i64 a0_3, .int .i64 a0_4, .int .i64 a0_5] 23 (0, 0)) (by (with_reducible repeat (first | refine k_n ?_ _ | refine k_d ?_ | refine k_a ?_ _)); exact BK148.out)) : gb148 ≠ gb149)); have n6_ := Aside0.mk ((by rw [hg]; exact Nat.ne_of_gt (blk_lt (g := gb148) (o := .cells #[.int .i64 a0_0, .int .i64 a0_1, .int .i64 a0_2, .int .i64 a0_3, .int .i64 a0_4, .int .i64 a0_5] 23 (0, 0)) (by (with_reducible repeat (first | refine k_n ?_ _ | refine k_d ?_ | refine k_a ?_ _)); exact BK148.out)) : gb149 ≠ gb148)); clear BK148; clear HB; have BK148 := n0_; have HB := n1_; have BK149 := n2_; have GW149 := n3_; have GE149 := n4_; have NB148_149 := n5_; have NB149_148 := n6_; clear n0_ n1_ n2_ n3_ n4_ n5_ n6_; clear hb hbox hg; have hnb55 := NB148_149.out; have hnc55 := NB149_148.out; have hcz56_0 : w54.cell? ⟨gb148, 0, none⟩ = some (.int .i64 a0_0) := (blk_cell BK148.out 0).trans rfl; have hcz56_1 : w54.cell? ⟨gb148, 1, none⟩ = some (.int .i64 a0_1) := (blk_cell BK148.out 1).trans rfl; have hcz56_2 : w54.cell? ⟨gb148, 2, none⟩ = some (.int .i64 a0_2) := (blk_cell BK148.out 2).trans rfl; have hcz56_3 : w54.cell? ⟨gb148, 3, none⟩ = some (.int .i64 a0_3) := (blk_cell BK148.out 3).trans rfl; have hcz56_4 : w54.cell? ⟨gb148, 4, none⟩ = some (.int .i64 a0_4) := (blk_cell BK148.out 4).trans rfl; have hcz56_5 : w54.cell? ⟨gb148, 5, none⟩ = some (.int .i64 a0_5) := (blk_cell BK148.out 5).trans rfl; have hfz56_0 := blk_frozen BK148.out 0; have hfz56_1 := blk_frozen BK148.out 1; have hfz56_2 := blk_frozen BK148.out 2; have hfz56_3 := blk_frozen BK148.out 3; have hfz56_4 := blk_frozen BK148.out 4; have hfz56_5 := blk_frozen BK148.out 5) | ((with_reducible refine gate_callee (f := 21) rfl ?_); refine goesL_ (some 6) rfl rfl Try.func21 (by kernel_rfl) rfl #[.agg #[.int .i64 a0_0, .int .i64 a0_1, .int .i64 a0_2, .int .i64 a0_3, .int .i64 a0_4, .int .i64 a0_5]] rfl (by (try simp only [l_4, l_5, l_6]); first | done | rfl | (simp only [l_7, l_8]; rfl)) ?_; (with_reducible refine (pelotonref07_Right.calls a0_0 a0_1 a0_2 a0_3 a0_4 a0_5 true _ A3.out).mono ?_); rintro e w57 ⟨rfl, hb⟩; refine ⟨_, rfl, ?_⟩; have n0_ := Aside0.mk (blk_below (g := gb148) (o := .cells #[.int .i64 a0_0, .int .i64 a0_1, .int .i64 a0_2, .int .i64 a0_3, .int .i64 a0_4, .int .i64 a0_5] 23 (0, 0)) (by (with_reducible repeat (first | refine k_n ?_ _ | refine k_d ?_ | refine k_a ?_ _)); exact BK148.out) hb); have n1_ := Aside0.mk (blk_below (g := gb149) (o := .cells #[.int .i64 a1_0, .int .i64 a1_1] 25 (0, 0)) (by (with_reducible repeat (first | refine k_n ?_ _ | refine k_d ?_ | refine k_a ?_ _)); exact BK149.out) hb); have n2_ := Aside0.mk (below_step (by repeat (first | (with_reducible first | exact HB.out | apply b_a | apply b_n | apply b_d | refine b_s ?_ GE148.out | refine b_s ?_ GE149.out) | exact HB.out)) hb); clear BK148; clear BK149; clear HB; have BK148 := n0_; have BK149 := n1_; have HB := n2_; clear n0_ n1_ n2_; (try clear hb); (try clear hb2); (try clear hk); (try clear hi); have hcz58_0 : w57.cell? ⟨gb149, 0, none⟩ = some (.int .i64 a1_0) := (blk_cell BK149.out 0).trans rfl; have hcz58_1 : w57.cell? ⟨gb149, 1, none⟩ = some (.int .i64 a1_1) := (blk_cell BK149.out 1).trans rfl; have hfz58_0 := blk_frozen BK149.out 0; have hfz58_1 := blk_frozen BK149.out 1; have hcz59_0 : w57.cell? ⟨gb148, 0, none⟩ = some (.int .i64 a0_0) := (blk_cell BK148.out 0).trans rfl; have hcz59_1 : w57.cell? ⟨gb148, 1, none⟩ = some (.int .i64 a0_1) := (blk_cell BK148.out 1).trans rfl; have hcz59_2 : w57.cell? ⟨gb148, 2, none⟩ = some (.int .i64 a0_2) := (blk_cell BK148.out 2).trans rfl; have hcz59_3 : w57.cell? ⟨gb148, 3, none⟩ = some (.int .i64 a0_3) := (blk_cell BK148.out 3).trans rfl; have hcz59_4 : w57.cell? ⟨gb148, 4, none⟩ = some (.int .i64 a0_4) := (blk_cell BK148.out 4).trans rfl; have hcz59_5 : w57.cell? ⟨gb148, 5, none⟩ = some (.int .i64 a0_5) := (blk_cell BK148.out 5).trans rfl; have hfz59_0 := blk_frozen BK148.out 0; have hfz59_1 := blk_frozen BK148.out 1; have hfz59_2 := blk_frozen BK148.out 2; have hfz59_3 := blk_frozen BK148.out 3; have hfz59_4 := blk_frozen BK148.out 4; have hfz59_5 := blk_frozen BK148.out 5))
  go_ret
  exact ⟨by first | rfl | (simp [errW_none, errW_some] <;> rfl) | (simp [*, errW_none, errW_some] <;> rfl), by repeat (first | (with_reducible first | exact HB.out | apply b_a | apply b_n | apply b_d | refine b_s ?_ GE148.out | refine b_s ?_ GE149.out) | exact HB.out)⟩
 rw [if_pos c37] at H
 have c37b0 : ((Int.tmod a0_2 a1_1) == 0) = true := beq_iff_eq.mpr c37
 have c37b1 : ((Int.tmod a0_2 a1_1) != 0) = false := bne_eq_false_iff_eq.mpr c37
 clear c37
 by_cases c38 : (Int.tmod a0_3 a1_1) = 0
 rotate_left
 ·
  rw [if_neg c38] at H
  have c38b0 : ((Int.tmod a0_3 a1_1) == 0) = false := beq_eq_false_iff_ne.mpr c38
  have c38b1 : ((Int.tmod a0_3 a1_1) != 0) = true := bne_iff_ne.mpr c38
  obtain rfl := Option.some.inj H
  go_enter Try.func8, Try.ntmps8
  go_wp2_with (first | ((with_reducible refine gate_dst (N := 2) rfl ?_); refine box_event ?hg (N := 2) ?hd (cs := #[.int .i64 a0_0, .int .i64 a0_1, .int .i64 a0_2, .int .i64 a0_3, .int .i64 a0_4, .int .i64 a0_5]) (t := 23) ?hr ?_; (case hd => rfl); (case hg => rfl); (case hr => first | (go_simp; done) | (go_simp; rfl)); intro gb148 hg w46 hbox hb; have n0_ := Aside0.mk (below_step (by repeat (first | (with_reducible first | exact HB.out | apply b_a | apply b_n | apply b_d) | exact HB.out)) hb); have n1_ := Aside0.mk (hbox); have n2_ := Aside0.mk ((by rw [hg]; exact (below_size (by repeat (first | (with_reducible first | exact HB.out | apply b_a | apply b_n | apply b_d) | exact HB.out))) : w.heap.size ≤ gb148)); have n3_ := Aside0.mk ((by rw [hg]; exact (below_size (by repeat (first | (with_reducible first | exact HB.out | apply b_a | apply b_n | apply b_d) | exact HB.out))) : w.heap.size ≤ gb148)); clear HB; have HB := n0_; have BK148 := n1_; have GW148 := n2_; have GE148 := n3_; clear n0_ n1_ n2_ n3_; clear hb hbox hg) | ((with_reducible refine gate_dst (N := 3) rfl ?_); refine box_event ?hg (N := 3) ?hd (cs := #[.int .i64 a1_0, .int .i64 a1_1]) (t := 25) ?hr ?_; (case hd => rfl); (case hg => rfl); (case hr => first | (go_simp; done) | (go_simp; rfl)); intro gb149 hg w47 hbox hb; have n0_ := Aside0.mk (blk_below (g := gb148) (o := .cells #[.int .i64 a0_0, .int .i64 a0_1, .int .i64 a0_2, .int .i64 a0_3, .int .i64 a0_4, .int .i64 a0_5] 23 (0, 0)) (by (with_reducible repeat (first | refine k_n ?_ _ | refine k_d ?_ | refine k_a ?_ _)); exact BK148.out) hb); have n1_ := Aside0.mk (below_step (by repeat (first | (with_reducible first | exact HB.out | apply b_a | apply b_n | apply b_d | refine b_s ?_ GE148.out) | exact HB.out)) hb); have n2_ := Aside0.mk (hbox); have n3_ := Aside0.mk ((by rw [hg]; exact (below_size (by repeat (first | (with_reducible first | exact HB.out | apply b_a | apply b_n | apply b_d | refine b_s ?_ GE148.out) | exact HB.out))) : w.heap.size ≤ gb149)); have n4_ := Aside0.mk ((by rw [hg]; exact (below_size (by repeat (first | (with_reducible first | exact HB.out | apply b_a | apply b_n | apply b_d | refine b_s ?_ GE148.out) | exact HB.out))) : w.heap.size ≤ gb149)); have n5_ := Aside0.mk ((by rw [hg]; exact Nat.ne_of_lt (blk_lt (g := gb148) (o := .cells #[.int .i64 a0_0, .int .i64 a0_1, .int .i64 a0_2, .int .i64 a0_3, .int .i64 a0_4, .int .i64 a0_5] 23 (0, 0)) (by (with_reducible repeat (first | refine k_n ?_ _ | refine k_d ?_ | refine k_a ?_ _)); exact BK148.out)) : gb148 ≠ gb149)); have n6_ := Aside0.mk ((by rw [hg]; exact Nat.ne_of_gt (blk_lt (g := gb148) (o := .cells #[.int .i64 a0_0, .int .i64 a0_1, .int .i64 a0_2, .int .i64 a0_3, .int .i64 a0_4, .int .i64 a0_5] 23 (0, 0)) (by (with_reducible repeat (first | refine k_n ?_ _ | refine k_d ?_ | refine k_a ?_ _)); exact BK148.out)) : gb149 ≠ gb148)); clear BK148; clear HB; have BK148 := n0_; have HB := n1_; have BK149 := n2_; have GW149 := n3_; have GE149 := n4_; have NB148_149 := n5_; have NB149_148 := n6_; clear n0_ n1_ n2_ n3_ n4_ n5_ n6_; clear hb hbox hg; have hnb48 := NB148_149.out; have hnc48 := NB149_148.out; have hcz49_0 : w47.cell? ⟨gb148, 0, none⟩ = some (.int .i64 a0_0) := (blk_cell BK148.out 0).trans rfl; have hcz49_1 : w47.cell? ⟨gb148, 1, none⟩ = some (.int .i64 a0_1) := (blk_cell BK148.out 1).trans rfl; have hcz49_2 : w47.cell? ⟨gb148, 2, none⟩ = some (.int .i64 a0_2) := (blk_cell BK148.out 2).trans rfl; have hcz49_3 : w47.cell? ⟨gb148, 3, none⟩ = some (.int .i64 a0_3) := (blk_cell BK148.out 3).trans rfl; have hcz49_4 : w47.cell? ⟨gb148, 4, none⟩ = some (.int .i64 a0_4) := (blk_cell BK148.out 4).trans rfl; have hcz49_5 : w47.cell? ⟨gb148, 5, none⟩ = some (.int .i64 a0_5) := (blk_cell BK148.out 5).trans rfl; have hfz49_0 := blk_frozen BK148.out 0; have hfz49_1 := blk_frozen BK148.out 1; have hfz49_2 := blk_frozen BK148.out 2; have hfz49_3 := blk_frozen BK148.out 3; have hfz49_4 := blk_frozen BK148.out 4; have hfz49_5 := blk_frozen BK148.out 5) | ((with_reducible refine gate_callee (f := 21) rfl ?_); refine goesL_ (some 6) rfl rfl Try.func21 (by kernel_rfl) rfl #[.agg #[.int .i64 a0_0, .int .i64 a0_1, .int .i64 a0_2, .int .i64 a0_3, .int .i64 a0_4, .int .i64 a0_5]] rfl (by (try simp only [l_4, l_5, l_6]); first | done | rfl | (simp only [l_7, l_8]; rfl)) ?_; (with_reducible refine (pelotonref07_Right.calls a0_0 a0_1 a0_2 a0_3 a0_4 a0_5 true _ A3.out).mono ?_); rintro e w50 ⟨rfl, hb⟩; refine ⟨_, rfl, ?_⟩; have n0_ := Aside0.mk (blk_below (g := gb148) (o := .cells #[.int .i64 a0_0, .int .i64 a0_1, .int .i64 a0_2, .int .i64 a0_3, .int .i64 a0_4, .int .i64 a0_5] 23 (0, 0)) (by (with_reducible repeat (first | refine k_n ?_ _ | refine k_d ?_ | refine k_a ?_ _)); exact BK148.out) hb); have n1_ := Aside0.mk (blk_below (g := gb149) (o := .cells #[.int .i64 a1_0, .int .i64 a1_1] 25 (0, 0)) (by (with_reducible repeat (first | refine k_n ?_ _ | refine k_d ?_ | refine k_a ?_ _)); exact BK149.out) hb); have n2_ := Aside0.mk (below_step (by repeat (first | (with_reducible first | exact HB.out | apply b_a | apply b_n | apply b_d | refine b_s ?_ GE148.out | refine b_s ?_ GE149.out) | exact HB.out)) hb); clear BK148; clear BK149; clear HB; have BK148 := n0_; have BK149 := n1_; have HB := n2_; clear n0_ n1_ n2_; (try clear hb); (try clear hb2); (try clear hk); (try clear hi); have hcz51_0 : w50.cell? ⟨gb149, 0, none⟩ = some (.int .i64 a1_0) := (blk_cell BK149.out 0).trans rfl; have hcz51_1 : w50.cell? ⟨gb149, 1, none⟩ = some (.int .i64 a1_1) := (blk_cell BK149.out 1).trans rfl; have hfz51_0 := blk_frozen BK149.out 0; have hfz51_1 := blk_frozen BK149.out 1; have hcz52_0 : w50.cell? ⟨gb148, 0, none⟩ = some (.int .i64 a0_0) := (blk_cell BK148.out 0).trans rfl; have hcz52_1 : w50.cell? ⟨gb148, 1, none⟩ = some (.int .i64 a0_1) := (blk_cell BK148.out 1).trans rfl; have hcz52_2 : w50.cell? ⟨gb148, 2, none⟩ = some (.int .i64 a0_2) := (blk_cell BK148.out 2).trans rfl; have hcz52_3 : w50.cell? ⟨gb148, 3, none⟩ = some (.int .i64 a0_3) := (blk_cell BK148.out 3).trans rfl; have hcz52_4 : w50.cell? ⟨gb148, 4, none⟩ = some (.int .i64 a0_4) := (blk_cell BK148.out 4).trans rfl; have hcz52_5 : w50.cell? ⟨gb148, 5, none⟩ = some (.int .i64 a0_5) := (blk_cell BK148.out 5).trans rfl; have hfz52_0 := blk_frozen BK148.out 0; have hfz52_1 := blk_frozen BK148.out 1; have hfz52_2 := blk_frozen BK148.out 2; have hfz52_3 := blk_frozen BK148.out 3; have hfz52_4 := blk_frozen BK148.out 4; have hfz52_5 := blk_frozen BK148.out 5))
  go_ret
  exact ⟨by first | rfl | (simp [errW_none, errW_some] <;> rfl) | (simp [*, errW_none, errW_some] <;> rfl), by repeat (first | (with_reducible first | exact HB.out | apply b_a | apply b_n | apply b_d | refine b_s ?_ GE148.out | refine b_s ?_ GE149.out) | exact HB.out)⟩
 rw [if_pos c38] at H
 have c38b0 : ((Int.tmod a0_3 a1_1) == 0) = true := beq_iff_eq.mpr c38
 have c38b1 : ((Int.tmod a0_3 a1_1) != 0) = false := bne_eq_false_iff_eq.mpr c38
 clear c38
 obtain rfl := Option.some.inj H
 go_enter Try.func8, Try.ntmps8
 go_wp2_with (first | ((with_reducible refine gate_dst (N := 2) rfl ?_); refine box_event ?hg (N := 2) ?hd (cs := #[.int .i64 a0_0, .int .i64 a0_1, .int .i64 a0_2, .int .i64 a0_3, .int .i64 a0_4, .int .i64 a0_5]) (t := 23) ?hr ?_; (case hd => rfl); (case hg => rfl); (case hr => first | (go_simp; done) | (go_simp; rfl)); intro gb148 hg w39 hbox hb; have n0_ := Aside0.mk (below_step (by repeat (first | (with_reducible first | exact HB.out | apply b_a | apply b_n | apply b_d) | exact HB.out)) hb); have n1_ := Aside0.mk (hbox); have n2_ := Aside0.mk ((by rw [hg]; exact (below_size (by repeat (first | (with_reducible first | exact HB.out | apply b_a | apply b_n | apply b_d) | exact HB.out))) : w.heap.size ≤ gb148)); have n3_ := Aside0.mk ((by rw [hg]; exact (below_size (by repeat (first | (with_reducible first | exact HB.out | apply b_a | apply b_n | apply b_d) | exact HB.out))) : w.heap.size ≤ gb148)); clear HB; have HB := n0_; have BK148 := n1_; have GW148 := n2_; have GE148 := n3_; clear n0_ n1_ n2_ n3_; clear hb hbox hg) | ((with_reducible refine gate_dst (N := 3) rfl ?_); refine box_event ?hg (N := 3) ?hd (cs := #[.int .i64 a1_0, .int .i64 a1_1]) (t := 25) ?hr ?_; (case hd => rfl); (case hg => rfl); (case hr => first | (go_simp; done) | (go_simp; rfl)); intro gb149 hg w40 hbox hb; have n0_ := Aside0.mk (blk_below (g := gb148) (o := .cells #[.int .i64 a0_0, .int .i64 a0_1, .int .i64 a0_2, .int .i64 a0_3, .int .i64 a0_4, .int .i64 a0_5] 23 (0, 0)) (by (with_reducible repeat (first | refine k_n ?_ _ | refine k_d ?_ | refine k_a ?_ _)); exact BK148.out) hb); have n1_ := Aside0.mk (below_step (by repeat (first | (with_reducible first | exact HB.out | apply b_a | apply b_n | apply b_d | refine b_s ?_ GE148.out) | exact HB.out)) hb); have n2_ := Aside0.mk (hbox); have n3_ := Aside0.mk ((by rw [hg]; exact (below_size (by repeat (first | (with_reducible first | exact HB.out | apply b_a | apply b_n | apply b_d | refine b_s ?_ GE148.out) | exact HB.out))) : w.heap.size ≤ gb149)); have n4_ := Aside0.mk ((by rw [hg]; exact (below_size (by repeat (first | (with_reducible first | exact HB.out | apply b_a | apply b_n | apply b_d | refine b_s ?_ GE148.out) | exact HB.out))) : w.heap.size ≤ gb149)); have n5_ := Aside0.mk ((by rw [hg]; exact Nat.ne_of_lt (blk_lt (g := gb148) (o := .cells #[.int .i64 a0_0, .int .i64 a0_1, .int .i64 a0_2, .int .i64 a0_3, .int .i64 a0_4, .int .i64 a0_5] 23 (0, 0)) (by (with_reducible repeat (first | refine k_n ?_ _ | refine k_d ?_ | refine k_a ?_ _)); exact BK148.out)) : gb148 ≠ gb149)); have n6_ := Aside0.mk ((by rw [hg]; exact Nat.ne_of_gt (blk_lt (g := gb148) (o := .cells #[.int .i64 a0_0, .int .i64 a0_1, .int .i64 a0_2, .int .i64 a0_3, .int .i64 a0_4, .int .i64 a0_5] 23 (0, 0)) (by (with_reducible repeat (first | refine k_n ?_ _ | refine k_d ?_ | refine k_a ?_ _)); exact BK148.out)) : gb149 ≠ gb148)); clear BK148; clear HB; have BK148 := n0_; have HB := n1_; have BK149 := n2_; have GW149 := n3_; have GE149 := n4_; have NB148_149 := n5_; have NB149_148 := n6_; clear n0_ n1_ n2_ n3_ n4_ n5_ n6_; clear hb hbox hg; have hnb41 := NB148_149.out; have hnc41 := NB149_148.out; have hcz42_0 : w40.cell? ⟨gb148, 0, none⟩ = some (.int .i64 a0_0) := (blk_cell BK148.out 0).trans rfl; have hcz42_1 : w40.cell? ⟨gb148, 1, none⟩ = some (.int .i64 a0_1) := (blk_cell BK148.out 1).trans rfl; have hcz42_2 : w40.cell? ⟨gb148, 2, none⟩ = some (.int .i64 a0_2) := (blk_cell BK148.out 2).trans rfl; have hcz42_3 : w40.cell? ⟨gb148, 3, none⟩ = some (.int .i64 a0_3) := (blk_cell BK148.out 3).trans rfl; have hcz42_4 : w40.cell? ⟨gb148, 4, none⟩ = some (.int .i64 a0_4) := (blk_cell BK148.out 4).trans rfl; have hcz42_5 : w40.cell? ⟨gb148, 5, none⟩ = some (.int .i64 a0_5) := (blk_cell BK148.out 5).trans rfl; have hfz42_0 := blk_frozen BK148.out 0; have hfz42_1 := blk_frozen BK148.out 1; have hfz42_2 := blk_frozen BK148.out 2; have hfz42_3 := blk_frozen BK148.out 3; have hfz42_4 := blk_frozen BK148.out 4; have hfz42_5 := blk_frozen BK148.out 5) | ((with_reducible refine gate_callee (f := 21) rfl ?_); refine goesL_ (some 6) rfl rfl Try.func21 (by kernel_rfl) rfl #[.agg #[.int .i64 a0_0, .int .i64 a0_1, .int .i64 a0_2, .int .i64 a0_3, .int .i64 a0_4, .int .i64 a0_5]] rfl (by (try simp only [l_4, l_5, l_6]); first | done | rfl | (simp only [l_7, l_8]; rfl)) ?_; (with_reducible refine (pelotonref07_Right.calls a0_0 a0_1 a0_2 a0_3 a0_4 a0_5 true _ A3.out).mono ?_); rintro e w43 ⟨rfl, hb⟩; refine ⟨_, rfl, ?_⟩; have n0_ := Aside0.mk (blk_below (g := gb148) (o := .cells #[.int .i64 a0_0, .int .i64 a0_1, .int .i64 a0_2, .int .i64 a0_3, .int .i64 a0_4, .int .i64 a0_5] 23 (0, 0)) (by (with_reducible repeat (first | refine k_n ?_ _ | refine k_d ?_ | refine k_a ?_ _)); exact BK148.out) hb); have n1_ := Aside0.mk (blk_below (g := gb149) (o := .cells #[.int .i64 a1_0, .int .i64 a1_1] 25 (0, 0)) (by (with_reducible repeat (first | refine k_n ?_ _ | refine k_d ?_ | refine k_a ?_ _)); exact BK149.out) hb); have n2_ := Aside0.mk (below_step (by repeat (first | (with_reducible first | exact HB.out | apply b_a | apply b_n | apply b_d | refine b_s ?_ GE148.out | refine b_s ?_ GE149.out) | exact HB.out)) hb); clear BK148; clear BK149; clear HB; have BK148 := n0_; have BK149 := n1_; have HB := n2_; clear n0_ n1_ n2_; (try clear hb); (try clear hb2); (try clear hk); (try clear hi); have hcz44_0 : w43.cell? ⟨gb149, 0, none⟩ = some (.int .i64 a1_0) := (blk_cell BK149.out 0).trans rfl; have hcz44_1 : w43.cell? ⟨gb149, 1, none⟩ = some (.int .i64 a1_1) := (blk_cell BK149.out 1).trans rfl; have hfz44_0 := blk_frozen BK149.out 0; have hfz44_1 := blk_frozen BK149.out 1; have hcz45_0 : w43.cell? ⟨gb148, 0, none⟩ = some (.int .i64 a0_0) := (blk_cell BK148.out 0).trans rfl; have hcz45_1 : w43.cell? ⟨gb148, 1, none⟩ = some (.int .i64 a0_1) := (blk_cell BK148.out 1).trans rfl; have hcz45_2 : w43.cell? ⟨gb148, 2, none⟩ = some (.int .i64 a0_2) := (blk_cell BK148.out 2).trans rfl; have hcz45_3 : w43.cell? ⟨gb148, 3, none⟩ = some (.int .i64 a0_3) := (blk_cell BK148.out 3).trans rfl; have hcz45_4 : w43.cell? ⟨gb148, 4, none⟩ = some (.int .i64 a0_4) := (blk_cell BK148.out 4).trans rfl; have hcz45_5 : w43.cell? ⟨gb148, 5, none⟩ = some (.int .i64 a0_5) := (blk_cell BK148.out 5).trans rfl; have hfz45_0 := blk_frozen BK148.out 0; have hfz45_1 := blk_frozen BK148.out 1; have hfz45_2 := blk_frozen BK148.out 2; have hfz45_3 := blk_frozen BK148.out 3; have hfz45_4 := blk_frozen BK148.out 4; have hfz45_5 := blk_frozen BK148.out 5))
 go_ret
 exact ⟨by first | rfl | (simp [errW_none, errW_some] <;> rfl) | (simp [*, errW_none, errW_some] <;> rfl), by repeat (first | (with_reducible first | exact HB.out | apply b_a | apply b_n | apply b_d | refine b_s ?_ GE148.out | refine b_s ?_ GE149.out) | exact HB.out)⟩
/-! ### slice_Inner: function 13 -/
def slice_Inner.f (a0_0 : Int) (a0_1 : Int) (a0_2 : Int) (a0_3 : Int) (a0_4 : Int) (a0_5 : Int) (a1_0 : Int) (a1_1 : Int) (a2 : Int) : Option (Int × Int × Int) := (slice_Right.f a0_0 a0_1 a0_2 a0_3 a0_4 a0_5 a1_0 a1_1).bind fun t154 => ((slice_span.f t154 a2 a0_3 a1_1).bind fun bt155 => (some (bt155.1, bt155.2.1, bt155.2.2)))
def slice_Inner.T1 : Bool × List (List Nat × List Nat) := (true, [([], []), ([], []), ([0, 1], [0, 1]), ([], []), ([], []), ([4], [4]), ([], []), ([6], [6]), ([2, 3, 5, 7, 2], [2, 3, 5, 7]), ([8], [8]), ([8], [8]), ([9, 8, 0, 1, 2, 3, 4, 5, 6, 7, 8, 9, 10], [9]), ([10, 11, 0, 1, 2, 3, 4, 5, 6, 7, 8, 9, 10, 11], [10])])
def slice_Inner.B1 : List Nat := [0, 0, 3, 0, 0, 16, 0, 64, 255, 511, 511, 2047, 4095]
theorem slice_Inner.tab1 : rtab .any (opsOf Try.f13 1) = slice_Inner.T1 := by kernel_rfl
theorem slice_Inner.bits1 : waitsOk slice_Inner.T1.2 slice_Inner.B1 = true := by kernel_rfl
set_option maxHeartbeats 8000000 in
set_option maxRecDepth 100000 in
theorem slice_Inner.calls (a0_0 : Int) (a0_1 : Int) (a0_2 : Int) (a0_3 : Int) (a0_4 : Int) (a0_5 : Int) (a1_0 : Int) (a1_1 : Int) (a2 : Int) (r1 : Int) (r2 : Int) (r3 : Int) (w : World) (h : slice_Inner.f a0_0 a0_1 a0_2 a0_3 a0_4 a0_5 a1_0 a1_1 a2 = some (r1, r2, r3)) :
  Calls Try.prog 13 #[.agg #[.int .i64 a0_0, .int .i64 a0_1, .int .i64 a0_2, .int .i64 a0_3, .int .i64 a0_4, .int .i64 a0_5], .agg #[.int .i64 a1_0, .int .i64 a1_1], .int .i64 a2] w fun e w' => e = .returned (.tuple #[.agg #[.int .i64 r1, .int .i64 r2], .int .i64 r3]) ∧ Below w.heap.size w w' := by
 have hu23 := Try.underlying23
 have hu25 := Try.underlying25
 have hu29 := Try.underlying29
 have HB := Aside0.mk (Below.refl w.heap.size w)
 have H : ((slice_Right.f a0_0 a0_1 a0_2 a0_3 a0_4 a0_5 a1_0 a1_1).bind fun t154 => ((slice_span.f t154 a2 a0_3 a1_1).bind fun bt155 => (some (bt155.1, bt155.2.1, bt155.2.2)))) = some (r1, r2, r3) := h
 clear h
 replace H := Option.bind_eq_some_iff.mp H
 obtain ⟨t154, A40, H⟩ := H
 replace H : ((slice_span.f t154 a2 a0_3 a1_1).bind fun bt155 => (some (bt155.1, bt155.2.1, bt155.2.2))) = some (r1, r2, r3) := H
 have A4 := Aside0.mk A40
 clear A40
 replace H := Option.bind_eq_some_iff.mp H
 obtain ⟨⟨t155, t156, t157⟩, A50, H⟩ := H
 replace H : (some (t155, t156, t157)) = some (r1, r2, r3) := H
 have A5 := Aside0.mk A50
 clear A50
 simp only [Option.some.injEq, Prod.mk.injEq] at H
 obtain ⟨rfl, rfl, rfl⟩ := H
 go_enter Try.func13, Try.ntmps13
 try go_wp2_with (first | ((with_reducible refine gate_dst (N := 3) rfl ?_); refine box_event ?hg (N := 3) ?hd (cs := #[.int .i64 a0_0, .int .i64 a0_1, .int .i64 a0_2, .int .i64 a0_3, .int .i64 a0_4, .int .i64 a0_5]) (t := 23) ?hr ?_; (case hd => rfl); (case hg => rfl); (case hr => first | (go_simp; done) | (go_simp; rfl)); intro gb151 hg w6 hbox hb; have n0_ := Aside0.mk (below_step (by repeat (first | (with_reducible first | exact HB.out | apply b_a | apply b_n | apply b_d) | exact HB.out)) hb); have n1_ := Aside0.mk (hbox); have n2_ := Aside0.mk ((by rw [hg]; exact (below_size (by repeat (first | (with_reducible first | exact HB.out | apply b_a | apply b_n | apply b_d) | exact HB.out))) : w.heap.size ≤ gb151)); have n3_ := Aside0.mk ((by rw [hg]; exact (below_size (by repeat (first | (with_reducible first | exact HB.out | apply b_a | apply b_n | apply b_d) | exact HB.out))) : w.heap.size ≤ gb151)); clear HB; have HB := n0_; have BK151 := n1_; have GW151 := n2_; have GE151 := n3_; clear n0_ n1_ n2_ n3_; clear hb hbox hg) | ((with_reducible refine gate_dst (N := 4) rfl ?_); refine box_event ?hg (N := 4) ?hd (cs := #[.int .i64 a1_0, .int .i64 a1_1]) (t := 25) ?hr ?_; (case hd => rfl); (case hg => rfl); (case hr => first | (go_simp; done) | (go_simp; rfl)); intro gb152 hg w7 hbox hb; have n0_ := Aside0.mk (blk_below (g := gb151) (o := .cells #[.int .i64 a0_0, .int .i64 a0_1, .int .i64 a0_2, .int .i64 a0_3, .int .i64 a0_4, .int .i64 a0_5] 23 (0, 0)) (by (with_reducible repeat (first | refine k_n ?_ _ | refine k_d ?_ | refine k_a ?_ _)); exact BK151.out) hb); have n1_ := Aside0.mk (below_step (by repeat (first | (with_reducible first | exact HB.out | apply b_a | apply b_n | apply b_d | refine b_s ?_ GE151.out) | exact HB.out)) hb); have n2_ := Aside0.mk (hbox); have n3_ := Aside0.mk ((by rw [hg]; exact (below_size (by repeat (first | (with_reducible first | exact HB.out | apply b_a | apply b_n | apply b_d | refine b_s ?_ GE151.out) | exact HB.out))) : w.heap.size ≤ gb152)); have n4_ := Aside0.mk ((by rw [hg]; exact (below_size (by repeat (first | (with_reducible first | exact HB.out | apply b_a | apply b_n | apply b_d | refine b_s ?_ GE151.out) | exact HB.out))) : w.heap.size ≤ gb152)); have n5_ := Aside0.mk ((by rw [hg]; exact Nat.ne_of_lt (blk_lt (g := gb151) (o := .cells #[.int .i64 a0_0, .int .i64 a0_1, .int .i64 a0_2, .int .i64 a0_3, .int .i64 a0_4, .int .i64 a0_5] 23 (0, 0)) (by (with_reducible repeat (first | refine k_n ?_ _ | refine k_d ?_ | refine k_a ?_ _)); exact BK151.out)) : gb151 ≠ gb152)); have n6_ := Aside0.mk ((by rw [hg]; exact Nat.ne_of_gt (blk_lt (g := gb151) (o := .cells #[.int .i64 a0_0, .int .i64 a0_1, .int .i64 a0_2, .int .i64 a0_3, .int .i64 a0_4, .int .i64 a0_5] 23 (0, 0)) (by (with_reducible repeat (first | refine k_n ?_ _ | refine k_d ?_ | refine k_a ?_ _)); exact BK151.out)) : gb152 ≠ gb151)); clear BK151; clear HB; have BK151 := n0_; have HB := n1_; have BK152 := n2_; have GW152 := n3_; have GE152 := n4_; have NB151_152 := n5_; have NB152_151 := n6_; clear n0_ n1_ n2_ n3_ n4_ n5_ n6_; clear hb hbox hg) | ((with_reducible refine gate_dst (N := 6) rfl ?_); refine box_event ?hg (N := 6) ?hd (cs := #[.int .i64 0, .int .i64 0]) (t := 29) ?hr ?_; (case hd => rfl); (case hg => rfl); (case hr => first | (go_simp; done) | (go_simp; rfl)); intro gb153 hg w8 hbox hb; have n0_ := Aside0.mk (blk_below (g := gb151) (o := .cells #[.int .i64 a0_0, .int .i64 a0_1, .int .i64 a0_2, .int .i64 a0_3, .int .i64 a0_4, .int .i64 a0_5] 23 (0, 0)) (by (with_reducible repeat (first | refine k_n ?_ _ | refine k_d ?_ | refine k_a ?_ _)); exact BK151.out) hb); have n1_ := Aside0.mk (blk_below (g := gb152) (o := .cells #[.int .i64 a1_0, .int .i64 a1_1] 25 (0, 0)) (by (with_reducible repeat (first | refine k_n ?_ _ | refine k_d ?_ | refine k_a ?_ _)); exact BK152.out) hb); have n2_ := Aside0.mk (below_step (by repeat (first | (with_reducible first | exact HB.out | apply b_a | apply b_n | apply b_d | refine b_s ?_ GE151.out | refine b_s ?_ GE152.out) | exact HB.out)) hb); have n3_ := Aside0.mk (hbox); have n4_ := Aside0.mk ((by rw [hg]; exact (below_size (by repeat (first | (with_reducible first | exact HB.out | apply b_a | apply b_n | apply b_d | refine b_s ?_ GE151.out | refine b_s ?_ GE152.out) | exact HB.out))) : w.heap.size ≤ gb153)); have n5_ := Aside0.mk ((by rw [hg]; exact (below_size (by repeat (first | (with_reducible first | exact HB.out | apply b_a | apply b_n | apply b_d | refine b_s ?_ GE151.out | refine b_s ?_ GE152.out) | exact HB.out))) : w.heap.size ≤ gb153)); have n6_ := Aside0.mk ((by rw [hg]; exact Nat.ne_of_lt (blk_lt (g := gb151) (o := .cells #[.int .i64 a0_0, .int .i64 a0_1, .int .i64 a0_2, .int .i64 a0_3, .int .i64 a0_4, .int .i64 a0_5] 23 (0, 0)) (by (with_reducible repeat (first | refine k_n ?_ _ | refine k_d ?_ | refine k_a ?_ _)); exact BK151.out)) : gb151 ≠ gb153)); have n7_ := Aside0.mk ((by rw [hg]; exact Nat.ne_of_gt (blk_lt (g := gb151) (o := .cells #[.int .i64 a0_0, .int .i64 a0_1, .int .i64 a0_2, .int .i64 a0_3, .int .i64 a0_4, .int .i64 a0_5] 23 (0, 0)) (by (with_reducible repeat (first | refine k_n ?_ _ | refine k_d ?_ | refine k_a ?_ _)); exact BK151.out)) : gb153 ≠ gb151)); have n8_ := Aside0.mk ((by rw [hg]; exact Nat.ne_of_lt (blk_lt (g := gb152) (o := .cells #[.int .i64 a1_0, .int .i64 a1_1] 25 (0, 0)) (by (with_reducible repeat (first | refine k_n ?_ _ | refine k_d ?_ | refine k_a ?_ _)); exact BK152.out)) : gb152 ≠ gb153)); have n9_ := Aside0.mk ((by rw [hg]; exact Nat.ne_of_gt (blk_lt (g := gb152) (o := .cells #[.int .i64 a1_0, .int .i64 a1_1] 25 (0, 0)) (by (with_reducible repeat (first | refine k_n ?_ _ | refine k_d ?_ | refine k_a ?_ _)); exact BK152.out)) : gb153 ≠ gb152)); clear BK151; clear BK152; clear HB; have BK151 := n0_; have BK152 := n1_; have HB := n2_; have BK153 := n3_; have GW153 := n4_; have GE153 := n5_; have NB151_153 := n6_; have NB153_151 := n7_; have NB152_153 := n8_; have NB153_152 := n9_; clear n0_ n1_ n2_ n3_ n4_ n5_ n6_ n7_ n8_ n9_; clear hb hbox hg))
 have n0_ := Aside0.mk (k_d BK151.out)
 have n1_ := Aside0.mk (k_d BK152.out)
 have n2_ := Aside0.mk (k_d BK153.out)
 have n3_ := Aside0.mk (b_d HB.out)
 clear BK151
 clear BK152
 clear BK153
 clear HB
 have BK151 := n0_
 have BK152 := n1_
 have BK153 := n2_
 have HB := n3_
 clear n0_ n1_ n2_ n3_
 refine start_ (n := 13) (S := fun w' => w'.cell? ⟨gb151, 0, none⟩ = some (.int .i64 a0_0) ∧ w'.cell? ⟨gb151, 1, none⟩ = some (.int .i64 a0_1) ∧ w'.cell? ⟨gb151, 2, none⟩ = some (.int .i64 a0_2) ∧ w'.cell? ⟨gb151, 3, none⟩ = some (.int .i64 a0_3) ∧ w'.cell? ⟨gb151, 4, none⟩ = some (.int .i64 a0_4) ∧ w'.cell? ⟨gb151, 5, none⟩ = some (.int .i64 a0_5) ∧ w'.cell? ⟨gb152, 0, none⟩ = some (.int .i64 a1_0) ∧ w'.cell? ⟨gb152, 1, none⟩ = some (.int .i64 a1_1)) (ds := []) #[false, false, false, false, false, false, false, false, false, false, false, false, false] (by kernel_rfl) rfl rfl ⟨(blk_cell BK151.out 0).trans rfl, (blk_cell BK151.out 1).trans rfl, (blk_cell BK151.out 2).trans rfl, (blk_cell BK151.out 3).trans rfl, (blk_cell BK151.out 4).trans rfl, (blk_cell BK151.out 5).trans rfl, (blk_cell BK152.out 0).trans rfl, (blk_cell BK152.out 1).trans rfl⟩ (fun hHeld => ?_); refine with_tabW slice_Inner.tab1 slice_Inner.bits1 (fun HT_ HW_ => ?_)
 generalize w8.drew = w9 at BK151 BK152 BK153 HB hHeld ⊢
 refine pure_ (i := 3) (N := some 11) (v := ?_) (a' := ?_) #[false, false, false, true, false, false, false, false, false, false, false, false, false] rfl rfl (any_of HT_.out (by kernel_rfl)) (fun _ _ _ h => h) (Or.inl ⟨by rfl, ?_⟩) ?_ ?_
 rotate_left
 ·
  intro w'
  go_simp
  with_reducible rfl
 rotate_left
 ·
  simp only [Act.put, l_1, l_2, l_3, i64_w, i32_w]
  rfl
 refine pure_ (i := 4) (N := some 12) (v := ?_) (a' := ?_) #[false, false, false, true, true, false, false, false, false, false, false, false, false] rfl rfl (any_of HT_.out (by kernel_rfl)) (fun _ _ _ h => h) (Or.inl ⟨by rfl, ?_⟩) ?_ ?_
 rotate_left
 ·
  intro w'
  go_simp
  with_reducible rfl
 rotate_left
 ·
  simp only [Act.put, l_1, l_2, l_3, i64_w, i32_w]
  rfl
 refine pure_ (i := 6) (N := some 14) (v := ?_) (a' := ?_) #[false, false, false, true, true, false, true, false, false, false, false, false, false] rfl rfl (any_of HT_.out (by kernel_rfl)) (fun _ _ _ h => h) (Or.inl ⟨by rfl, ?_⟩) ?_ ?_
 rotate_left
 ·
  intro w'
  go_simp
  with_reducible rfl
 rotate_left
 ·
  simp only [Act.put, l_1, l_2, l_3, i64_w, i32_w]
  rfl
 refine take_ (i := 0) (N := some 8) (v := ?_) (a' := ?_) #[true, false, false, true, true, false, true, false, false, false, false, false, false] rfl rfl (take_ofW HT_.out HW_.out (by kernel_rfl)) (fun _ _ _ h => h) (Or.inl ⟨by rfl, ?_⟩) hHeld ?_ ?_
 rotate_left
 ·
  rintro w' ⟨s0, s1, s2, s3, s4, s5, s6, s7⟩
  go_simp
  with_reducible rfl
 rotate_left
 ·
  simp only [Act.put, l_1, l_2, l_3, i64_w, i32_w]
  rfl
 refine take_ (i := 1) (N := some 9) (v := ?_) (a' := ?_) #[true, true, false, true, true, false, true, false, false, false, false, false, false] rfl rfl (take_ofW HT_.out HW_.out (by kernel_rfl)) (fun _ _ _ h => h) (Or.inl ⟨by rfl, ?_⟩) hHeld ?_ ?_
 rotate_left
 ·
  rintro w' ⟨s0, s1, s2, s3, s4, s5, s6, s7⟩
  go_simp
  with_reducible rfl
 rotate_left
 ·
  simp only [Act.put, l_1, l_2, l_3, i64_w, i32_w]
  rfl
 refine take_ (i := 5) (N := some 13) (v := ?_) (a' := ?_) #[true, true, false, true, true, true, true, false, false, false, false, false, false] rfl rfl (take_ofW HT_.out HW_.out (by kernel_rfl)) (fun _ _ _ h => h) (Or.inl ⟨by rfl, ?_⟩) hHeld ?_ ?_
 rotate_left
 ·
  rintro w' ⟨s0, s1, s2, s3, s4, s5, s6, s7⟩
  go_simp
  with_reducible rfl
 rotate_left
 ·
  simp only [Act.put, l_1, l_2, l_3, i64_w, i32_w]
  rfl
 refine take_ (i := 7) (N := some 15) (v := ?_) (a' := ?_) #[true, true, false, true, true, true, true, true, false, false, false, false, false] rfl rfl (take_ofW HT_.out HW_.out (by kernel_rfl)) (fun _ _ _ h => h) (Or.inl ⟨by rfl, ?_⟩) hHeld ?_ ?_
 rotate_left
 ·
  rintro w' ⟨s0, s1, s2, s3, s4, s5, s6, s7⟩
  go_simp
  with_reducible rfl
 rotate_left
 ·
  simp only [Act.put, l_1, l_2, l_3, i64_w, i32_w]
  rfl
 refine one_ (i := 2) (N := some 10) #[true, true, true, true, true, true, true, true, false, false, false, false, false] rfl rfl (one_of HT_.out (by kernel_rfl)) (by decide) (fun K hK => ?_)
 refine goes_ Try.func9 (by kernel_rfl) rfl #[.agg #[.int .i64 a0_0, .int .i64 a0_1, .int .i64 a0_2, .int .i64 a0_3, .int .i64 a0_4, .int .i64 a0_5], .agg #[.int .i64 a1_0, .int .i64 a1_1]] (by rfl) rfl rfl (by (try simp only [l_4, l_5, l_6]); first | done | rfl | (simp only [l_7, l_8]; rfl)) ?_
 with_reducible refine (slice_Right.calls a0_0 a0_1 a0_2 a0_3 a0_4 a0_5 a1_0 a1_1 t154 _ A4.out).mono ?_
 rintro e w10 ⟨rfl, hb⟩
 refine ⟨_, rfl, ?_⟩
 have n0_ := Aside0.mk (blk_below (g := gb151) (o := .cells #[.int .i64 a0_0, .int .i64 a0_1, .int .i64 a0_2, .int .i64 a0_3, .int .i64 a0_4, .int .i64 a0_5] 23 (0, 0)) (by (with_reducible repeat (first | refine k_n ?_ _ | refine k_d ?_ | refine k_a ?_ _)); exact BK151.out) hb)
 have n1_ := Aside0.mk (blk_below (g := gb152) (o := .cells #[.int .i64 a1_0, .int .i64 a1_1] 25 (0, 0)) (by (with_reducible repeat (first | refine k_n ?_ _ | refine k_d ?_ | refine k_a ?_ _)); exact BK152.out) hb)
 have n2_ := Aside0.mk (blk_below (g := gb153) (o := .cells #[.int .i64 0, .int .i64 0] 29 (0, 0)) (by (with_reducible repeat (first | refine k_n ?_ _ | refine k_d ?_ | refine k_a ?_ _)); exact BK153.out) hb)
 have n3_ := Aside0.mk (below_step (by repeat (first | (with_reducible first | exact HB.out | apply b_a | apply b_n | apply b_d | refine b_s ?_ GE151.out | refine b_s ?_ GE152.out | refine b_s ?_ GE153.out) | exact HB.out)) hb)
 clear BK151
 clear BK152
 clear BK153
 clear HB
 have BK151 := n0_
 have BK152 := n1_
 have BK153 := n2_
 have HB := n3_
 clear n0_ n1_ n2_ n3_
 (try clear hb)
 (try clear hb2)
 (try clear hk)
 (try clear hi)
 refine hK.out _ _ ⟨(blk_cell BK151.out 0).trans rfl, (blk_cell BK151.out 1).trans rfl, (blk_cell BK151.out 2).trans rfl, (blk_cell BK151.out 3).trans rfl, (blk_cell BK151.out 4).trans rfl, (blk_cell BK151.out 5).trans rfl, (blk_cell BK152.out 0).trans rfl, (blk_cell BK152.out 1).trans rfl⟩ (fun hHeld => ?_)
 clear hK K
 refine norm_ (a' := ?_) ?_ ?_
 rotate_left
 ·
  show Act.put _ (some 10) _ = _
  simp only [Act.put, l_1, l_2, l_3, i64_w, i32_w]
  rfl
 refine one_ (i := 8) (N := some 16) #[true, true, true, true, true, true, true, true, true, false, false, false, false] rfl rfl (one_of HT_.out (by kernel_rfl)) (by decide) (fun K hK => ?_)
 refine goes_ Try.func24 (by kernel_rfl) rfl #[.bool t154, .int .i64 a2, .int .i64 a0_3, .int .i64 a1_1] (by rfl) rfl rfl (by (try simp only [l_4, l_5, l_6]); first | done | rfl | (simp only [l_7, l_8]; rfl)) ?_
 with_reducible refine (slice_span.calls t154 a2 a0_3 a1_1 t155 t156 t157 _ A5.out).mono ?_
 rintro e w11 ⟨rfl, hb⟩
 refine ⟨_, rfl, ?_⟩
 have n0_ := Aside0.mk (blk_below (g := gb151) (o := .cells #[.int .i64 a0_0, .int .i64 a0_1, .int .i64 a0_2, .int .i64 a0_3, .int .i64 a0_4, .int .i64 a0_5] 23 (0, 0)) (by (with_reducible repeat (first | refine k_n ?_ _ | refine k_d ?_ | refine k_a ?_ _)); exact BK151.out) hb)
 have n1_ := Aside0.mk (blk_below (g := gb152) (o := .cells #[.int .i64 a1_0, .int .i64 a1_1] 25 (0, 0)) (by (with_reducible repeat (first | refine k_n ?_ _ | refine k_d ?_ | refine k_a ?_ _)); exact BK152.out) hb)
 have n2_ := Aside0.mk (blk_below (g := gb153) (o := .cells #[.int .i64 0, .int .i64 0] 29 (0, 0)) (by (with_reducible repeat (first | refine k_n ?_ _ | refine k_d ?_ | refine k_a ?_ _)); exact BK153.out) hb)
 have n3_ := Aside0.mk (below_step (by repeat (first | (with_reducible first | exact HB.out | apply b_a | apply b_n | apply b_d | refine b_s ?_ GE151.out | refine b_s ?_ GE152.out | refine b_s ?_ GE153.out) | exact HB.out)) hb)
 clear BK151
 clear BK152
 clear BK153
 clear HB
 have BK151 := n0_
 have BK152 := n1_
 have BK153 := n2_
 have HB := n3_
 clear n0_ n1_ n2_ n3_
 (try clear hb)
 (try clear hb2)
 (try clear hk)
 (try clear hi)
 refine hK.out _ _ ⟨(blk_cell BK151.out 0).trans rfl, (blk_cell BK151.out 1).trans rfl, (blk_cell BK151.out 2).trans rfl, (blk_cell BK151.out 3).trans rfl, (blk_cell BK151.out 4).trans rfl, (blk_cell BK151.out 5).trans rfl, (blk_cell BK152.out 0).trans rfl, (blk_cell BK152.out 1).trans rfl⟩ (fun hHeld => ?_)
 clear hK K
 refine norm_ (a' := ?_) ?_ ?_
 rotate_left
 ·
  show Act.put _ (some 16) _ = _
  simp only [Act.put, l_1, l_2, l_3, i64_w, i32_w]
  rfl
 refine pure_ (i := 9) (N := some 17) (v := ?_) (a' := ?_) #[true, true, true, true, true, true, true, true, true, true, false, false, false] rfl rfl (any_of HT_.out (by kernel_rfl)) (fun _ _ _ h => h) (Or.inl ⟨by rfl, ?_⟩) ?_ ?_
 rotate_left
 ·
  intro w'
  go_simp
  with_reducible rfl
 rotate_left
 ·
  simp only [Act.put, l_1, l_2, l_3, i64_w, i32_w]
  rfl
 refine pure_ (i := 10) (N := some 18) (v := ?_) (a' := ?_) #[true, true, true, true, true, true, true, true, true, true, true, false, false] rfl rfl (any_of HT_.out (by kernel_rfl)) (fun _ _ _ h => h) (Or.inl ⟨by rfl, ?_⟩) ?_ ?_
 rotate_left
 ·
  intro w'
  go_simp
  with_reducible rfl
 rotate_left
 ·
  simp only [Act.put, l_1, l_2, l_3, i64_w, i32_w]
  rfl
 refine one_ (i := 11) (N := none) #[true, true, true, true, true, true, true, true, true, true, true, true, false] rfl rfl (one_of HT_.out (by kernel_rfl)) (by decide) (fun K hK => ?_)
 have hs12 : w11.cell? ⟨gb153, 0, none⟩ = some (.int .i64 0) := (blk_cell BK153.out 0).trans rfl
 have hfs12 := blk_frozen BK153.out 0
 have hns12_0 := NB151_153.out
 have hns12_1 := NB152_153.out
 have hms12_0 := NB153_151.out
 have hms12_1 := NB153_152.out
 have hs13 : w11.cell? ⟨gb153, 1, none⟩ = some (.int .i64 0) := (blk_cell BK153.out 1).trans rfl
 have hfs13 := blk_frozen BK153.out 1
 have hns13_0 := NB151_153.out
 have hns13_1 := NB152_153.out
 have hms13_0 := NB153_151.out
 have hms13_1 := NB153_152.out
 refine skip_ (w1 := ?_) (by rfl) rfl ?_ ?_
 rotate_left
 ·
  go_simp
  rfl
 refine hK.out _ _ ⟨((cell_far (p := ⟨gb153, _, none⟩) NB151_153.out _).trans (((cell_far (p := ⟨gb153, _, none⟩) NB151_153.out _).trans (hHeld.1)))), ((cell_far (p := ⟨gb153, _, none⟩) NB151_153.out _).trans (((cell_far (p := ⟨gb153, _, none⟩) NB151_153.out _).trans (hHeld.2.1)))), ((cell_far (p := ⟨gb153, _, none⟩) NB151_153.out _).trans (((cell_far (p := ⟨gb153, _, none⟩) NB151_153.out _).trans (hHeld.2.2.1)))), ((cell_far (p := ⟨gb153, _, none⟩) NB151_153.out _).trans (((cell_far (p := ⟨gb153, _, none⟩) NB151_153.out _).trans (hHeld.2.2.2.1)))), ((cell_far (p := ⟨gb153, _, none⟩) NB151_153.out _).trans (((cell_far (p := ⟨gb153, _, none⟩) NB151_153.out _).trans (hHeld.2.2.2.2.1)))), ((cell_far (p := ⟨gb153, _, none⟩) NB151_153.out _).trans (((cell_far (p := ⟨gb153, _, none⟩) NB151_153.out _).trans (hHeld.2.2.2.2.2.1)))), ((cell_far (p := ⟨gb153, _, none⟩) NB152_153.out _).trans (((cell_far (p := ⟨gb153, _, none⟩) NB152_153.out _).trans (hHeld.2.2.2.2.2.2.1)))), ((cell_far (p := ⟨gb153, _, none⟩) NB152_153.out _).trans (((cell_far (p := ⟨gb153, _, none⟩) NB152_153.out _).trans (hHeld.2.2.2.2.2.2.2))))⟩ (fun hHeld => ?_)
 clear hK K
 refine pure_ (i := 12) (N := some 7) (v := ?_) (a' := ?_) #[true, true, true, true, true, true, true, true, true, true, true, true, true] rfl rfl (any_of HT_.out (by kernel_rfl)) (fun _ _ _ h => h) (Or.inl ⟨by rfl, ?_⟩) ?_ ?_
 rotate_left
 ·
  intro w'
  go_simp
  with_reducible rfl
 rotate_left
 ·
  simp only [Act.put, l_1, l_2, l_3, i64_w, i32_w]
  rfl
 refine done_ (done_of HT_.out (by kernel_rfl)) ?_
 try go_wp2
 refine bodyPost_ret (results_ct rfl _ _ gb153 29 #[.int .i64 t155, .int .i64 t156] (0, 0) _ rfl (by (with_reducible repeat (first | refine k_n ?_ _ | refine k_d ?_ | refine k_a ?_ _)); refine blk_put (cs := #[.int .i64 t155, .int .i64 0]) ?_ 1 _ rfl; (with_reducible repeat (first | refine k_n ?_ _ | refine k_d ?_ | refine k_a ?_ _)); refine blk_put (cs := #[.int .i64 0, .int .i64 0]) ?_ 0 _ rfl; (with_reducible repeat (first | refine k_n ?_ _ | refine k_d ?_ | refine k_a ?_ _)); exact BK153.out) Try.underlying29 rfl (by kernel_rfl)) rfl ?_
 exact ⟨by first | rfl | (simp [errW_none, errW_some] <;> rfl) | (simp [*, errW_none, errW_some] <;> rfl), by repeat (first | (with_reducible first | exact HB.out | apply b_a | apply b_n | apply b_d | refine b_s ?_ GE151.out | refine b_s ?_ GE152.out | refine b_s ?_ GE153.out) | exact HB.out)⟩

/-! ### pelotonref10_Span: function 14 -/
def pelotonref10_Span.f (a0 : Int) (a1 : Int) (a2 : Int) : Option (Int × Int) := if a2 = 0 then (none) else (some (wrap64 (Int.tdiv (wrap64 (a0 * a1)) a2), wrap64 (Int.tdiv (wrap64 ((wrap64 (a0 + 1)) * a1)) a2)))
def pelotonref10_Span.T1 : Bool × List (List Nat × List Nat) := (true, [([], []), ([], []), ([0, 1], [0, 1]), ([], []), ([2, 3], [2, 3]), ([], []), ([5], [5]), ([], []), ([6, 7], [6, 7]), ([], []), ([8, 9], [8, 9]), ([4, 10], [4, 10]), ([11, 0, 1, 2, 3, 4, 5, 6, 7, 8, 9, 10, 11], [11])])
def pelotonref10_Span.B1 : List Nat := [0, 0, 3, 0, 15, 0, 32, 0, 224, 0, 992, 2047, 4095]
theorem pelotonref10_Span.tab1 : rtab .any (opsOf Try.f14 1) = pelotonref10_Span.T1 := by kernel_rfl
theorem pelotonref10_Span.bits1 : waitsOk pelotonref10_Span.T1.2 pelotonref10_Span.B1 = true := by kernel_rfl
set_option maxHeartbeats 8000000 in
set_option maxRecDepth 100000 in
theorem pelotonref10_Span.calls (a0 : Int) (a1 : Int) (a2 : Int) (r1 : Int) (r2 : Int) (w : World) (h : pelotonref10_Span.f a0 a1 a2 = some (r1, r2)) :
  Calls Try.prog 14 #[.int .i64 a0, .int .i64 a1, .int .i64 a2] w fun e w' => e = .returned (.agg #[.int .i64 r1, .int .i64 r2]) ∧ Below w.heap.size w w' := by
 have hu29 := Try.underlying29
 have HB := Aside0.mk (Below.refl w.heap.size w)
 have H : (if a2 = 0 then (none) else (some (wrap64 (Int.tdiv (wrap64 (a0 * a1)) a2), wrap64 (Int.tdiv (wrap64 ((wrap64 (a0 + 1)) * a1)) a2)))) = some (r1, r2) := h
 clear h
 by_cases c4 : a2 = 0
 ·
  rw [if_pos c4] at H
  exact absurd H (by simp)
 rw [if_neg c4] at H
 have c4b0 : (a2 == 0) = false := beq_eq_false_iff_ne.mpr c4
 have c4b1 : (a2 != 0) = true := bne_iff_ne.mpr c4
 simp only [Option.some.injEq, Prod.mk.injEq] at H
 obtain ⟨rfl, rfl⟩ := H
 go_enter Try.func14, Try.ntmps14
 try go_wp2_with (first | ((with_reducible refine gate_dst (N := 6) rfl ?_); refine box_event ?hg (N := 6) ?hd (cs := #[.int .i64 0, .int .i64 0]) (t := 29) ?hr ?_; (case hd => rfl); (case hg => rfl); (case hr => first | (go_simp; done) | (go_simp; rfl)); intro gb158 hg w5 hbox hb; have n0_ := Aside0.mk (below_step (by repeat (first | (with_reducible first | exact HB.out | apply b_a | apply b_n | apply b_d) | exact HB.out)) hb); have n1_ := Aside0.mk (hbox); have n2_ := Aside0.mk ((by rw [hg]; exact (below_size (by repeat (first | (with_reducible first | exact HB.out | apply b_a | apply b_n | apply b_d) | exact HB.out))) : w.heap.size ≤ gb158)); have n3_ := Aside0.mk ((by rw [hg]; exact (below_size (by repeat (first | (with_reducible first | exact HB.out | apply b_a | apply b_n | apply b_d) | exact HB.out))) : w.heap.size ≤ gb158)); clear HB; have HB := n0_; have BK158 := n1_; have GW158 := n2_; have GE158 := n3_; clear n0_ n1_ n2_ n3_; clear hb hbox hg))
 have n0_ := Aside0.mk (k_d BK158.out)
 have n1_ := Aside0.mk (b_d HB.out)
 clear BK158
 clear HB
 have BK158 := n0_
 have HB := n1_
 clear n0_ n1_
 refine start_ (n := 13) (S := fun w' => True) (ds := []) #[false, false, false, false, false, false, false, false, false, false, false, false, false] (by kernel_rfl) rfl rfl trivial (fun hHeld => ?_); refine with_tabW pelotonref10_Span.tab1 pelotonref10_Span.bits1 (fun HT_ HW_ => ?_)
 generalize w5.drew = w6 at BK158 HB hHeld ⊢
 refine pure_ (i := 0) (N := some 7) (v := ?_) (a' := ?_) #[true, false, false, false, false, false, false, false, false, false, false, false, false] rfl rfl (any_of HT_.out (by kernel_rfl)) (fun _ _ _ h => h) (Or.inl ⟨by rfl, ?_⟩) ?_ ?_
 rotate_left
 ·
  intro w'
  go_simp
  with_reducible rfl
 rotate_left
 ·
  simp only [Act.put, l_1, l_2, l_3, i64_w, i32_w]
  rfl
 refine pure_ (i := 1) (N := some 8) (v := ?_) (a' := ?_) #[true, true, false, false, false, false, false, false, false, false, false, false, false] rfl rfl (any_of HT_.out (by kernel_rfl)) (fun _ _ _ h => h) (Or.inl ⟨by rfl, ?_⟩) ?_ ?_
 rotate_left
 ·
  intro w'
  go_simp
  with_reducible rfl
 rotate_left
 ·
  simp only [Act.put, l_1, l_2, l_3, i64_w, i32_w]
  rfl
 refine pure_ (i := 2) (N := some 9) (v := ?_) (a' := ?_) #[true, true, true, false, false, false, false, false, false, false, false, false, false] rfl rfl (any_of HT_.out (by kernel_rfl)) (fun _ _ _ h => h) (Or.inl ⟨by rfl, ?_⟩) ?_ ?_
 rotate_left
 ·
  intro w'
  go_simp
  with_reducible rfl
 rotate_left
 ·
  simp only [Act.put, l_1, l_2, l_3, i64_w, i32_w]
  rfl
 refine pure_ (i := 3) (N := some 10) (v := ?_) (a' := ?_) #[true, true, true, true, false, false, false, false, false, false, false, false, false] rfl rfl (any_of HT_.out (by kernel_rfl)) (fun _ _ _ h => h) (Or.inl ⟨by rfl, ?_⟩) ?_ ?_
 rotate_left
 ·
  intro w'
  go_simp
  with_reducible rfl
 rotate_left
 ·
  simp only [Act.put, l_1, l_2, l_3, i64_w, i32_w]
  rfl
 refine pure_ (i := 4) (N := some 11) (v := ?_) (a' := ?_) #[true, true, true, true, true, false, false, false, false, false, false, false, false] rfl rfl (any_of HT_.out (by kernel_rfl)) (fun _ _ _ h => h) (Or.inl ⟨by rfl, ?_⟩) ?_ ?_
 rotate_left
 ·
  intro w'
  go_simp
  with_reducible rfl
 rotate_left
 ·
  simp only [Act.put, l_1, l_2, l_3, i64_w, i32_w]
  rfl
 refine pure_ (i := 5) (N := some 12) (v := ?_) (a' := ?_) #[true, true, true, true, true, true, false, false, false, false, false, false, false] rfl rfl (any_of HT_.out (by kernel_rfl)) (fun _ _ _ h => h) (Or.inl ⟨by rfl, ?_⟩) ?_ ?_
 rotate_left
 ·
  intro w'
  go_simp
  with_reducible rfl
 rotate_left
 ·
  simp only [Act.put, l_1, l_2, l_3, i64_w, i32_w]
  rfl
 refine pure_ (i := 6) (N := some 13) (v := ?_) (a' := ?_) #[true, true, true, true, true, true, true, false, false, false, false, false, false] rfl rfl (any_of HT_.out (by kernel_rfl)) (fun _ _ _ h => h) (Or.inl ⟨by rfl, ?_⟩) ?_ ?_
 rotate_left
 ·
  intro w'
  go_simp
  with_reducible rfl
 rotate_left
 ·
  simp only [Act.put, l_1, l_2, l_3, i64_w, i32_w]
  rfl
 refine pure_ (i := 7) (N := some 14) (v := ?_) (a' := ?_) #[true, true, true, true, true, true, true, true, false, false, false, false, false] rfl rfl (any_of HT_.out (by kernel_rfl)) (fun _ _ _ h => h) (Or.inl ⟨by rfl, ?_⟩) ?_ ?_
 rotate_left
 ·
  intro w'
  go_simp
  with_reducible rfl
 rotate_left
 ·
  simp only [Act.put, l_1, l_2, l_3, i64_w, i32_w]
  rfl
 refine pure_ (i := 8) (N := some 15) (v := ?_) (a' := ?_) #[true, true, true, true, true, true, true, true, true, false, false, false, false] rfl rfl (any_of HT_.out (by kernel_rfl)) (fun _ _ _ h => h) (Or.inl ⟨by rfl, ?_⟩) ?_ ?_
 rotate_left
 ·
  intro w'
  go_simp
  with_reducible rfl
 rotate_left
 ·
  simp only [Act.put, l_1, l_2, l_3, i64_w, i32_w]
  rfl
 refine pure_ (i := 9) (N := some 16) (v := ?_) (a' := ?_) #[true, true, true, true, true, true, true, true, true, true, false, false, false] rfl rfl (any_of HT_.out (by kernel_rfl)) (fun _ _ _ h => h) (Or.inl ⟨by rfl, ?_⟩) ?_ ?_
 rotate_left
 ·
  intro w'
  go_simp
  with_reducible rfl
 rotate_left
 ·
  simp only [Act.put, l_1, l_2, l_3, i64_w, i32_w]
  rfl
 refine pure_ (i := 10) (N := some 17) (v := ?_) (a' := ?_) #[true, true, true, true, true, true, true, true, true, true, true, false, false] rfl rfl (any_of HT_.out (by kernel_rfl)) (fun _ _ _ h => h) (Or.inl ⟨by rfl, ?_⟩) ?_ ?_
 rotate_left
 ·
  intro w'
  go_simp
  with_reducible rfl
 rotate_left
 ·
  simp only [Act.put, l_1, l_2, l_3, i64_w, i32_w]
  rfl
 refine pure_ (i := 11) (N := some 18) (v := ?_) (a' := ?_) #[true, true, true, true, true, true, true, true, true, true, true, true, false] rfl rfl (any_of HT_.out (by kernel_rfl)) (fun _ _ _ h => h) (Or.inl ⟨by rfl, ?_⟩) ?_ ?_
 rotate_left
 ·
  intro w'
  go_simp
  with_reducible rfl
 rotate_left
 ·
  simp only [Act.put, l_1, l_2, l_3, i64_w, i32_w]
  rfl
 refine one_ (i := 12) (N := none) #[true, true, true, true, true, true, true, true, true, true, true, true, true] rfl rfl (one_of HT_.out (by kernel_rfl)) (by decide) (fun K hK => ?_)
 have hs7 : w6.cell? ⟨gb158, 0, none⟩ = some (.int .i64 0) := (blk_cell BK158.out 0).trans rfl
 have hfs7 := blk_frozen BK158.out 0
 have hs8 : w6.cell? ⟨gb158, 1, none⟩ = some (.int .i64 0) := (blk_cell BK158.out 1).trans rfl
 have hfs8 := blk_frozen BK158.out 1
 refine skip_ (w1 := ?_) (by rfl) rfl ?_ ?_
 rotate_left
 ·
  go_simp
  rfl
 refine hK.out _ _ trivial (fun hHeld => ?_)
 clear hK K
 refine done_ (done_of HT_.out (by kernel_rfl)) ?_
 try go_wp2
 refine bodyPost_ret (results_cell_row rfl _ _ gb158 29 #[.int .i64 (wrap64 (Int.tdiv (wrap64 (a0 * a1)) a2)), .int .i64 (wrap64 (Int.tdiv (wrap64 ((wrap64 (a0 + 1)) * a1)) a2))] (0, 0) _ rfl (by (with_reducible repeat (first | refine k_n ?_ _ | refine k_d ?_ | refine k_a ?_ _)); refine blk_put (cs := #[.int .i64 (wrap64 (Int.tdiv (wrap64 (a0 * a1)) a2)), .int .i64 0]) ?_ 1 _ rfl; (with_reducible repeat (first | refine k_n ?_ _ | refine k_d ?_ | refine k_a ?_ _)); refine blk_put (cs := #[.int .i64 0, .int .i64 0]) ?_ 0 _ rfl; (with_reducible repeat (first | refine k_n ?_ _ | refine k_d ?_ | refine k_a ?_ _)); exact BK158.out) Try.underlying29 rfl (by kernel_rfl)) rfl ?_
 exact ⟨by first | rfl | (simp [errW_none, errW_some] <;> rfl) | (simp [*, errW_none, errW_some] <;> rfl), by repeat (first | (with_reducible first | exact HB.out | apply b_a | apply b_n | apply b_d | refine b_s ?_ GE158.out) | exact HB.out)⟩

end Go.Proofs.Ytijkcjlkfjeedaa.QSliceCuts
