-- Written by a program of this session (a turned copy of the print) out of the translation. Lean checks it.
import Derived.Test.YtijkcjlkfjeedaaQSliceCutsx0
import Derived.Test.YtijkcjlkfjeedaaQSliceCutsx1
import Derived.Test.YtijkcjlkfjeedaaQSliceCutsx2
import Derived.Test.YtijkcjlkfjeedaaQSliceCutsx3
namespace Go.Proofs.Ytijkcjlkfjeedaa.QSliceCuts
open Go.RowKit Go.Proofs.YtijkcjlkfjeedaaW.PrintWords Go.Proofs.YtijkcjlkfjeedaaW.PrintLast Go.Proofs.YtijkcjlkfjeedaaW.PrintMore
attribute [local go_sem] max2_int min2_int max_two min_two max_three min_three max_four min_four   -- for this text's walks alone
open Go.Proofs.YtijkcjlkfjeedaaW.PrintWords renaming below_alloc → b_a, pw_below_drewN → b_n, below_drew1 → b_d, below_set → b_s, blk_drewN → k_n, blk_drew → k_d, blk_alloc → k_a
open List renaming setIfInBounds_toArray → l_1, set_cons_zero → l_2, set_cons_succ → l_3, map_toArray → l_4, map_cons → l_5, map_nil → l_6, length_drop → l_7, length_take → l_8
set_option linter.unusedVariables false
set_option linter.unusedSimpArgs false

attribute [local go_sem high] eqA29
/-! ### pelotonlaw10_awake: function 7 -/
def pelotonlaw10_awake.j0 : Nat → Bool → Option (Bool)
 | 0, _ => none
 | k + 1, x0 => some x0
def pelotonlaw10_awake.f (k : Nat)  : Option (Bool) := (slice_Layers.f 5 8 4 6 3 4 2 2 0).bind fun bt133 => ((slice_Layers.f 5 8 4 6 3 4 2 2 1).bind fun bt137 => ((slice_Heads.f 5 8 4 6 3 4 2 2 1).bind fun bt141 => ((slice_Workers.f 5 8 4 6 3 4 2 2).bind fun t145 => (if t145 = 4 then (if bt133.2.2 = 0 then (if (bt133.1 == 0 && (bt133.2.1 == 2)) = true then (if bt137.2.2 = 0 then (if (bt137.1 == 2 && (bt137.2.1 == 5)) = true then (if bt141.2.2 = 0 then (if (bt141.1 == 2 && (bt141.2.1 == 4)) = true then ((slice_Right.f 5 8 4 6 3 4 2 4).bind fun t146 => (pelotonlaw10_awake.j0 k (!t146))) else (pelotonlaw10_awake.j0 k false)) else (pelotonlaw10_awake.j0 k false)) else (pelotonlaw10_awake.j0 k false)) else (pelotonlaw10_awake.j0 k false)) else (pelotonlaw10_awake.j0 k false)) else (pelotonlaw10_awake.j0 k false)) else (pelotonlaw10_awake.j0 k false)))))
theorem pelotonlaw10_awake.mono_l : ∀ k, (∀ y0, LeO (pelotonlaw10_awake.j0 k y0) (pelotonlaw10_awake.j0 (k + 1) y0))
 | 0 => fun _ r h => by simp [pelotonlaw10_awake.j0] at h
 | k + 1 => by
  have ih0 := pelotonlaw10_awake.mono_l k
  ·
   intro y0
   unfold pelotonlaw10_awake.j0
   repeat' first
   | (with_reducible exact ih0 _)
   | (with_reducible exact LeO.refl _)
   | (with_reducible exact LeO.none _)
   | (with_reducible refine LeO.ite ?_ ?_)
   | (with_reducible refine LeO.bind ?_ (fun _ => ?_))
   | exact ih0 _
   | exact LeO.none _
   | refine LeO.ite ?_ ?_
   | refine LeO.bind ?_ (fun _ => ?_)
theorem pelotonlaw10_awake.mono : ∀ k, LeO (pelotonlaw10_awake.f k ) (pelotonlaw10_awake.f (k + 1) ) := by
 intro  k
 have ih0 := pelotonlaw10_awake.mono_l k
 unfold pelotonlaw10_awake.f
 repeat' first
   | (with_reducible exact ih0 _)
   | (with_reducible exact LeO.refl _)
   | (with_reducible exact LeO.none _)
   | (with_reducible refine LeO.ite ?_ ?_)
   | (with_reducible refine LeO.bind ?_ (fun _ => ?_))
   | exact ih0 _
   | exact LeO.none _
   | refine LeO.ite ?_ ?_
   | refine LeO.bind ?_ (fun _ => ?_)
set_option maxHeartbeats 8000000 in
set_option maxRecDepth 100000 in
theorem pelotonlaw10_awake.calls (k : Nat)  (r : Bool) (w : World) (h : pelotonlaw10_awake.f k  = some r) :
  Calls Try.prog 7 #[] w fun e w' => e = .returned (.bool r) ∧ Below w.heap.size w w' := by
 have hu23 := Try.underlying23
 have hu25 := Try.underlying25
 have hu29 := Try.underlying29
 have HB := Aside0.mk (Below.refl w.heap.size w)
 have H : ((slice_Layers.f 5 8 4 6 3 4 2 2 0).bind fun bt133 => ((slice_Layers.f 5 8 4 6 3 4 2 2 1).bind fun bt137 => ((slice_Heads.f 5 8 4 6 3 4 2 2 1).bind fun bt141 => ((slice_Workers.f 5 8 4 6 3 4 2 2).bind fun t145 => (if t145 = 4 then (if bt133.2.2 = 0 then (if (bt133.1 == 0 && (bt133.2.1 == 2)) = true then (if bt137.2.2 = 0 then (if (bt137.1 == 2 && (bt137.2.1 == 5)) = true then (if bt141.2.2 = 0 then (if (bt141.1 == 2 && (bt141.2.1 == 4)) = true then ((slice_Right.f 5 8 4 6 3 4 2 4).bind fun t146 => (pelotonlaw10_awake.j0 k (!t146))) else (pelotonlaw10_awake.j0 k false)) else (pelotonlaw10_awake.j0 k false)) else (pelotonlaw10_awake.j0 k false)) else (pelotonlaw10_awake.j0 k false)) else (pelotonlaw10_awake.j0 k false)) else (pelotonlaw10_awake.j0 k false)) else (pelotonlaw10_awake.j0 k false)))))) = some r := h
 clear h
 replace H := Option.bind_eq_some_iff.mp H
 obtain ⟨⟨t133, t134, t135⟩, A10, H⟩ := H
 replace H : ((slice_Layers.f 5 8 4 6 3 4 2 2 1).bind fun bt137 => ((slice_Heads.f 5 8 4 6 3 4 2 2 1).bind fun bt141 => ((slice_Workers.f 5 8 4 6 3 4 2 2).bind fun t145 => (if t145 = 4 then (if t135 = 0 then (if (t133 == 0 && (t134 == 2)) = true then (if bt137.2.2 = 0 then (if (bt137.1 == 2 && (bt137.2.1 == 5)) = true then (if bt141.2.2 = 0 then (if (bt141.1 == 2 && (bt141.2.1 == 4)) = true then ((slice_Right.f 5 8 4 6 3 4 2 4).bind fun t146 => (pelotonlaw10_awake.j0 k (!t146))) else (pelotonlaw10_awake.j0 k false)) else (pelotonlaw10_awake.j0 k false)) else (pelotonlaw10_awake.j0 k false)) else (pelotonlaw10_awake.j0 k false)) else (pelotonlaw10_awake.j0 k false)) else (pelotonlaw10_awake.j0 k false)) else (pelotonlaw10_awake.j0 k false))))) = some r := H
 have A1 := Aside0.mk A10
 clear A10
 replace H := Option.bind_eq_some_iff.mp H
 obtain ⟨⟨t137, t138, t139⟩, A20, H⟩ := H
 replace H : ((slice_Heads.f 5 8 4 6 3 4 2 2 1).bind fun bt141 => ((slice_Workers.f 5 8 4 6 3 4 2 2).bind fun t145 => (if t145 = 4 then (if t135 = 0 then (if (t133 == 0 && (t134 == 2)) = true then (if t139 = 0 then (if (t137 == 2 && (t138 == 5)) = true then (if bt141.2.2 = 0 then (if (bt141.1 == 2 && (bt141.2.1 == 4)) = true then ((slice_Right.f 5 8 4 6 3 4 2 4).bind fun t146 => (pelotonlaw10_awake.j0 k (!t146))) else (pelotonlaw10_awake.j0 k false)) else (pelotonlaw10_awake.j0 k false)) else (pelotonlaw10_awake.j0 k false)) else (pelotonlaw10_awake.j0 k false)) else (pelotonlaw10_awake.j0 k false)) else (pelotonlaw10_awake.j0 k false)) else (pelotonlaw10_awake.j0 k false)))) = some r := H
 have A2 := Aside0.mk A20
 clear A20
 replace H := Option.bind_eq_some_iff.mp H
 obtain ⟨⟨t141, t142, t143⟩, A30, H⟩ := H
 replace H : ((slice_Workers.f 5 8 4 6 3 4 2 2).bind fun t145 => (if t145 = 4 then (if t135 = 0 then (if (t133 == 0 && (t134 == 2)) = true then (if t139 = 0 then (if (t137 == 2 && (t138 == 5)) = true then (if t143 = 0 then (if (t141 == 2 && (t142 == 4)) = true then ((slice_Right.f 5 8 4 6 3 4 2 4).bind fun t146 => (pelotonlaw10_awake.j0 k (!t146))) else (pelotonlaw10_awake.j0 k false)) else (pelotonlaw10_awake.j0 k false)) else (pelotonlaw10_awake.j0 k false)) else (pelotonlaw10_awake.j0 k false)) else (pelotonlaw10_awake.j0 k false)) else (pelotonlaw10_awake.j0 k false)) else (pelotonlaw10_awake.j0 k false))) = some r := H
 have A3 := Aside0.mk A30
 clear A30
 have HC4 := Aside0.mk H
 clear H
 go_enter Try.func7, Try.ntmps7
 go_upto_region 6 with (first | ((with_reducible refine gate_dst (N := 1) rfl ?_); refine box_event ?hg (N := 1) ?hd (cs := #[.int .i64 0, .int .i64 0, .int .i64 0, .int .i64 0, .int .i64 0, .int .i64 0]) (t := 23) ?hr ?_; (case hd => rfl); (case hg => rfl); (case hr => first | (go_simp; done) | (go_simp; rfl)); intro gb131 hg w5 hbox hb; have n0_ := Aside0.mk (below_step (by repeat (first | (with_reducible first | exact HB.out | apply b_a | apply b_n | apply b_d) | exact HB.out)) hb); have n1_ := Aside0.mk (hbox); have n2_ := Aside0.mk ((by rw [hg]; exact (below_size (by repeat (first | (with_reducible first | exact HB.out | apply b_a | apply b_n | apply b_d) | exact HB.out))) : w.heap.size ≤ gb131)); have n3_ := Aside0.mk ((by rw [hg]; exact (below_size (by repeat (first | (with_reducible first | exact HB.out | apply b_a | apply b_n | apply b_d) | exact HB.out))) : w.heap.size ≤ gb131)); clear HB; have HB := n0_; have BK131 := n1_; have GW131 := n2_; have GE131 := n3_; clear n0_ n1_ n2_ n3_; clear hb hbox hg; have hcz6_0 : w5.cell? ⟨gb131, 0, none⟩ = some (.int .i64 0) := (blk_cell BK131.out 0).trans rfl; have hcz6_1 : w5.cell? ⟨gb131, 1, none⟩ = some (.int .i64 0) := (blk_cell BK131.out 1).trans rfl; have hcz6_2 : w5.cell? ⟨gb131, 2, none⟩ = some (.int .i64 0) := (blk_cell BK131.out 2).trans rfl; have hcz6_3 : w5.cell? ⟨gb131, 3, none⟩ = some (.int .i64 0) := (blk_cell BK131.out 3).trans rfl; have hcz6_4 : w5.cell? ⟨gb131, 4, none⟩ = some (.int .i64 0) := (blk_cell BK131.out 4).trans rfl; have hcz6_5 : w5.cell? ⟨gb131, 5, none⟩ = some (.int .i64 0) := (blk_cell BK131.out 5).trans rfl; have hfz6_0 := blk_frozen BK131.out 0; have hfz6_1 := blk_frozen BK131.out 1; have hfz6_2 := blk_frozen BK131.out 2; have hfz6_3 := blk_frozen BK131.out 3; have hfz6_4 := blk_frozen BK131.out 4; have hfz6_5 := blk_frozen BK131.out 5) | ((with_reducible refine gate_dst (N := 2) rfl ?_); refine box_event ?hg (N := 2) ?hd (cs := #[.int .i64 0, .int .i64 0]) (t := 25) ?hr ?_; (case hd => rfl); (case hg => rfl); (case hr => first | (go_simp; done) | (go_simp; rfl)); intro gb132 hg w7 hbox hb; have n0_ := Aside0.mk (blk_below (g := gb131) (o := .cells #[.int .i64 5, .int .i64 8, .int .i64 4, .int .i64 6, .int .i64 3, .int .i64 4] 23 (0, 0)) (by (with_reducible repeat (first | refine k_n ?_ _ | refine k_d ?_ | refine k_a ?_ _)); refine blk_put (cs := #[.int .i64 5, .int .i64 8, .int .i64 4, .int .i64 6, .int .i64 3, .int .i64 0]) ?_ 5 _ rfl; (with_reducible repeat (first | refine k_n ?_ _ | refine k_d ?_ | refine k_a ?_ _)); refine blk_put (cs := #[.int .i64 5, .int .i64 8, .int .i64 4, .int .i64 6, .int .i64 0, .int .i64 0]) ?_ 4 _ rfl; (with_reducible repeat (first | refine k_n ?_ _ | refine k_d ?_ | refine k_a ?_ _)); refine blk_put (cs := #[.int .i64 5, .int .i64 8, .int .i64 4, .int .i64 0, .int .i64 0, .int .i64 0]) ?_ 3 _ rfl; (with_reducible repeat (first | refine k_n ?_ _ | refine k_d ?_ | refine k_a ?_ _)); refine blk_put (cs := #[.int .i64 5, .int .i64 8, .int .i64 0, .int .i64 0, .int .i64 0, .int .i64 0]) ?_ 2 _ rfl; (with_reducible repeat (first | refine k_n ?_ _ | refine k_d ?_ | refine k_a ?_ _)); refine blk_put (cs := #[.int .i64 5, .int .i64 0, .int .i64 0, .int .i64 0, .int .i64 0, .int .i64 0]) ?_ 1 _ rfl; (with_reducible repeat (first | refine k_n ?_ _ | refine k_d ?_ | refine k_a ?_ _)); refine blk_put (cs := #[.int .i64 0, .int .i64 0, .int .i64 0, .int .i64 0, .int .i64 0, .int .i64 0]) ?_ 0 _ rfl; (with_reducible repeat (first | refine k_n ?_ _ | refine k_d ?_ | refine k_a ?_ _)); exact BK131.out) hb); have n1_ := Aside0.mk (below_step (by repeat (first | (with_reducible first | exact HB.out | apply b_a | apply b_n | apply b_d | refine b_s ?_ GE131.out) | exact HB.out)) hb); have n2_ := Aside0.mk (hbox); have n3_ := Aside0.mk ((by rw [hg]; exact (below_size (by repeat (first | (with_reducible first | exact HB.out | apply b_a | apply b_n | apply b_d | refine b_s ?_ GE131.out) | exact HB.out))) : w.heap.size ≤ gb132)); have n4_ := Aside0.mk ((by rw [hg]; exact (below_size (by repeat (first | (with_reducible first | exact HB.out | apply b_a | apply b_n | apply b_d | refine b_s ?_ GE131.out) | exact HB.out))) : w.heap.size ≤ gb132)); have n5_ := Aside0.mk ((by rw [hg]; exact Nat.ne_of_lt (blk_lt (g := gb131) (o := .cells #[.int .i64 5, .int .i64 8, .int .i64 4, .int .i64 6, .int .i64 3, .int .i64 4] 23 (0, 0)) (by (with_reducible repeat (first | refine k_n ?_ _ | refine k_d ?_ | refine k_a ?_ _)); refine blk_put (cs := #[.int .i64 5, .int .i64 8, .int .i64 4, .int .i64 6, .int .i64 3, .int .i64 0]) ?_ 5 _ rfl; (with_reducible repeat (first | refine k_n ?_ _ | refine k_d ?_ | refine k_a ?_ _)); refine blk_put (cs := #[.int .i64 5, .int .i64 8, .int .i64 4, .int .i64 6, .int .i64 0, .int .i64 0]) ?_ 4 _ rfl; (with_reducible repeat (first | refine k_n ?_ _ | refine k_d ?_ | refine k_a ?_ _)); refine blk_put (cs := #[.int .i64 5, .int .i64 8, .int .i64 4, .int .i64 0, .int .i64 0, .int .i64 0]) ?_ 3 _ rfl; (with_reducible repeat (first | refine k_n ?_ _ | refine k_d ?_ | refine k_a ?_ _)); refine blk_put (cs := #[.int .i64 5, .int .i64 8, .int .i64 0, .int .i64 0, .int .i64 0, .int .i64 0]) ?_ 2 _ rfl; (with_reducible repeat (first | refine k_n ?_ _ | refine k_d ?_ | refine k_a ?_ _)); refine blk_put (cs := #[.int .i64 5, .int .i64 0, .int .i64 0, .int .i64 0, .int .i64 0, .int .i64 0]) ?_ 1 _ rfl; (with_reducible repeat (first | refine k_n ?_ _ | refine k_d ?_ | refine k_a ?_ _)); refine blk_put (cs := #[.int .i64 0, .int .i64 0, .int .i64 0, .int .i64 0, .int .i64 0, .int .i64 0]) ?_ 0 _ rfl; (with_reducible repeat (first | refine k_n ?_ _ | refine k_d ?_ | refine k_a ?_ _)); exact BK131.out)) : gb131 ≠ gb132)); have n6_ := Aside0.mk ((by rw [hg]; exact Nat.ne_of_gt (blk_lt (g := gb131) (o := .cells #[.int .i64 5, .int .i64 8, .int .i64 4, .int .i64 6, .int .i64 3, .int .i64 4] 23 (0, 0)) (by (with_reducible repeat (first | refine k_n ?_ _ | refine k_d ?_ | refine k_a ?_ _)); refine blk_put (cs := #[.int .i64 5, .int .i64 8, .int .i64 4, .int .i64 6, .int .i64 3, .int .i64 0]) ?_ 5 _ rfl; (with_reducible repeat (first | refine k_n ?_ _ | refine k_d ?_ | refine k_a ?_ _)); refine blk_put (cs := #[.int .i64 5, .int .i64 8, .int .i64 4, .int .i64 6, .int .i64 0, .int .i64 0]) ?_ 4 _ rfl; (with_reducible repeat (first | refine k_n ?_ _ | refine k_d ?_ | refine k_a ?_ _)); refine blk_put (cs := #[.int .i64 5, .int .i64 8, .int .i64 4, .int .i64 0, .int .i64 0, .int .i64 0]) ?_ 3 _ rfl; (with_reducible repeat (first | refine k_n ?_ _ | refine k_d ?_ | refine k_a ?_ _)); refine blk_put (cs := #[.int .i64 5, .int .i64 8, .int .i64 0, .int .i64 0, .int .i64 0, .int .i64 0]) ?_ 2 _ rfl; (with_reducible repeat (first | refine k_n ?_ _ | refine k_d ?_ | refine k_a ?_ _)); refine blk_put (cs := #[.int .i64 5, .int .i64 0, .int .i64 0, .int .i64 0, .int .i64 0, .int .i64 0]) ?_ 1 _ rfl; (with_reducible repeat (first | refine k_n ?_ _ | refine k_d ?_ | refine k_a ?_ _)); refine blk_put (cs := #[.int .i64 0, .int .i64 0, .int .i64 0, .int .i64 0, .int .i64 0, .int .i64 0]) ?_ 0 _ rfl; (with_reducible repeat (first | refine k_n ?_ _ | refine k_d ?_ | refine k_a ?_ _)); exact BK131.out)) : gb132 ≠ gb131)); clear BK131; clear HB; have BK131 := n0_; have HB := n1_; have BK132 := n2_; have GW132 := n3_; have GE132 := n4_; have NB131_132 := n5_; have NB132_131 := n6_; clear n0_ n1_ n2_ n3_ n4_ n5_ n6_; clear hb hbox hg; have hnb8 := NB132_131.out; have hnc8 := NB131_132.out; have hcz9_0 : w7.cell? ⟨gb132, 0, none⟩ = some (.int .i64 0) := (blk_cell BK132.out 0).trans rfl; have hcz9_1 : w7.cell? ⟨gb132, 1, none⟩ = some (.int .i64 0) := (blk_cell BK132.out 1).trans rfl; have hfz9_0 := blk_frozen BK132.out 0; have hfz9_1 := blk_frozen BK132.out 1; have hcz10_0 : w7.cell? ⟨gb131, 0, none⟩ = some (.int .i64 5) := (blk_cell BK131.out 0).trans rfl; have hcz10_1 : w7.cell? ⟨gb131, 1, none⟩ = some (.int .i64 8) := (blk_cell BK131.out 1).trans rfl; have hcz10_2 : w7.cell? ⟨gb131, 2, none⟩ = some (.int .i64 4) := (blk_cell BK131.out 2).trans rfl; have hcz10_3 : w7.cell? ⟨gb131, 3, none⟩ = some (.int .i64 6) := (blk_cell BK131.out 3).trans rfl; have hcz10_4 : w7.cell? ⟨gb131, 4, none⟩ = some (.int .i64 3) := (blk_cell BK131.out 4).trans rfl; have hcz10_5 : w7.cell? ⟨gb131, 5, none⟩ = some (.int .i64 4) := (blk_cell BK131.out 5).trans rfl; have hfz10_0 := blk_frozen BK131.out 0; have hfz10_1 := blk_frozen BK131.out 1; have hfz10_2 := blk_frozen BK131.out 2; have hfz10_3 := blk_frozen BK131.out 3; have hfz10_4 := blk_frozen BK131.out 4; have hfz10_5 := blk_frozen BK131.out 5) | ((with_reducible refine gate_callee (f := 11) rfl ?_); refine goesL_ (some 14) rfl rfl Try.func11 (by kernel_rfl) rfl #[.agg #[.int .i64 5, .int .i64 8, .int .i64 4, .int .i64 6, .int .i64 3, .int .i64 4], .agg #[.int .i64 2, .int .i64 2], .int .i64 0] rfl (by (try simp only [l_4, l_5, l_6]); first | done | rfl | (simp only [l_7, l_8]; rfl)) ?_; (with_reducible refine (slice_Layers.calls 5 8 4 6 3 4 2 2 0 t133 t134 t135 _ A1.out).mono ?_); rintro e w11 ⟨rfl, hb⟩; refine ⟨_, rfl, ?_⟩; have n0_ := Aside0.mk (blk_below (g := gb131) (o := .cells #[.int .i64 5, .int .i64 8, .int .i64 4, .int .i64 6, .int .i64 3, .int .i64 4] 23 (0, 0)) (by (with_reducible repeat (first | refine k_n ?_ _ | refine k_d ?_ | refine k_a ?_ _)); refine blk_far ?_ NB131_132.out _; (with_reducible repeat (first | refine k_n ?_ _ | refine k_d ?_ | refine k_a ?_ _)); refine blk_far ?_ NB131_132.out _; (with_reducible repeat (first | refine k_n ?_ _ | refine k_d ?_ | refine k_a ?_ _)); exact BK131.out) hb); have n1_ := Aside0.mk (blk_below (g := gb132) (o := .cells #[.int .i64 2, .int .i64 2] 25 (0, 0)) (by (with_reducible repeat (first | refine k_n ?_ _ | refine k_d ?_ | refine k_a ?_ _)); refine blk_put (cs := #[.int .i64 2, .int .i64 0]) ?_ 1 _ rfl; (with_reducible repeat (first | refine k_n ?_ _ | refine k_d ?_ | refine k_a ?_ _)); refine blk_put (cs := #[.int .i64 0, .int .i64 0]) ?_ 0 _ rfl; (with_reducible repeat (first | refine k_n ?_ _ | refine k_d ?_ | refine k_a ?_ _)); exact BK132.out) hb); have n2_ := Aside0.mk (below_step (by repeat (first | (with_reducible first | exact HB.out | apply b_a | apply b_n | apply b_d | refine b_s ?_ GE131.out | refine b_s ?_ GE132.out) | exact HB.out)) hb); clear BK131; clear BK132; clear HB; have BK131 := n0_; have BK132 := n1_; have HB := n2_; clear n0_ n1_ n2_; (try clear hb); (try clear hb2); (try clear hk); (try clear hi)) | ((with_reducible refine gate_dst (N := 3) rfl ?_); refine box_event ?hg (N := 3) ?hd (cs := #[.int .i64 0, .int .i64 0]) (t := 29) ?hr ?_; (case hd => rfl); (case hg => rfl); (case hr => first | (go_simp; done) | (go_simp; rfl)); intro gb136 hg w12 hbox hb; have n0_ := Aside0.mk (blk_below (g := gb131) (o := .cells #[.int .i64 5, .int .i64 8, .int .i64 4, .int .i64 6, .int .i64 3, .int .i64 4] 23 (0, 0)) (by (with_reducible repeat (first | refine k_n ?_ _ | refine k_d ?_ | refine k_a ?_ _)); exact BK131.out) hb); have n1_ := Aside0.mk (blk_below (g := gb132) (o := .cells #[.int .i64 2, .int .i64 2] 25 (0, 0)) (by (with_reducible repeat (first | refine k_n ?_ _ | refine k_d ?_ | refine k_a ?_ _)); exact BK132.out) hb); have n2_ := Aside0.mk (below_step (by repeat (first | (with_reducible first | exact HB.out | apply b_a | apply b_n | apply b_d | refine b_s ?_ GE131.out | refine b_s ?_ GE132.out) | exact HB.out)) hb); have n3_ := Aside0.mk (hbox); have n4_ := Aside0.mk ((by rw [hg]; exact (below_size (by repeat (first | (with_reducible first | exact HB.out | apply b_a | apply b_n | apply b_d | refine b_s ?_ GE131.out | refine b_s ?_ GE132.out) | exact HB.out))) : w.heap.size ≤ gb136)); have n5_ := Aside0.mk ((by rw [hg]; exact (below_size (by repeat (first | (with_reducible first | exact HB.out | apply b_a | apply b_n | apply b_d | refine b_s ?_ GE131.out | refine b_s ?_ GE132.out) | exact HB.out))) : w.heap.size ≤ gb136)); have n6_ := Aside0.mk ((by rw [hg]; exact Nat.ne_of_lt (blk_lt (g := gb131) (o := .cells #[.int .i64 5, .int .i64 8, .int .i64 4, .int .i64 6, .int .i64 3, .int .i64 4] 23 (0, 0)) (by (with_reducible repeat (first | refine k_n ?_ _ | refine k_d ?_ | refine k_a ?_ _)); exact BK131.out)) : gb131 ≠ gb136)); have n7_ := Aside0.mk ((by rw [hg]; exact Nat.ne_of_gt (blk_lt (g := gb131) (o := .cells #[.int .i64 5, .int .i64 8, .int .i64 4, .int .i64 6, .int .i64 3, .int .i64 4] 23 (0, 0)) (by (with_reducible repeat (first | refine k_n ?_ _ | refine k_d ?_ | refine k_a ?_ _)); exact BK131.out)) : gb136 ≠ gb131)); have n8_ := Aside0.mk ((by rw [hg]; exact Nat.ne_of_lt (blk_lt (g := gb132) (o := .cells #[.int .i64 2, .int .i64 2] 25 (0, 0)) (by (with_reducible repeat (first | refine k_n ?_ _ | refine k_d ?_ | refine k_a ?_ _)); exact BK132.out)) : gb132 ≠ gb136)); have n9_ := Aside0.mk ((by rw [hg]; exact Nat.ne_of_gt (blk_lt (g := gb132) (o := .cells #[.int .i64 2, .int .i64 2] 25 (0, 0)) (by (with_reducible repeat (first | refine k_n ?_ _ | refine k_d ?_ | refine k_a ?_ _)); exact BK132.out)) : gb136 ≠ gb132)); clear BK131; clear BK132; clear HB; have BK131 := n0_; have BK132 := n1_; have HB := n2_; have BK136 := n3_; have GW136 := n4_; have GE136 := n5_; have NB131_136 := n6_; have NB136_131 := n7_; have NB132_136 := n8_; have NB136_132 := n9_; clear n0_ n1_ n2_ n3_ n4_ n5_ n6_ n7_ n8_ n9_; clear hb hbox hg; have hnb13 := NB136_131.out; have hnc13 := NB131_136.out; have hnb14 := NB136_132.out; have hnc14 := NB132_136.out; have hcz15_0 : w12.cell? ⟨gb136, 0, none⟩ = some (.int .i64 0) := (blk_cell BK136.out 0).trans rfl; have hcz15_1 : w12.cell? ⟨gb136, 1, none⟩ = some (.int .i64 0) := (blk_cell BK136.out 1).trans rfl; have hfz15_0 := blk_frozen BK136.out 0; have hfz15_1 := blk_frozen BK136.out 1; have hcz16_0 : w12.cell? ⟨gb131, 0, none⟩ = some (.int .i64 5) := (blk_cell BK131.out 0).trans rfl; have hcz16_1 : w12.cell? ⟨gb131, 1, none⟩ = some (.int .i64 8) := (blk_cell BK131.out 1).trans rfl; have hcz16_2 : w12.cell? ⟨gb131, 2, none⟩ = some (.int .i64 4) := (blk_cell BK131.out 2).trans rfl; have hcz16_3 : w12.cell? ⟨gb131, 3, none⟩ = some (.int .i64 6) := (blk_cell BK131.out 3).trans rfl; have hcz16_4 : w12.cell? ⟨gb131, 4, none⟩ = some (.int .i64 3) := (blk_cell BK131.out 4).trans rfl; have hcz16_5 : w12.cell? ⟨gb131, 5, none⟩ = some (.int .i64 4) := (blk_cell BK131.out 5).trans rfl; have hfz16_0 := blk_frozen BK131.out 0; have hfz16_1 := blk_frozen BK131.out 1; have hfz16_2 := blk_frozen BK131.out 2; have hfz16_3 := blk_frozen BK131.out 3; have hfz16_4 := blk_frozen BK131.out 4; have hfz16_5 := blk_frozen BK131.out 5; have hcz17_0 : w12.cell? ⟨gb132, 0, none⟩ = some (.int .i64 2) := (blk_cell BK132.out 0).trans rfl; have hcz17_1 : w12.cell? ⟨gb132, 1, none⟩ = some (.int .i64 2) := (blk_cell BK132.out 1).trans rfl; have hfz17_0 := blk_frozen BK132.out 0; have hfz17_1 := blk_frozen BK132.out 1) | ((with_reducible refine gate_callee (f := 11) rfl ?_); refine goesL_ (some 20) rfl rfl Try.func11 (by kernel_rfl) rfl #[.agg #[.int .i64 5, .int .i64 8, .int .i64 4, .int .i64 6, .int .i64 3, .int .i64 4], .agg #[.int .i64 2, .int .i64 2], .int .i64 1] rfl (by (try simp only [l_4, l_5, l_6]); first | done | rfl | (simp only [l_7, l_8]; rfl)) ?_; (with_reducible refine (slice_Layers.calls 5 8 4 6 3 4 2 2 1 t137 t138 t139 _ A2.out).mono ?_); rintro e w18 ⟨rfl, hb⟩; refine ⟨_, rfl, ?_⟩; have n0_ := Aside0.mk (blk_below (g := gb131) (o := .cells #[.int .i64 5, .int .i64 8, .int .i64 4, .int .i64 6, .int .i64 3, .int .i64 4] 23 (0, 0)) (by (with_reducible repeat (first | refine k_n ?_ _ | refine k_d ?_ | refine k_a ?_ _)); refine blk_far ?_ NB131_136.out _; (with_reducible repeat (first | refine k_n ?_ _ | refine k_d ?_ | refine k_a ?_ _)); refine blk_far ?_ NB131_136.out _; (with_reducible repeat (first | refine k_n ?_ _ | refine k_d ?_ | refine k_a ?_ _)); exact BK131.out) hb); have n1_ := Aside0.mk (blk_below (g := gb132) (o := .cells #[.int .i64 2, .int .i64 2] 25 (0, 0)) (by (with_reducible repeat (first | refine k_n ?_ _ | refine k_d ?_ | refine k_a ?_ _)); refine blk_far ?_ NB132_136.out _; (with_reducible repeat (first | refine k_n ?_ _ | refine k_d ?_ | refine k_a ?_ _)); refine blk_far ?_ NB132_136.out _; (with_reducible repeat (first | refine k_n ?_ _ | refine k_d ?_ | refine k_a ?_ _)); exact BK132.out) hb); have n2_ := Aside0.mk (blk_below (g := gb136) (o := .cells #[.int .i64 t133, .int .i64 t134] 29 (0, 0)) (by (with_reducible repeat (first | refine k_n ?_ _ | refine k_d ?_ | refine k_a ?_ _)); refine blk_put (cs := #[.int .i64 t133, .int .i64 0]) ?_ 1 _ rfl; (with_reducible repeat (first | refine k_n ?_ _ | refine k_d ?_ | refine k_a ?_ _)); refine blk_put (cs := #[.int .i64 0, .int .i64 0]) ?_ 0 _ rfl; (with_reducible repeat (first | refine k_n ?_ _ | refine k_d ?_ | refine k_a ?_ _)); exact BK136.out) hb); have n3_ := Aside0.mk (below_step (by repeat (first | (with_reducible first | exact HB.out | apply b_a | apply b_n | apply b_d | refine b_s ?_ GE131.out | refine b_s ?_ GE132.out | refine b_s ?_ GE136.out) | exact HB.out)) hb); clear BK131; clear BK132; clear BK136; clear HB; have BK131 := n0_; have BK132 := n1_; have BK136 := n2_; have HB := n3_; clear n0_ n1_ n2_ n3_; (try clear hb); (try clear hb2); (try clear hk); (try clear hi)) | ((with_reducible refine gate_dst (N := 5) rfl ?_); refine box_event ?hg (N := 5) ?hd (cs := #[.int .i64 0, .int .i64 0]) (t := 29) ?hr ?_; (case hd => rfl); (case hg => rfl); (case hr => first | (go_simp; done) | (go_simp; rfl)); intro gb140 hg w19 hbox hb; have n0_ := Aside0.mk (blk_below (g := gb131) (o := .cells #[.int .i64 5, .int .i64 8, .int .i64 4, .int .i64 6, .int .i64 3, .int .i64 4] 23 (0, 0)) (by (with_reducible repeat (first | refine k_n ?_ _ | refine k_d ?_ | refine k_a ?_ _)); exact BK131.out) hb); have n1_ := Aside0.mk (blk_below (g := gb132) (o := .cells #[.int .i64 2, .int .i64 2] 25 (0, 0)) (by (with_reducible repeat (first | refine k_n ?_ _ | refine k_d ?_ | refine k_a ?_ _)); exact BK132.out) hb); have n2_ := Aside0.mk (blk_below (g := gb136) (o := .cells #[.int .i64 t133, .int .i64 t134] 29 (0, 0)) (by (with_reducible repeat (first | refine k_n ?_ _ | refine k_d ?_ | refine k_a ?_ _)); exact BK136.out) hb); have n3_ := Aside0.mk (below_step (by repeat (first | (with_reducible first | exact HB.out | apply b_a | apply b_n | apply b_d | refine b_s ?_ GE131.out | refine b_s ?_ GE132.out | refine b_s ?_ GE136.out) | exact HB.out)) hb); have n4_ := Aside0.mk (hbox); have n5_ := Aside0.mk ((by rw [hg]; exact (below_size (by repeat (first | (with_reducible first | exact HB.out | apply b_a | apply b_n | apply b_d | refine b_s ?_ GE131.out | refine b_s ?_ GE132.out | refine b_s ?_ GE136.out) | exact HB.out))) : w.heap.size ≤ gb140)); have n6_ := Aside0.mk ((by rw [hg]; exact (below_size (by repeat (first | (with_reducible first | exact HB.out | apply b_a | apply b_n | apply b_d | refine b_s ?_ GE131.out | refine b_s ?_ GE132.out | refine b_s ?_ GE136.out) | exact HB.out))) : w.heap.size ≤ gb140)); have n7_ := Aside0.mk ((by rw [hg]; exact Nat.ne_of_lt (blk_lt (g := gb131) (o := .cells #[.int .i64 5, .int .i64 8, .int .i64 4, .int .i64 6, .int .i64 3, .int .i64 4] 23 (0, 0)) (by (with_reducible repeat (first | refine k_n ?_ _ | refine k_d ?_ | refine k_a ?_ _)); exact BK131.out)) : gb131 ≠ gb140)); have n8_ := Aside0.mk ((by rw [hg]; exact Nat.ne_of_gt (blk_lt (g := gb131) (o := .cells #[.int .i64 5, .int .i64 8, .int .i64 4, .int .i64 6, .int .i64 3, .int .i64 4] 23 (0, 0)) (by (with_reducible repeat (first | refine k_n ?_ _ | refine k_d ?_ | refine k_a ?_ _)); exact BK131.out)) : gb140 ≠ gb131)); have n9_ := Aside0.mk ((by rw [hg]; exact Nat.ne_of_lt (blk_lt (g := gb132) (o := .cells #[.int .i64 2, .int .i64 2] 25 (0, 0)) (by (with_reducible repeat (first | refine k_n ?_ _ | refine k_d ?_ | refine k_a ?_ _)); exact BK132.out)) : gb132 ≠ gb140)); have n10_ := Aside0.mk ((by rw [hg]; exact Nat.ne_of_gt (blk_lt (g := gb132) (o := .cells #[.int .i64 2, .int .i64 2] 25 (0, 0)) (by (with_reducible repeat (first | refine k_n ?_ _ | refine k_d ?_ | refine k_a ?_ _)); exact BK132.out)) : gb140 ≠ gb132)); have n11_ := Aside0.mk ((by rw [hg]; exact Nat.ne_of_lt (blk_lt (g := gb136) (o := .cells #[.int .i64 t133, .int .i64 t134] 29 (0, 0)) (by (with_reducible repeat (first | refine k_n ?_ _ | refine k_d ?_ | refine k_a ?_ _)); exact BK136.out)) : gb136 ≠ gb140)); have n12_ := Aside0.mk ((by rw [hg]; exact Nat.ne_of_gt (blk_lt (g := gb136) (o := .cells #[.int .i64 t133, .int .i64 t134] 29 (0, 0)) (by (with_reducible repeat (first | refine k_n ?_ _ | refine k_d ?_ | refine k_a ?_ _)); exact BK136.out)) : gb140 ≠ gb136)); clear BK131; clear BK132; clear BK136; clear HB; have BK131 := n0_; have BK132 := n1_; have BK136 := n2_; have HB := n3_; have BK140 := n4_; have GW140 := n5_; have GE140 := n6_; have NB131_140 := n7_; have NB140_131 := n8_; have NB132_140 := n9_; have NB140_132 := n10_; have NB136_140 := n11_; have NB140_136 := n12_; clear n0_ n1_ n2_ n3_ n4_ n5_ n6_ n7_ n8_ n9_ n10_ n11_ n12_; clear hb hbox hg; have hnb20 := NB140_131.out; have hnc20 := NB131_140.out; have hnb21 := NB140_132.out; have hnc21 := NB132_140.out; have hnb22 := NB140_136.out; have hnc22 := NB136_140.out; have hcz23_0 : w19.cell? ⟨gb140, 0, none⟩ = some (.int .i64 0) := (blk_cell BK140.out 0).trans rfl; have hcz23_1 : w19.cell? ⟨gb140, 1, none⟩ = some (.int .i64 0) := (blk_cell BK140.out 1).trans rfl; have hfz23_0 := blk_frozen BK140.out 0; have hfz23_1 := blk_frozen BK140.out 1; have hcz24_0 : w19.cell? ⟨gb131, 0, none⟩ = some (.int .i64 5) := (blk_cell BK131.out 0).trans rfl; have hcz24_1 : w19.cell? ⟨gb131, 1, none⟩ = some (.int .i64 8) := (blk_cell BK131.out 1).trans rfl; have hcz24_2 : w19.cell? ⟨gb131, 2, none⟩ = some (.int .i64 4) := (blk_cell BK131.out 2).trans rfl; have hcz24_3 : w19.cell? ⟨gb131, 3, none⟩ = some (.int .i64 6) := (blk_cell BK131.out 3).trans rfl; have hcz24_4 : w19.cell? ⟨gb131, 4, none⟩ = some (.int .i64 3) := (blk_cell BK131.out 4).trans rfl; have hcz24_5 : w19.cell? ⟨gb131, 5, none⟩ = some (.int .i64 4) := (blk_cell BK131.out 5).trans rfl; have hfz24_0 := blk_frozen BK131.out 0; have hfz24_1 := blk_frozen BK131.out 1; have hfz24_2 := blk_frozen BK131.out 2; have hfz24_3 := blk_frozen BK131.out 3; have hfz24_4 := blk_frozen BK131.out 4; have hfz24_5 := blk_frozen BK131.out 5; have hcz25_0 : w19.cell? ⟨gb132, 0, none⟩ = some (.int .i64 2) := (blk_cell BK132.out 0).trans rfl; have hcz25_1 : w19.cell? ⟨gb132, 1, none⟩ = some (.int .i64 2) := (blk_cell BK132.out 1).trans rfl; have hfz25_0 := blk_frozen BK132.out 0; have hfz25_1 := blk_frozen BK132.out 1) | ((with_reducible refine gate_callee (f := 12) rfl ?_); refine goesL_ (some 26) rfl rfl Try.func12 (by kernel_rfl) rfl #[.agg #[.int .i64 5, .int .i64 8, .int .i64 4, .int .i64 6, .int .i64 3, .int .i64 4], .agg #[.int .i64 2, .int .i64 2], .int .i64 1] rfl (by (try simp only [l_4, l_5, l_6]); first | done | rfl | (simp only [l_7, l_8]; rfl)) ?_; (with_reducible refine (slice_Heads.calls 5 8 4 6 3 4 2 2 1 t141 t142 t143 _ A3.out).mono ?_); rintro e w26 ⟨rfl, hb⟩; refine ⟨_, rfl, ?_⟩; have n0_ := Aside0.mk (blk_below (g := gb131) (o := .cells #[.int .i64 5, .int .i64 8, .int .i64 4, .int .i64 6, .int .i64 3, .int .i64 4] 23 (0, 0)) (by (with_reducible repeat (first | refine k_n ?_ _ | refine k_d ?_ | refine k_a ?_ _)); refine blk_far ?_ NB131_140.out _; (with_reducible repeat (first | refine k_n ?_ _ | refine k_d ?_ | refine k_a ?_ _)); refine blk_far ?_ NB131_140.out _; (with_reducible repeat (first | refine k_n ?_ _ | refine k_d ?_ | refine k_a ?_ _)); exact BK131.out) hb); have n1_ := Aside0.mk (blk_below (g := gb132) (o := .cells #[.int .i64 2, .int .i64 2] 25 (0, 0)) (by (with_reducible repeat (first | refine k_n ?_ _ | refine k_d ?_ | refine k_a ?_ _)); refine blk_far ?_ NB132_140.out _; (with_reducible repeat (first | refine k_n ?_ _ | refine k_d ?_ | refine k_a ?_ _)); refine blk_far ?_ NB132_140.out _; (with_reducible repeat (first | refine k_n ?_ _ | refine k_d ?_ | refine k_a ?_ _)); exact BK132.out) hb); have n2_ := Aside0.mk (blk_below (g := gb136) (o := .cells #[.int .i64 t133, .int .i64 t134] 29 (0, 0)) (by (with_reducible repeat (first | refine k_n ?_ _ | refine k_d ?_ | refine k_a ?_ _)); refine blk_far ?_ NB136_140.out _; (with_reducible repeat (first | refine k_n ?_ _ | refine k_d ?_ | refine k_a ?_ _)); refine blk_far ?_ NB136_140.out _; (with_reducible repeat (first | refine k_n ?_ _ | refine k_d ?_ | refine k_a ?_ _)); exact BK136.out) hb); have n3_ := Aside0.mk (blk_below (g := gb140) (o := .cells #[.int .i64 t137, .int .i64 t138] 29 (0, 0)) (by (with_reducible repeat (first | refine k_n ?_ _ | refine k_d ?_ | refine k_a ?_ _)); refine blk_put (cs := #[.int .i64 t137, .int .i64 0]) ?_ 1 _ rfl; (with_reducible repeat (first | refine k_n ?_ _ | refine k_d ?_ | refine k_a ?_ _)); refine blk_put (cs := #[.int .i64 0, .int .i64 0]) ?_ 0 _ rfl; (with_reducible repeat (first | refine k_n ?_ _ | refine k_d ?_ | refine k_a ?_ _)); exact BK140.out) hb); have n4_ := Aside0.mk (below_step (by repeat (first | (with_reducible first | exact HB.out | apply b_a | apply b_n | apply b_d | refine b_s ?_ GE131.out | refine b_s ?_ GE132.out | refine b_s ?_ GE136.out | refine b_s ?_ GE140.out) | exact HB.out)) hb); clear BK131; clear BK132; clear BK136; clear BK140; clear HB; have BK131 := n0_; have BK132 := n1_; have BK136 := n2_; have BK140 := n3_; have HB := n4_; clear n0_ n1_ n2_ n3_ n4_; (try clear hb); (try clear hb2); (try clear hk); (try clear hi)) | ((with_reducible refine gate_dst (N := 7) rfl ?_); refine box_event ?hg (N := 7) ?hd (cs := #[.int .i64 0, .int .i64 0]) (t := 29) ?hr ?_; (case hd => rfl); (case hg => rfl); (case hr => first | (go_simp; done) | (go_simp; rfl)); intro gb144 hg w27 hbox hb; have n0_ := Aside0.mk (blk_below (g := gb131) (o := .cells #[.int .i64 5, .int .i64 8, .int .i64 4, .int .i64 6, .int .i64 3, .int .i64 4] 23 (0, 0)) (by (with_reducible repeat (first | refine k_n ?_ _ | refine k_d ?_ | refine k_a ?_ _)); exact BK131.out) hb); have n1_ := Aside0.mk (blk_below (g := gb132) (o := .cells #[.int .i64 2, .int .i64 2] 25 (0, 0)) (by (with_reducible repeat (first | refine k_n ?_ _ | refine k_d ?_ | refine k_a ?_ _)); exact BK132.out) hb); have n2_ := Aside0.mk (blk_below (g := gb136) (o := .cells #[.int .i64 t133, .int .i64 t134] 29 (0, 0)) (by (with_reducible repeat (first | refine k_n ?_ _ | refine k_d ?_ | refine k_a ?_ _)); exact BK136.out) hb); have n3_ := Aside0.mk (blk_below (g := gb140) (o := .cells #[.int .i64 t137, .int .i64 t138] 29 (0, 0)) (by (with_reducible repeat (first | refine k_n ?_ _ | refine k_d ?_ | refine k_a ?_ _)); exact BK140.out) hb); have n4_ := Aside0.mk (below_step (by repeat (first | (with_reducible first | exact HB.out | apply b_a | apply b_n | apply b_d | refine b_s ?_ GE131.out | refine b_s ?_ GE132.out | refine b_s ?_ GE136.out | refine b_s ?_ GE140.out) | exact HB.out)) hb); have n5_ := Aside0.mk (hbox); have n6_ := Aside0.mk ((by rw [hg]; exact (below_size (by repeat (first | (with_reducible first | exact HB.out | apply b_a | apply b_n | apply b_d | refine b_s ?_ GE131.out | refine b_s ?_ GE132.out | refine b_s ?_ GE136.out | refine b_s ?_ GE140.out) | exact HB.out))) : w.heap.size ≤ gb144)); have n7_ := Aside0.mk ((by rw [hg]; exact (below_size (by repeat (first | (with_reducible first | exact HB.out | apply b_a | apply b_n | apply b_d | refine b_s ?_ GE131.out | refine b_s ?_ GE132.out | refine b_s ?_ GE136.out | refine b_s ?_ GE140.out) | exact HB.out))) : w.heap.size ≤ gb144)); have n8_ := Aside0.mk ((by rw [hg]; exact Nat.ne_of_lt (blk_lt (g := gb131) (o := .cells #[.int .i64 5, .int .i64 8, .int .i64 4, .int .i64 6, .int .i64 3, .int .i64 4] 23 (0, 0)) (by (with_reducible repeat (first | refine k_n ?_ _ | refine k_d ?_ | refine k_a ?_ _)); exact BK131.out)) : gb131 ≠ gb144)); have n9_ := Aside0.mk ((by rw [hg]; exact Nat.ne_of_gt (blk_lt (g := gb131) (o := .cells #[.int .i64 5, .int .i64 8, .int .i64 4, .int .i64 6, .int .i64 3, .int .i64 4] 23 (0, 0)) (by (with_reducible repeat (first | refine k_n ?_ _ | refine k_d ?_ | refine k_a ?_ _)); exact BK131.out)) : gb144 ≠ gb131)); have n10_ := Aside0.mk ((by rw [hg]; exact Nat.ne_of_lt (blk_lt (g := gb132) (o := .cells #[.int .i64 2, .int .i64 2] 25 (0, 0)) (by (with_reducible repeat (first | refine k_n ?_ _ | refine k_d ?_ | refine k_a ?_ _)); exact BK132.out)) : gb132 ≠ gb144)); have n11_ := Aside0.mk ((by rw [hg]; exact Nat.ne_of_gt (blk_lt (g := gb132) (o := .cells #[.int .i64 2, .int .i64 2] 25 (0, 0)) (by (with_reducible repeat (first | refine k_n ?_ _ | refine k_d ?_ | refine k_a ?_ _)); exact BK132.out)) : gb144 ≠ gb132)); have n12_ := Aside0.mk ((by rw [hg]; exact Nat.ne_of_lt (blk_lt (g := gb136) (o := .cells #[.int .i64 t133, .int .i64 t134] 29 (0, 0)) (by (with_reducible repeat (first | refine k_n ?_ _ | refine k_d ?_ | refine k_a ?_ _)); exact BK136.out)) : gb136 ≠ gb144)); have n13_ := Aside0.mk ((by rw [hg]; exact Nat.ne_of_gt (blk_lt (g := gb136) (o := .cells #[.int .i64 t133, .int .i64 t134] 29 (0, 0)) (by (with_reducible repeat (first | refine k_n ?_ _ | refine k_d ?_ | refine k_a ?_ _)); exact BK136.out)) : gb144 ≠ gb136)); have n14_ := Aside0.mk ((by rw [hg]; exact Nat.ne_of_lt (blk_lt (g := gb140) (o := .cells #[.int .i64 t137, .int .i64 t138] 29 (0, 0)) (by (with_reducible repeat (first | refine k_n ?_ _ | refine k_d ?_ | refine k_a ?_ _)); exact BK140.out)) : gb140 ≠ gb144)); have n15_ := Aside0.mk ((by rw [hg]; exact Nat.ne_of_gt (blk_lt (g := gb140) (o := .cells #[.int .i64 t137, .int .i64 t138] 29 (0, 0)) (by (with_reducible repeat (first | refine k_n ?_ _ | refine k_d ?_ | refine k_a ?_ _)); exact BK140.out)) : gb144 ≠ gb140)); clear BK131; clear BK132; clear BK136; clear BK140; clear HB; have BK131 := n0_; have BK132 := n1_; have BK136 := n2_; have BK140 := n3_; have HB := n4_; have BK144 := n5_; have GW144 := n6_; have GE144 := n7_; have NB131_144 := n8_; have NB144_131 := n9_; have NB132_144 := n10_; have NB144_132 := n11_; have NB136_144 := n12_; have NB144_136 := n13_; have NB140_144 := n14_; have NB144_140 := n15_; clear n0_ n1_ n2_ n3_ n4_ n5_ n6_ n7_ n8_ n9_ n10_ n11_ n12_ n13_ n14_ n15_; clear hb hbox hg; have hnb28 := NB144_131.out; have hnc28 := NB131_144.out; have hnb29 := NB144_132.out; have hnc29 := NB132_144.out; have hnb30 := NB144_136.out; have hnc30 := NB136_144.out; have hnb31 := NB144_140.out; have hnc31 := NB140_144.out; have hcz32_0 : w27.cell? ⟨gb144, 0, none⟩ = some (.int .i64 0) := (blk_cell BK144.out 0).trans rfl; have hcz32_1 : w27.cell? ⟨gb144, 1, none⟩ = some (.int .i64 0) := (blk_cell BK144.out 1).trans rfl; have hfz32_0 := blk_frozen BK144.out 0; have hfz32_1 := blk_frozen BK144.out 1))
 (try simp only [Act.put, l_1, l_2, l_3])
 go_cut [0] (fun v0 wc => ∃ (kq : Nat) (x0_3 : Bool), v0 = .bool x0_3 ∧ Aside0 (pelotonlaw10_awake.j0 kq x0_3 = some r) ∧ Aside0 (kq ≤ k) ∧ Aside0 (wc.heap[gb131]? = some (.cells #[.int .i64 5, .int .i64 8, .int .i64 4, .int .i64 6, .int .i64 3, .int .i64 4] 23 (0, 0))) ∧ Aside0 (wc.heap[gb132]? = some (.cells #[.int .i64 2, .int .i64 2] 25 (0, 0))) ∧ Aside0 (wc.heap[gb136]? = some (.cells #[.int .i64 t133, .int .i64 t134] 29 (0, 0))) ∧ Aside0 (wc.heap[gb140]? = some (.cells #[.int .i64 t137, .int .i64 t138] 29 (0, 0))) ∧ Aside0 (wc.heap[gb144]? = some (.cells #[.int .i64 t141, .int .i64 t142] 29 (0, 0))) ∧ Aside0 (Below w.heap.size w wc))
 case first =>
  have H := HC4.out
  clear HC4
  replace H := Option.bind_eq_some_iff.mp H
  obtain ⟨t145, A330, H⟩ := H
  replace H : (if t145 = 4 then (if t135 = 0 then (if (t133 == 0 && (t134 == 2)) = true then (if t139 = 0 then (if (t137 == 2 && (t138 == 5)) = true then (if t143 = 0 then (if (t141 == 2 && (t142 == 4)) = true then ((slice_Right.f 5 8 4 6 3 4 2 4).bind fun t146 => (pelotonlaw10_awake.j0 k (!t146))) else (pelotonlaw10_awake.j0 k false)) else (pelotonlaw10_awake.j0 k false)) else (pelotonlaw10_awake.j0 k false)) else (pelotonlaw10_awake.j0 k false)) else (pelotonlaw10_awake.j0 k false)) else (pelotonlaw10_awake.j0 k false)) else (pelotonlaw10_awake.j0 k false)) = some r := H
  have A33 := Aside0.mk A330
  clear A330
  by_cases c34 : t145 = 4
  rotate_left
  ·
   rw [if_neg c34] at H
   have c34b0 : (t145 == 4) = false := beq_eq_false_iff_ne.mpr c34
   have c34b1 : (t145 != 4) = true := bne_iff_ne.mpr c34
   (first | rw [c34b0] | (simp only [i64_w, i32_w]; rw [c34b0]) | skip)
   have H' := Aside0.mk H
   clear H
   have hnb142 := NB131_132.out
   have hnc142 := NB132_131.out
   have hnb143 := NB131_136.out
   have hnc143 := NB136_131.out
   have hnb144 := NB131_140.out
   have hnc144 := NB140_131.out
   have hnb145 := NB131_144.out
   have hnc145 := NB144_131.out
   have hcz146_0 : w27.cell? ⟨gb131, 0, none⟩ = some (.int .i64 5) := (blk_cell BK131.out 0).trans rfl
   have hcz146_1 : w27.cell? ⟨gb131, 1, none⟩ = some (.int .i64 8) := (blk_cell BK131.out 1).trans rfl
   have hcz146_2 : w27.cell? ⟨gb131, 2, none⟩ = some (.int .i64 4) := (blk_cell BK131.out 2).trans rfl
   have hcz146_3 : w27.cell? ⟨gb131, 3, none⟩ = some (.int .i64 6) := (blk_cell BK131.out 3).trans rfl
   have hcz146_4 : w27.cell? ⟨gb131, 4, none⟩ = some (.int .i64 3) := (blk_cell BK131.out 4).trans rfl
   have hcz146_5 : w27.cell? ⟨gb131, 5, none⟩ = some (.int .i64 4) := (blk_cell BK131.out 5).trans rfl
   have hfz146_0 := blk_frozen BK131.out 0
   have hfz146_1 := blk_frozen BK131.out 1
   have hfz146_2 := blk_frozen BK131.out 2
   have hfz146_3 := blk_frozen BK131.out 3
   have hfz146_4 := blk_frozen BK131.out 4
   have hfz146_5 := blk_frozen BK131.out 5
   have hnb147 := NB132_136.out
   have hnc147 := NB136_132.out
   have hnb148 := NB132_140.out
   have hnc148 := NB140_132.out
   have hnb149 := NB132_144.out
   have hnc149 := NB144_132.out
   have hcz150_0 : w27.cell? ⟨gb132, 0, none⟩ = some (.int .i64 2) := (blk_cell BK132.out 0).trans rfl
   have hcz150_1 : w27.cell? ⟨gb132, 1, none⟩ = some (.int .i64 2) := (blk_cell BK132.out 1).trans rfl
   have hfz150_0 := blk_frozen BK132.out 0
   have hfz150_1 := blk_frozen BK132.out 1
   go_wp2_with (first | ((with_reducible refine gate_callee (f := 10) rfl ?_); refine goesL_ (some 31) rfl rfl Try.func10 (by kernel_rfl) rfl #[.agg #[.int .i64 5, .int .i64 8, .int .i64 4, .int .i64 6, .int .i64 3, .int .i64 4], .agg #[.int .i64 2, .int .i64 2]] rfl (by (try simp only [l_4, l_5, l_6]); first | done | rfl | (simp only [l_7, l_8]; rfl)) ?_; (with_reducible refine (slice_Workers.calls 5 8 4 6 3 4 2 2 t145 _ A33.out).mono ?_); rintro e w151 ⟨rfl, hb⟩; refine ⟨_, rfl, ?_⟩; have n0_ := Aside0.mk (blk_below (g := gb131) (o := .cells #[.int .i64 5, .int .i64 8, .int .i64 4, .int .i64 6, .int .i64 3, .int .i64 4] 23 (0, 0)) (by (with_reducible repeat (first | refine k_n ?_ _ | refine k_d ?_ | refine k_a ?_ _)); refine blk_far ?_ NB131_144.out _; (with_reducible repeat (first | refine k_n ?_ _ | refine k_d ?_ | refine k_a ?_ _)); refine blk_far ?_ NB131_144.out _; (with_reducible repeat (first | refine k_n ?_ _ | refine k_d ?_ | refine k_a ?_ _)); exact BK131.out) hb); have n1_ := Aside0.mk (blk_below (g := gb132) (o := .cells #[.int .i64 2, .int .i64 2] 25 (0, 0)) (by (with_reducible repeat (first | refine k_n ?_ _ | refine k_d ?_ | refine k_a ?_ _)); refine blk_far ?_ NB132_144.out _; (with_reducible repeat (first | refine k_n ?_ _ | refine k_d ?_ | refine k_a ?_ _)); refine blk_far ?_ NB132_144.out _; (with_reducible repeat (first | refine k_n ?_ _ | refine k_d ?_ | refine k_a ?_ _)); exact BK132.out) hb); have n2_ := Aside0.mk (blk_below (g := gb136) (o := .cells #[.int .i64 t133, .int .i64 t134] 29 (0, 0)) (by (with_reducible repeat (first | refine k_n ?_ _ | refine k_d ?_ | refine k_a ?_ _)); refine blk_far ?_ NB136_144.out _; (with_reducible repeat (first | refine k_n ?_ _ | refine k_d ?_ | refine k_a ?_ _)); refine blk_far ?_ NB136_144.out _; (with_reducible repeat (first | refine k_n ?_ _ | refine k_d ?_ | refine k_a ?_ _)); exact BK136.out) hb); have n3_ := Aside0.mk (blk_below (g := gb140) (o := .cells #[.int .i64 t137, .int .i64 t138] 29 (0, 0)) (by (with_reducible repeat (first | refine k_n ?_ _ | refine k_d ?_ | refine k_a ?_ _)); refine blk_far ?_ NB140_144.out _; (with_reducible repeat (first | refine k_n ?_ _ | refine k_d ?_ | refine k_a ?_ _)); refine blk_far ?_ NB140_144.out _; (with_reducible repeat (first | refine k_n ?_ _ | refine k_d ?_ | refine k_a ?_ _)); exact BK140.out) hb); have n4_ := Aside0.mk (blk_below (g := gb144) (o := .cells #[.int .i64 t141, .int .i64 t142] 29 (0, 0)) (by (with_reducible repeat (first | refine k_n ?_ _ | refine k_d ?_ | refine k_a ?_ _)); refine blk_put (cs := #[.int .i64 t141, .int .i64 0]) ?_ 1 _ rfl; (with_reducible repeat (first | refine k_n ?_ _ | refine k_d ?_ | refine k_a ?_ _)); refine blk_put (cs := #[.int .i64 0, .int .i64 0]) ?_ 0 _ rfl; (with_reducible repeat (first | refine k_n ?_ _ | refine k_d ?_ | refine k_a ?_ _)); exact BK144.out) hb); have n5_ := Aside0.mk (below_step (by repeat (first | (with_reducible first | exact HB.out | apply b_a | apply b_n | apply b_d | refine b_s ?_ GE131.out | refine b_s ?_ GE132.out | refine b_s ?_ GE136.out | refine b_s ?_ GE140.out | refine b_s ?_ GE144.out) | exact HB.out)) hb); clear BK131; clear BK132; clear BK136; clear BK140; clear BK144; clear HB; have BK131 := n0_; have BK132 := n1_; have BK136 := n2_; have BK140 := n3_; have BK144 := n4_; have HB := n5_; clear n0_ n1_ n2_ n3_ n4_ n5_; (try clear hb); (try clear hb2); (try clear hk); (try clear hi)))
   go_meet
   case rel => exact ⟨_, (false), (by first | rfl | (simp; done) | (simp [*]; done)), H', ⟨by first | omega | exact Nat.le_refl _⟩, ⟨by (with_reducible repeat (first | refine k_n ?_ _ | refine k_d ?_ | refine k_a ?_ _)); exact BK131.out⟩, ⟨by (with_reducible repeat (first | refine k_n ?_ _ | refine k_d ?_ | refine k_a ?_ _)); exact BK132.out⟩, ⟨by (with_reducible repeat (first | refine k_n ?_ _ | refine k_d ?_ | refine k_a ?_ _)); exact BK136.out⟩, ⟨by (with_reducible repeat (first | refine k_n ?_ _ | refine k_d ?_ | refine k_a ?_ _)); exact BK140.out⟩, ⟨by (with_reducible repeat (first | refine k_n ?_ _ | refine k_d ?_ | refine k_a ?_ _)); exact BK144.out⟩, ⟨by repeat (first | (with_reducible first | exact HB.out | apply b_a | apply b_n | apply b_d | refine b_s ?_ GE131.out | refine b_s ?_ GE132.out | refine b_s ?_ GE136.out | refine b_s ?_ GE140.out | refine b_s ?_ GE144.out) | exact HB.out)⟩⟩
  rw [if_pos c34] at H
  have c34b0 : (t145 == 4) = true := beq_iff_eq.mpr c34
  have c34b1 : (t145 != 4) = false := bne_eq_false_iff_eq.mpr c34
  clear c34
  (first | rw [c34b0] | (simp only [i64_w, i32_w]; rw [c34b0]) | skip)
  by_cases c35 : t135 = 0
  rotate_left
  ·
   rw [if_neg c35] at H
   have c35b0 : (t135 == 0) = false := beq_eq_false_iff_ne.mpr c35
   have c35b1 : (t135 != 0) = true := bne_iff_ne.mpr c35
   have H' := Aside0.mk H
   clear H
   have hnb132 := NB131_132.out
   have hnc132 := NB132_131.out
   have hnb133 := NB131_136.out
   have hnc133 := NB136_131.out
   have hnb134 := NB131_140.out
   have hnc134 := NB140_131.out
   have hnb135 := NB131_144.out
   have hnc135 := NB144_131.out
   have hcz136_0 : w27.cell? ⟨gb131, 0, none⟩ = some (.int .i64 5) := (blk_cell BK131.out 0).trans rfl
   have hcz136_1 : w27.cell? ⟨gb131, 1, none⟩ = some (.int .i64 8) := (blk_cell BK131.out 1).trans rfl
   have hcz136_2 : w27.cell? ⟨gb131, 2, none⟩ = some (.int .i64 4) := (blk_cell BK131.out 2).trans rfl
   have hcz136_3 : w27.cell? ⟨gb131, 3, none⟩ = some (.int .i64 6) := (blk_cell BK131.out 3).trans rfl
   have hcz136_4 : w27.cell? ⟨gb131, 4, none⟩ = some (.int .i64 3) := (blk_cell BK131.out 4).trans rfl
   have hcz136_5 : w27.cell? ⟨gb131, 5, none⟩ = some (.int .i64 4) := (blk_cell BK131.out 5).trans rfl
   have hfz136_0 := blk_frozen BK131.out 0
   have hfz136_1 := blk_frozen BK131.out 1
   have hfz136_2 := blk_frozen BK131.out 2
   have hfz136_3 := blk_frozen BK131.out 3
   have hfz136_4 := blk_frozen BK131.out 4
   have hfz136_5 := blk_frozen BK131.out 5
   have hnb137 := NB132_136.out
   have hnc137 := NB136_132.out
   have hnb138 := NB132_140.out
   have hnc138 := NB140_132.out
   have hnb139 := NB132_144.out
   have hnc139 := NB144_132.out
   have hcz140_0 : w27.cell? ⟨gb132, 0, none⟩ = some (.int .i64 2) := (blk_cell BK132.out 0).trans rfl
   have hcz140_1 : w27.cell? ⟨gb132, 1, none⟩ = some (.int .i64 2) := (blk_cell BK132.out 1).trans rfl
   have hfz140_0 := blk_frozen BK132.out 0
   have hfz140_1 := blk_frozen BK132.out 1
   go_wp2_with (first | ((with_reducible refine gate_callee (f := 10) rfl ?_); refine goesL_ (some 31) rfl rfl Try.func10 (by kernel_rfl) rfl #[.agg #[.int .i64 5, .int .i64 8, .int .i64 4, .int .i64 6, .int .i64 3, .int .i64 4], .agg #[.int .i64 2, .int .i64 2]] rfl (by (try simp only [l_4, l_5, l_6]); first | done | rfl | (simp only [l_7, l_8]; rfl)) ?_; (with_reducible refine (slice_Workers.calls 5 8 4 6 3 4 2 2 t145 _ A33.out).mono ?_); rintro e w141 ⟨rfl, hb⟩; refine ⟨_, rfl, ?_⟩; have n0_ := Aside0.mk (blk_below (g := gb131) (o := .cells #[.int .i64 5, .int .i64 8, .int .i64 4, .int .i64 6, .int .i64 3, .int .i64 4] 23 (0, 0)) (by (with_reducible repeat (first | refine k_n ?_ _ | refine k_d ?_ | refine k_a ?_ _)); refine blk_far ?_ NB131_144.out _; (with_reducible repeat (first | refine k_n ?_ _ | refine k_d ?_ | refine k_a ?_ _)); refine blk_far ?_ NB131_144.out _; (with_reducible repeat (first | refine k_n ?_ _ | refine k_d ?_ | refine k_a ?_ _)); exact BK131.out) hb); have n1_ := Aside0.mk (blk_below (g := gb132) (o := .cells #[.int .i64 2, .int .i64 2] 25 (0, 0)) (by (with_reducible repeat (first | refine k_n ?_ _ | refine k_d ?_ | refine k_a ?_ _)); refine blk_far ?_ NB132_144.out _; (with_reducible repeat (first | refine k_n ?_ _ | refine k_d ?_ | refine k_a ?_ _)); refine blk_far ?_ NB132_144.out _; (with_reducible repeat (first | refine k_n ?_ _ | refine k_d ?_ | refine k_a ?_ _)); exact BK132.out) hb); have n2_ := Aside0.mk (blk_below (g := gb136) (o := .cells #[.int .i64 t133, .int .i64 t134] 29 (0, 0)) (by (with_reducible repeat (first | refine k_n ?_ _ | refine k_d ?_ | refine k_a ?_ _)); refine blk_far ?_ NB136_144.out _; (with_reducible repeat (first | refine k_n ?_ _ | refine k_d ?_ | refine k_a ?_ _)); refine blk_far ?_ NB136_144.out _; (with_reducible repeat (first | refine k_n ?_ _ | refine k_d ?_ | refine k_a ?_ _)); exact BK136.out) hb); have n3_ := Aside0.mk (blk_below (g := gb140) (o := .cells #[.int .i64 t137, .int .i64 t138] 29 (0, 0)) (by (with_reducible repeat (first | refine k_n ?_ _ | refine k_d ?_ | refine k_a ?_ _)); refine blk_far ?_ NB140_144.out _; (with_reducible repeat (first | refine k_n ?_ _ | refine k_d ?_ | refine k_a ?_ _)); refine blk_far ?_ NB140_144.out _; (with_reducible repeat (first | refine k_n ?_ _ | refine k_d ?_ | refine k_a ?_ _)); exact BK140.out) hb); have n4_ := Aside0.mk (blk_below (g := gb144) (o := .cells #[.int .i64 t141, .int .i64 t142] 29 (0, 0)) (by (with_reducible repeat (first | refine k_n ?_ _ | refine k_d ?_ | refine k_a ?_ _)); refine blk_put (cs := #[.int .i64 t141, .int .i64 0]) ?_ 1 _ rfl; (with_reducible repeat (first | refine k_n ?_ _ | refine k_d ?_ | refine k_a ?_ _)); refine blk_put (cs := #[.int .i64 0, .int .i64 0]) ?_ 0 _ rfl; (with_reducible repeat (first | refine k_n ?_ _ | refine k_d ?_ | refine k_a ?_ _)); exact BK144.out) hb); have n5_ := Aside0.mk (below_step (by repeat (first | (with_reducible first | exact HB.out | apply b_a | apply b_n | apply b_d | refine b_s ?_ GE131.out | refine b_s ?_ GE132.out | refine b_s ?_ GE136.out | refine b_s ?_ GE140.out | refine b_s ?_ GE144.out) | exact HB.out)) hb); clear BK131; clear BK132; clear BK136; clear BK140; clear BK144; clear HB; have BK131 := n0_; have BK132 := n1_; have BK136 := n2_; have BK140 := n3_; have BK144 := n4_; have HB := n5_; clear n0_ n1_ n2_ n3_ n4_ n5_; (try clear hb); (try clear hb2); (try clear hk); (try clear hi)))
   go_meet
   case rel => exact ⟨_, (false), (by first | rfl | (simp; done) | (simp [*]; done)), H', ⟨by first | omega | exact Nat.le_refl _⟩, ⟨by (with_reducible repeat (first | refine k_n ?_ _ | refine k_d ?_ | refine k_a ?_ _)); exact BK131.out⟩, ⟨by (with_reducible repeat (first | refine k_n ?_ _ | refine k_d ?_ | refine k_a ?_ _)); exact BK132.out⟩, ⟨by (with_reducible repeat (first | refine k_n ?_ _ | refine k_d ?_ | refine k_a ?_ _)); exact BK136.out⟩, ⟨by (with_reducible repeat (first | refine k_n ?_ _ | refine k_d ?_ | refine k_a ?_ _)); exact BK140.out⟩, ⟨by (with_reducible repeat (first | refine k_n ?_ _ | refine k_d ?_ | refine k_a ?_ _)); exact BK144.out⟩, ⟨by repeat (first | (with_reducible first | exact HB.out | apply b_a | apply b_n | apply b_d | refine b_s ?_ GE131.out | refine b_s ?_ GE132.out | refine b_s ?_ GE136.out | refine b_s ?_ GE140.out | refine b_s ?_ GE144.out) | exact HB.out)⟩⟩
  rw [if_pos c35] at H
  have c35b0 : (t135 == 0) = true := beq_iff_eq.mpr c35
  have c35b1 : (t135 != 0) = false := bne_eq_false_iff_eq.mpr c35
  clear c35
  by_cases c36 : (t133 == 0 && (t134 == 2)) = true
  rotate_left
  ·
   rw [if_neg c36] at H
   have c36b0 : (t133 == 0 && (t134 == 2)) = false := by simpa using c36
   (try (have c36b1 : decide (t133 = 0 && (t134 == 2)) = false := by simpa using c36))
   (try (have c36b2 : (t133 == 0 && (t134 == 2)) = false := by simpa using c36))
   (try (have c36b3 : ¬ (t133 = 0 && (t134 == 2)) := by simpa using c36))
   clear c36
   have H' := Aside0.mk H
   clear H
   have hnb119 := NB131_132.out
   have hnc119 := NB132_131.out
   have hnb120 := NB131_136.out
   have hnc120 := NB136_131.out
   have hnb121 := NB131_140.out
   have hnc121 := NB140_131.out
   have hnb122 := NB131_144.out
   have hnc122 := NB144_131.out
   have hcz123_0 : w27.cell? ⟨gb131, 0, none⟩ = some (.int .i64 5) := (blk_cell BK131.out 0).trans rfl
   have hcz123_1 : w27.cell? ⟨gb131, 1, none⟩ = some (.int .i64 8) := (blk_cell BK131.out 1).trans rfl
   have hcz123_2 : w27.cell? ⟨gb131, 2, none⟩ = some (.int .i64 4) := (blk_cell BK131.out 2).trans rfl
   have hcz123_3 : w27.cell? ⟨gb131, 3, none⟩ = some (.int .i64 6) := (blk_cell BK131.out 3).trans rfl
   have hcz123_4 : w27.cell? ⟨gb131, 4, none⟩ = some (.int .i64 3) := (blk_cell BK131.out 4).trans rfl
   have hcz123_5 : w27.cell? ⟨gb131, 5, none⟩ = some (.int .i64 4) := (blk_cell BK131.out 5).trans rfl
   have hfz123_0 := blk_frozen BK131.out 0
   have hfz123_1 := blk_frozen BK131.out 1
   have hfz123_2 := blk_frozen BK131.out 2
   have hfz123_3 := blk_frozen BK131.out 3
   have hfz123_4 := blk_frozen BK131.out 4
   have hfz123_5 := blk_frozen BK131.out 5
   have hnb124 := NB132_136.out
   have hnc124 := NB136_132.out
   have hnb125 := NB132_140.out
   have hnc125 := NB140_132.out
   have hnb126 := NB132_144.out
   have hnc126 := NB144_132.out
   have hcz127_0 : w27.cell? ⟨gb132, 0, none⟩ = some (.int .i64 2) := (blk_cell BK132.out 0).trans rfl
   have hcz127_1 : w27.cell? ⟨gb132, 1, none⟩ = some (.int .i64 2) := (blk_cell BK132.out 1).trans rfl
   have hfz127_0 := blk_frozen BK132.out 0
   have hfz127_1 := blk_frozen BK132.out 1
   go_wp2_with (first | ((with_reducible refine gate_callee (f := 10) rfl ?_); refine goesL_ (some 31) rfl rfl Try.func10 (by kernel_rfl) rfl #[.agg #[.int .i64 5, .int .i64 8, .int .i64 4, .int .i64 6, .int .i64 3, .int .i64 4], .agg #[.int .i64 2, .int .i64 2]] rfl (by (try simp only [l_4, l_5, l_6]); first | done | rfl | (simp only [l_7, l_8]; rfl)) ?_; (with_reducible refine (slice_Workers.calls 5 8 4 6 3 4 2 2 t145 _ A33.out).mono ?_); rintro e w128 ⟨rfl, hb⟩; refine ⟨_, rfl, ?_⟩; have n0_ := Aside0.mk (blk_below (g := gb131) (o := .cells #[.int .i64 5, .int .i64 8, .int .i64 4, .int .i64 6, .int .i64 3, .int .i64 4] 23 (0, 0)) (by (with_reducible repeat (first | refine k_n ?_ _ | refine k_d ?_ | refine k_a ?_ _)); refine blk_far ?_ NB131_144.out _; (with_reducible repeat (first | refine k_n ?_ _ | refine k_d ?_ | refine k_a ?_ _)); refine blk_far ?_ NB131_144.out _; (with_reducible repeat (first | refine k_n ?_ _ | refine k_d ?_ | refine k_a ?_ _)); exact BK131.out) hb); have n1_ := Aside0.mk (blk_below (g := gb132) (o := .cells #[.int .i64 2, .int .i64 2] 25 (0, 0)) (by (with_reducible repeat (first | refine k_n ?_ _ | refine k_d ?_ | refine k_a ?_ _)); refine blk_far ?_ NB132_144.out _; (with_reducible repeat (first | refine k_n ?_ _ | refine k_d ?_ | refine k_a ?_ _)); refine blk_far ?_ NB132_144.out _; (with_reducible repeat (first | refine k_n ?_ _ | refine k_d ?_ | refine k_a ?_ _)); exact BK132.out) hb); have n2_ := Aside0.mk (blk_below (g := gb136) (o := .cells #[.int .i64 t133, .int .i64 t134] 29 (0, 0)) (by (with_reducible repeat (first | refine k_n ?_ _ | refine k_d ?_ | refine k_a ?_ _)); refine blk_far ?_ NB136_144.out _; (with_reducible repeat (first | refine k_n ?_ _ | refine k_d ?_ | refine k_a ?_ _)); refine blk_far ?_ NB136_144.out _; (with_reducible repeat (first | refine k_n ?_ _ | refine k_d ?_ | refine k_a ?_ _)); exact BK136.out) hb); have n3_ := Aside0.mk (blk_below (g := gb140) (o := .cells #[.int .i64 t137, .int .i64 t138] 29 (0, 0)) (by (with_reducible repeat (first | refine k_n ?_ _ | refine k_d ?_ | refine k_a ?_ _)); refine blk_far ?_ NB140_144.out _; (with_reducible repeat (first | refine k_n ?_ _ | refine k_d ?_ | refine k_a ?_ _)); refine blk_far ?_ NB140_144.out _; (with_reducible repeat (first | refine k_n ?_ _ | refine k_d ?_ | refine k_a ?_ _)); exact BK140.out) hb); have n4_ := Aside0.mk (blk_below (g := gb144) (o := .cells #[.int .i64 t141, .int .i64 t142] 29 (0, 0)) (by (with_reducible repeat (first | refine k_n ?_ _ | refine k_d ?_ | refine k_a ?_ _)); refine blk_put (cs := #[.int .i64 t141, .int .i64 0]) ?_ 1 _ rfl; (with_reducible repeat (first | refine k_n ?_ _ | refine k_d ?_ | refine k_a ?_ _)); refine blk_put (cs := #[.int .i64 0, .int .i64 0]) ?_ 0 _ rfl; (with_reducible repeat (first | refine k_n ?_ _ | refine k_d ?_ | refine k_a ?_ _)); exact BK144.out) hb); have n5_ := Aside0.mk (below_step (by repeat (first | (with_reducible first | exact HB.out | apply b_a | apply b_n | apply b_d | refine b_s ?_ GE131.out | refine b_s ?_ GE132.out | refine b_s ?_ GE136.out | refine b_s ?_ GE140.out | refine b_s ?_ GE144.out) | exact HB.out)) hb); clear BK131; clear BK132; clear BK136; clear BK140; clear BK144; clear HB; have BK131 := n0_; have BK132 := n1_; have BK136 := n2_; have BK140 := n3_; have BK144 := n4_; have HB := n5_; clear n0_ n1_ n2_ n3_ n4_ n5_; (try clear hb); (try clear hb2); (try clear hk); (try clear hi); have hnb129 := NB136_140.out; have hnc129 := NB140_136.out; have hnb130 := NB136_144.out; have hnc130 := NB144_136.out; have hcz131_0 : w128.cell? ⟨gb136, 0, none⟩ = some (.int .i64 t133) := (blk_cell BK136.out 0).trans rfl; have hcz131_1 : w128.cell? ⟨gb136, 1, none⟩ = some (.int .i64 t134) := (blk_cell BK136.out 1).trans rfl; have hfz131_0 := blk_frozen BK136.out 0; have hfz131_1 := blk_frozen BK136.out 1))
   go_meet
   case rel => exact ⟨_, (false), (by first | rfl | (simp; done) | (simp [*]; done)), H', ⟨by first | omega | exact Nat.le_refl _⟩, ⟨by (with_reducible repeat (first | refine k_n ?_ _ | refine k_d ?_ | refine k_a ?_ _)); exact BK131.out⟩, ⟨by (with_reducible repeat (first | refine k_n ?_ _ | refine k_d ?_ | refine k_a ?_ _)); exact BK132.out⟩, ⟨by (with_reducible repeat (first | refine k_n ?_ _ | refine k_d ?_ | refine k_a ?_ _)); exact BK136.out⟩, ⟨by (with_reducible repeat (first | refine k_n ?_ _ | refine k_d ?_ | refine k_a ?_ _)); exact BK140.out⟩, ⟨by (with_reducible repeat (first | refine k_n ?_ _ | refine k_d ?_ | refine k_a ?_ _)); exact BK144.out⟩, ⟨by repeat (first | (with_reducible first | exact HB.out | apply b_a | apply b_n | apply b_d | refine b_s ?_ GE131.out | refine b_s ?_ GE132.out | refine b_s ?_ GE136.out | refine b_s ?_ GE140.out | refine b_s ?_ GE144.out) | exact HB.out)⟩⟩
  rw [if_pos c36] at H
  have c36b0 : (t133 == 0 && (t134 == 2)) = true := c36
  (try (have c36b1 : decide (t133 = 0 && (t134 == 2)) = true := by simpa using c36))
  (try (have c36b2 : (t133 == 0 && (t134 == 2)) = true := by simpa using c36))
  clear c36
  by_cases c37 : t139 = 0
  rotate_left
  ·
   rw [if_neg c37] at H
   have c37b0 : (t139 == 0) = false := beq_eq_false_iff_ne.mpr c37
   have c37b1 : (t139 != 0) = true := bne_iff_ne.mpr c37
   have H' := Aside0.mk H
   clear H
   have hnb106 := NB131_132.out
   have hnc106 := NB132_131.out
   have hnb107 := NB131_136.out
   have hnc107 := NB136_131.out
   have hnb108 := NB131_140.out
   have hnc108 := NB140_131.out
   have hnb109 := NB131_144.out
   have hnc109 := NB144_131.out
   have hcz110_0 : w27.cell? ⟨gb131, 0, none⟩ = some (.int .i64 5) := (blk_cell BK131.out 0).trans rfl
   have hcz110_1 : w27.cell? ⟨gb131, 1, none⟩ = some (.int .i64 8) := (blk_cell BK131.out 1).trans rfl
   have hcz110_2 : w27.cell? ⟨gb131, 2, none⟩ = some (.int .i64 4) := (blk_cell BK131.out 2).trans rfl
   have hcz110_3 : w27.cell? ⟨gb131, 3, none⟩ = some (.int .i64 6) := (blk_cell BK131.out 3).trans rfl
   have hcz110_4 : w27.cell? ⟨gb131, 4, none⟩ = some (.int .i64 3) := (blk_cell BK131.out 4).trans rfl
   have hcz110_5 : w27.cell? ⟨gb131, 5, none⟩ = some (.int .i64 4) := (blk_cell BK131.out 5).trans rfl
   have hfz110_0 := blk_frozen BK131.out 0
   have hfz110_1 := blk_frozen BK131.out 1
   have hfz110_2 := blk_frozen BK131.out 2
   have hfz110_3 := blk_frozen BK131.out 3
   have hfz110_4 := blk_frozen BK131.out 4
   have hfz110_5 := blk_frozen BK131.out 5
   have hnb111 := NB132_136.out
   have hnc111 := NB136_132.out
   have hnb112 := NB132_140.out
   have hnc112 := NB140_132.out
   have hnb113 := NB132_144.out
   have hnc113 := NB144_132.out
   have hcz114_0 : w27.cell? ⟨gb132, 0, none⟩ = some (.int .i64 2) := (blk_cell BK132.out 0).trans rfl
   have hcz114_1 : w27.cell? ⟨gb132, 1, none⟩ = some (.int .i64 2) := (blk_cell BK132.out 1).trans rfl
   have hfz114_0 := blk_frozen BK132.out 0
   have hfz114_1 := blk_frozen BK132.out 1
   go_wp2_with (first | ((with_reducible refine gate_callee (f := 10) rfl ?_); refine goesL_ (some 31) rfl rfl Try.func10 (by kernel_rfl) rfl #[.agg #[.int .i64 5, .int .i64 8, .int .i64 4, .int .i64 6, .int .i64 3, .int .i64 4], .agg #[.int .i64 2, .int .i64 2]] rfl (by (try simp only [l_4, l_5, l_6]); first | done | rfl | (simp only [l_7, l_8]; rfl)) ?_; (with_reducible refine (slice_Workers.calls 5 8 4 6 3 4 2 2 t145 _ A33.out).mono ?_); rintro e w115 ⟨rfl, hb⟩; refine ⟨_, rfl, ?_⟩; have n0_ := Aside0.mk (blk_below (g := gb131) (o := .cells #[.int .i64 5, .int .i64 8, .int .i64 4, .int .i64 6, .int .i64 3, .int .i64 4] 23 (0, 0)) (by (with_reducible repeat (first | refine k_n ?_ _ | refine k_d ?_ | refine k_a ?_ _)); refine blk_far ?_ NB131_144.out _; (with_reducible repeat (first | refine k_n ?_ _ | refine k_d ?_ | refine k_a ?_ _)); refine blk_far ?_ NB131_144.out _; (with_reducible repeat (first | refine k_n ?_ _ | refine k_d ?_ | refine k_a ?_ _)); exact BK131.out) hb); have n1_ := Aside0.mk (blk_below (g := gb132) (o := .cells #[.int .i64 2, .int .i64 2] 25 (0, 0)) (by (with_reducible repeat (first | refine k_n ?_ _ | refine k_d ?_ | refine k_a ?_ _)); refine blk_far ?_ NB132_144.out _; (with_reducible repeat (first | refine k_n ?_ _ | refine k_d ?_ | refine k_a ?_ _)); refine blk_far ?_ NB132_144.out _; (with_reducible repeat (first | refine k_n ?_ _ | refine k_d ?_ | refine k_a ?_ _)); exact BK132.out) hb); have n2_ := Aside0.mk (blk_below (g := gb136) (o := .cells #[.int .i64 t133, .int .i64 t134] 29 (0, 0)) (by (with_reducible repeat (first | refine k_n ?_ _ | refine k_d ?_ | refine k_a ?_ _)); refine blk_far ?_ NB136_144.out _; (with_reducible repeat (first | refine k_n ?_ _ | refine k_d ?_ | refine k_a ?_ _)); refine blk_far ?_ NB136_144.out _; (with_reducible repeat (first | refine k_n ?_ _ | refine k_d ?_ | refine k_a ?_ _)); exact BK136.out) hb); have n3_ := Aside0.mk (blk_below (g := gb140) (o := .cells #[.int .i64 t137, .int .i64 t138] 29 (0, 0)) (by (with_reducible repeat (first | refine k_n ?_ _ | refine k_d ?_ | refine k_a ?_ _)); refine blk_far ?_ NB140_144.out _; (with_reducible repeat (first | refine k_n ?_ _ | refine k_d ?_ | refine k_a ?_ _)); refine blk_far ?_ NB140_144.out _; (with_reducible repeat (first | refine k_n ?_ _ | refine k_d ?_ | refine k_a ?_ _)); exact BK140.out) hb); have n4_ := Aside0.mk (blk_below (g := gb144) (o := .cells #[.int .i64 t141, .int .i64 t142] 29 (0, 0)) (by (with_reducible repeat (first | refine k_n ?_ _ | refine k_d ?_ | refine k_a ?_ _)); refine blk_put (cs := #[.int .i64 t141, .int .i64 0]) ?_ 1 _ rfl; (with_reducible repeat (first | refine k_n ?_ _ | refine k_d ?_ | refine k_a ?_ _)); refine blk_put (cs := #[.int .i64 0, .int .i64 0]) ?_ 0 _ rfl; (with_reducible repeat (first | refine k_n ?_ _ | refine k_d ?_ | refine k_a ?_ _)); exact BK144.out) hb); have n5_ := Aside0.mk (below_step (by repeat (first | (with_reducible first | exact HB.out | apply b_a | apply b_n | apply b_d | refine b_s ?_ GE131.out | refine b_s ?_ GE132.out | refine b_s ?_ GE136.out | refine b_s ?_ GE140.out | refine b_s ?_ GE144.out) | exact HB.out)) hb); clear BK131; clear BK132; clear BK136; clear BK140; clear BK144; clear HB; have BK131 := n0_; have BK132 := n1_; have BK136 := n2_; have BK140 := n3_; have BK144 := n4_; have HB := n5_; clear n0_ n1_ n2_ n3_ n4_ n5_; (try clear hb); (try clear hb2); (try clear hk); (try clear hi); have hnb116 := NB136_140.out; have hnc116 := NB140_136.out; have hnb117 := NB136_144.out; have hnc117 := NB144_136.out; have hcz118_0 : w115.cell? ⟨gb136, 0, none⟩ = some (.int .i64 t133) := (blk_cell BK136.out 0).trans rfl; have hcz118_1 : w115.cell? ⟨gb136, 1, none⟩ = some (.int .i64 t134) := (blk_cell BK136.out 1).trans rfl; have hfz118_0 := blk_frozen BK136.out 0; have hfz118_1 := blk_frozen BK136.out 1))
   go_meet
   case rel => exact ⟨_, (false), (by first | rfl | (simp; done) | (simp [*]; done)), H', ⟨by first | omega | exact Nat.le_refl _⟩, ⟨by (with_reducible repeat (first | refine k_n ?_ _ | refine k_d ?_ | refine k_a ?_ _)); exact BK131.out⟩, ⟨by (with_reducible repeat (first | refine k_n ?_ _ | refine k_d ?_ | refine k_a ?_ _)); exact BK132.out⟩, ⟨by (with_reducible repeat (first | refine k_n ?_ _ | refine k_d ?_ | refine k_a ?_ _)); exact BK136.out⟩, ⟨by (with_reducible repeat (first | refine k_n ?_ _ | refine k_d ?_ | refine k_a ?_ _)); exact BK140.out⟩, ⟨by (with_reducible repeat (first | refine k_n ?_ _ | refine k_d ?_ | refine k_a ?_ _)); exact BK144.out⟩, ⟨by repeat (first | (with_reducible first | exact HB.out | apply b_a | apply b_n | apply b_d | refine b_s ?_ GE131.out | refine b_s ?_ GE132.out | refine b_s ?_ GE136.out | refine b_s ?_ GE140.out | refine b_s ?_ GE144.out) | exact HB.out)⟩⟩
  rw [if_pos c37] at H
  have c37b0 : (t139 == 0) = true := beq_iff_eq.mpr c37
  have c37b1 : (t139 != 0) = false := bne_eq_false_iff_eq.mpr c37
  clear c37
  by_cases c38 : (t137 == 2 && (t138 == 5)) = true
  rotate_left
  ·
   rw [if_neg c38] at H
   have c38b0 : (t137 == 2 && (t138 == 5)) = false := by simpa using c38
   (try (have c38b1 : decide (t137 = 2 && (t138 == 5)) = false := by simpa using c38))
   (try (have c38b2 : (t137 == 2 && (t138 == 5)) = false := by simpa using c38))
   (try (have c38b3 : ¬ (t137 = 2 && (t138 == 5)) := by simpa using c38))
   clear c38
   have H' := Aside0.mk H
   clear H
   have hnb91 := NB131_132.out
   have hnc91 := NB132_131.out
   have hnb92 := NB131_136.out
   have hnc92 := NB136_131.out
   have hnb93 := NB131_140.out
   have hnc93 := NB140_131.out
   have hnb94 := NB131_144.out
   have hnc94 := NB144_131.out
   have hcz95_0 : w27.cell? ⟨gb131, 0, none⟩ = some (.int .i64 5) := (blk_cell BK131.out 0).trans rfl
   have hcz95_1 : w27.cell? ⟨gb131, 1, none⟩ = some (.int .i64 8) := (blk_cell BK131.out 1).trans rfl
   have hcz95_2 : w27.cell? ⟨gb131, 2, none⟩ = some (.int .i64 4) := (blk_cell BK131.out 2).trans rfl
   have hcz95_3 : w27.cell? ⟨gb131, 3, none⟩ = some (.int .i64 6) := (blk_cell BK131.out 3).trans rfl
   have hcz95_4 : w27.cell? ⟨gb131, 4, none⟩ = some (.int .i64 3) := (blk_cell BK131.out 4).trans rfl
   have hcz95_5 : w27.cell? ⟨gb131, 5, none⟩ = some (.int .i64 4) := (blk_cell BK131.out 5).trans rfl
   have hfz95_0 := blk_frozen BK131.out 0
   have hfz95_1 := blk_frozen BK131.out 1
   have hfz95_2 := blk_frozen BK131.out 2
   have hfz95_3 := blk_frozen BK131.out 3
   have hfz95_4 := blk_frozen BK131.out 4
   have hfz95_5 := blk_frozen BK131.out 5
   have hnb96 := NB132_136.out
   have hnc96 := NB136_132.out
   have hnb97 := NB132_140.out
   have hnc97 := NB140_132.out
   have hnb98 := NB132_144.out
   have hnc98 := NB144_132.out
   have hcz99_0 : w27.cell? ⟨gb132, 0, none⟩ = some (.int .i64 2) := (blk_cell BK132.out 0).trans rfl
   have hcz99_1 : w27.cell? ⟨gb132, 1, none⟩ = some (.int .i64 2) := (blk_cell BK132.out 1).trans rfl
   have hfz99_0 := blk_frozen BK132.out 0
   have hfz99_1 := blk_frozen BK132.out 1
   go_wp2_with (first | ((with_reducible refine gate_callee (f := 10) rfl ?_); refine goesL_ (some 31) rfl rfl Try.func10 (by kernel_rfl) rfl #[.agg #[.int .i64 5, .int .i64 8, .int .i64 4, .int .i64 6, .int .i64 3, .int .i64 4], .agg #[.int .i64 2, .int .i64 2]] rfl (by (try simp only [l_4, l_5, l_6]); first | done | rfl | (simp only [l_7, l_8]; rfl)) ?_; (with_reducible refine (slice_Workers.calls 5 8 4 6 3 4 2 2 t145 _ A33.out).mono ?_); rintro e w100 ⟨rfl, hb⟩; refine ⟨_, rfl, ?_⟩; have n0_ := Aside0.mk (blk_below (g := gb131) (o := .cells #[.int .i64 5, .int .i64 8, .int .i64 4, .int .i64 6, .int .i64 3, .int .i64 4] 23 (0, 0)) (by (with_reducible repeat (first | refine k_n ?_ _ | refine k_d ?_ | refine k_a ?_ _)); refine blk_far ?_ NB131_144.out _; (with_reducible repeat (first | refine k_n ?_ _ | refine k_d ?_ | refine k_a ?_ _)); refine blk_far ?_ NB131_144.out _; (with_reducible repeat (first | refine k_n ?_ _ | refine k_d ?_ | refine k_a ?_ _)); exact BK131.out) hb); have n1_ := Aside0.mk (blk_below (g := gb132) (o := .cells #[.int .i64 2, .int .i64 2] 25 (0, 0)) (by (with_reducible repeat (first | refine k_n ?_ _ | refine k_d ?_ | refine k_a ?_ _)); refine blk_far ?_ NB132_144.out _; (with_reducible repeat (first | refine k_n ?_ _ | refine k_d ?_ | refine k_a ?_ _)); refine blk_far ?_ NB132_144.out _; (with_reducible repeat (first | refine k_n ?_ _ | refine k_d ?_ | refine k_a ?_ _)); exact BK132.out) hb); have n2_ := Aside0.mk (blk_below (g := gb136) (o := .cells #[.int .i64 t133, .int .i64 t134] 29 (0, 0)) (by (with_reducible repeat (first | refine k_n ?_ _ | refine k_d ?_ | refine k_a ?_ _)); refine blk_far ?_ NB136_144.out _; (with_reducible repeat (first | refine k_n ?_ _ | refine k_d ?_ | refine k_a ?_ _)); refine blk_far ?_ NB136_144.out _; (with_reducible repeat (first | refine k_n ?_ _ | refine k_d ?_ | refine k_a ?_ _)); exact BK136.out) hb); have n3_ := Aside0.mk (blk_below (g := gb140) (o := .cells #[.int .i64 t137, .int .i64 t138] 29 (0, 0)) (by (with_reducible repeat (first | refine k_n ?_ _ | refine k_d ?_ | refine k_a ?_ _)); refine blk_far ?_ NB140_144.out _; (with_reducible repeat (first | refine k_n ?_ _ | refine k_d ?_ | refine k_a ?_ _)); refine blk_far ?_ NB140_144.out _; (with_reducible repeat (first | refine k_n ?_ _ | refine k_d ?_ | refine k_a ?_ _)); exact BK140.out) hb); have n4_ := Aside0.mk (blk_below (g := gb144) (o := .cells #[.int .i64 t141, .int .i64 t142] 29 (0, 0)) (by (with_reducible repeat (first | refine k_n ?_ _ | refine k_d ?_ | refine k_a ?_ _)); refine blk_put (cs := #[.int .i64 t141, .int .i64 0]) ?_ 1 _ rfl; (with_reducible repeat (first | refine k_n ?_ _ | refine k_d ?_ | refine k_a ?_ _)); refine blk_put (cs := #[.int .i64 0, .int .i64 0]) ?_ 0 _ rfl; (with_reducible repeat (first | refine k_n ?_ _ | refine k_d ?_ | refine k_a ?_ _)); exact BK144.out) hb); have n5_ := Aside0.mk (below_step (by repeat (first | (with_reducible first | exact HB.out | apply b_a | apply b_n | apply b_d | refine b_s ?_ GE131.out | refine b_s ?_ GE132.out | refine b_s ?_ GE136.out | refine b_s ?_ GE140.out | refine b_s ?_ GE144.out) | exact HB.out)) hb); clear BK131; clear BK132; clear BK136; clear BK140; clear BK144; clear HB; have BK131 := n0_; have BK132 := n1_; have BK136 := n2_; have BK140 := n3_; have BK144 := n4_; have HB := n5_; clear n0_ n1_ n2_ n3_ n4_ n5_; (try clear hb); (try clear hb2); (try clear hk); (try clear hi); have hnb101 := NB136_140.out; have hnc101 := NB140_136.out; have hnb102 := NB136_144.out; have hnc102 := NB144_136.out; have hcz103_0 : w100.cell? ⟨gb136, 0, none⟩ = some (.int .i64 t133) := (blk_cell BK136.out 0).trans rfl; have hcz103_1 : w100.cell? ⟨gb136, 1, none⟩ = some (.int .i64 t134) := (blk_cell BK136.out 1).trans rfl; have hfz103_0 := blk_frozen BK136.out 0; have hfz103_1 := blk_frozen BK136.out 1; have hnb104 := NB140_144.out; have hnc104 := NB144_140.out; have hcz105_0 : w100.cell? ⟨gb140, 0, none⟩ = some (.int .i64 t137) := (blk_cell BK140.out 0).trans rfl; have hcz105_1 : w100.cell? ⟨gb140, 1, none⟩ = some (.int .i64 t138) := (blk_cell BK140.out 1).trans rfl; have hfz105_0 := blk_frozen BK140.out 0; have hfz105_1 := blk_frozen BK140.out 1))
   go_meet
   case rel => exact ⟨_, (false), (by first | rfl | (simp; done) | (simp [*]; done)), H', ⟨by first | omega | exact Nat.le_refl _⟩, ⟨by (with_reducible repeat (first | refine k_n ?_ _ | refine k_d ?_ | refine k_a ?_ _)); exact BK131.out⟩, ⟨by (with_reducible repeat (first | refine k_n ?_ _ | refine k_d ?_ | refine k_a ?_ _)); exact BK132.out⟩, ⟨by (with_reducible repeat (first | refine k_n ?_ _ | refine k_d ?_ | refine k_a ?_ _)); exact BK136.out⟩, ⟨by (with_reducible repeat (first | refine k_n ?_ _ | refine k_d ?_ | refine k_a ?_ _)); exact BK140.out⟩, ⟨by (with_reducible repeat (first | refine k_n ?_ _ | refine k_d ?_ | refine k_a ?_ _)); exact BK144.out⟩, ⟨by repeat (first | (with_reducible first | exact HB.out | apply b_a | apply b_n | apply b_d | refine b_s ?_ GE131.out | refine b_s ?_ GE132.out | refine b_s ?_ GE136.out | refine b_s ?_ GE140.out | refine b_s ?_ GE144.out) | exact HB.out)⟩⟩
  rw [if_pos c38] at H
  have c38b0 : (t137 == 2 && (t138 == 5)) = true := c38
  (try (have c38b1 : decide (t137 = 2 && (t138 == 5)) = true := by simpa using c38))
  (try (have c38b2 : (t137 == 2 && (t138 == 5)) = true := by simpa using c38))
  clear c38
  by_cases c39 : t143 = 0
  rotate_left
  ·
   rw [if_neg c39] at H
   have c39b0 : (t143 == 0) = false := beq_eq_false_iff_ne.mpr c39
   have c39b1 : (t143 != 0) = true := bne_iff_ne.mpr c39
   have H' := Aside0.mk H
   clear H
   have hnb76 := NB131_132.out
   have hnc76 := NB132_131.out
   have hnb77 := NB131_136.out
   have hnc77 := NB136_131.out
   have hnb78 := NB131_140.out
   have hnc78 := NB140_131.out
   have hnb79 := NB131_144.out
   have hnc79 := NB144_131.out
   have hcz80_0 : w27.cell? ⟨gb131, 0, none⟩ = some (.int .i64 5) := (blk_cell BK131.out 0).trans rfl
   have hcz80_1 : w27.cell? ⟨gb131, 1, none⟩ = some (.int .i64 8) := (blk_cell BK131.out 1).trans rfl
   have hcz80_2 : w27.cell? ⟨gb131, 2, none⟩ = some (.int .i64 4) := (blk_cell BK131.out 2).trans rfl
   have hcz80_3 : w27.cell? ⟨gb131, 3, none⟩ = some (.int .i64 6) := (blk_cell BK131.out 3).trans rfl
   have hcz80_4 : w27.cell? ⟨gb131, 4, none⟩ = some (.int .i64 3) := (blk_cell BK131.out 4).trans rfl
   have hcz80_5 : w27.cell? ⟨gb131, 5, none⟩ = some (.int .i64 4) := (blk_cell BK131.out 5).trans rfl
   have hfz80_0 := blk_frozen BK131.out 0
   have hfz80_1 := blk_frozen BK131.out 1
   have hfz80_2 := blk_frozen BK131.out 2
   have hfz80_3 := blk_frozen BK131.out 3
   have hfz80_4 := blk_frozen BK131.out 4
   have hfz80_5 := blk_frozen BK131.out 5
   have hnb81 := NB132_136.out
   have hnc81 := NB136_132.out
   have hnb82 := NB132_140.out
   have hnc82 := NB140_132.out
   have hnb83 := NB132_144.out
   have hnc83 := NB144_132.out
   have hcz84_0 : w27.cell? ⟨gb132, 0, none⟩ = some (.int .i64 2) := (blk_cell BK132.out 0).trans rfl
   have hcz84_1 : w27.cell? ⟨gb132, 1, none⟩ = some (.int .i64 2) := (blk_cell BK132.out 1).trans rfl
   have hfz84_0 := blk_frozen BK132.out 0
   have hfz84_1 := blk_frozen BK132.out 1
   go_wp2_with (first | ((with_reducible refine gate_callee (f := 10) rfl ?_); refine goesL_ (some 31) rfl rfl Try.func10 (by kernel_rfl) rfl #[.agg #[.int .i64 5, .int .i64 8, .int .i64 4, .int .i64 6, .int .i64 3, .int .i64 4], .agg #[.int .i64 2, .int .i64 2]] rfl (by (try simp only [l_4, l_5, l_6]); first | done | rfl | (simp only [l_7, l_8]; rfl)) ?_; (with_reducible refine (slice_Workers.calls 5 8 4 6 3 4 2 2 t145 _ A33.out).mono ?_); rintro e w85 ⟨rfl, hb⟩; refine ⟨_, rfl, ?_⟩; have n0_ := Aside0.mk (blk_below (g := gb131) (o := .cells #[.int .i64 5, .int .i64 8, .int .i64 4, .int .i64 6, .int .i64 3, .int .i64 4] 23 (0, 0)) (by (with_reducible repeat (first | refine k_n ?_ _ | refine k_d ?_ | refine k_a ?_ _)); refine blk_far ?_ NB131_144.out _; (with_reducible repeat (first | refine k_n ?_ _ | refine k_d ?_ | refine k_a ?_ _)); refine blk_far ?_ NB131_144.out _; (with_reducible repeat (first | refine k_n ?_ _ | refine k_d ?_ | refine k_a ?_ _)); exact BK131.out) hb); have n1_ := Aside0.mk (blk_below (g := gb132) (o := .cells #[.int .i64 2, .int .i64 2] 25 (0, 0)) (by (with_reducible repeat (first | refine k_n ?_ _ | refine k_d ?_ | refine k_a ?_ _)); refine blk_far ?_ NB132_144.out _; (with_reducible repeat (first | refine k_n ?_ _ | refine k_d ?_ | refine k_a ?_ _)); refine blk_far ?_ NB132_144.out _; (with_reducible repeat (first | refine k_n ?_ _ | refine k_d ?_ | refine k_a ?_ _)); exact BK132.out) hb); have n2_ := Aside0.mk (blk_below (g := gb136) (o := .cells #[.int .i64 t133, .int .i64 t134] 29 (0, 0)) (by (with_reducible repeat (first | refine k_n ?_ _ | refine k_d ?_ | refine k_a ?_ _)); refine blk_far ?_ NB136_144.out _; (with_reducible repeat (first | refine k_n ?_ _ | refine k_d ?_ | refine k_a ?_ _)); refine blk_far ?_ NB136_144.out _; (with_reducible repeat (first | refine k_n ?_ _ | refine k_d ?_ | refine k_a ?_ _)); exact BK136.out) hb); have n3_ := Aside0.mk (blk_below (g := gb140) (o := .cells #[.int .i64 t137, .int .i64 t138] 29 (0, 0)) (by (with_reducible repeat (first | refine k_n ?_ _ | refine k_d ?_ | refine k_a ?_ _)); refine blk_far ?_ NB140_144.out _; (with_reducible repeat (first | refine k_n ?_ _ | refine k_d ?_ | refine k_a ?_ _)); refine blk_far ?_ NB140_144.out _; (with_reducible repeat (first | refine k_n ?_ _ | refine k_d ?_ | refine k_a ?_ _)); exact BK140.out) hb); have n4_ := Aside0.mk (blk_below (g := gb144) (o := .cells #[.int .i64 t141, .int .i64 t142] 29 (0, 0)) (by (with_reducible repeat (first | refine k_n ?_ _ | refine k_d ?_ | refine k_a ?_ _)); refine blk_put (cs := #[.int .i64 t141, .int .i64 0]) ?_ 1 _ rfl; (with_reducible repeat (first | refine k_n ?_ _ | refine k_d ?_ | refine k_a ?_ _)); refine blk_put (cs := #[.int .i64 0, .int .i64 0]) ?_ 0 _ rfl; (with_reducible repeat (first | refine k_n ?_ _ | refine k_d ?_ | refine k_a ?_ _)); exact BK144.out) hb); have n5_ := Aside0.mk (below_step (by repeat (first | (with_reducible first | exact HB.out | apply b_a | apply b_n | apply b_d | refine b_s ?_ GE131.out | refine b_s ?_ GE132.out | refine b_s ?_ GE136.out | refine b_s ?_ GE140.out | refine b_s ?_ GE144.out) | exact HB.out)) hb); clear BK131; clear BK132; clear BK136; clear BK140; clear BK144; clear HB; have BK131 := n0_; have BK132 := n1_; have BK136 := n2_; have BK140 := n3_; have BK144 := n4_; have HB := n5_; clear n0_ n1_ n2_ n3_ n4_ n5_; (try clear hb); (try clear hb2); (try clear hk); (try clear hi); have hnb86 := NB136_140.out; have hnc86 := NB140_136.out; have hnb87 := NB136_144.out; have hnc87 := NB144_136.out; have hcz88_0 : w85.cell? ⟨gb136, 0, none⟩ = some (.int .i64 t133) := (blk_cell BK136.out 0).trans rfl; have hcz88_1 : w85.cell? ⟨gb136, 1, none⟩ = some (.int .i64 t134) := (blk_cell BK136.out 1).trans rfl; have hfz88_0 := blk_frozen BK136.out 0; have hfz88_1 := blk_frozen BK136.out 1; have hnb89 := NB140_144.out; have hnc89 := NB144_140.out; have hcz90_0 : w85.cell? ⟨gb140, 0, none⟩ = some (.int .i64 t137) := (blk_cell BK140.out 0).trans rfl; have hcz90_1 : w85.cell? ⟨gb140, 1, none⟩ = some (.int .i64 t138) := (blk_cell BK140.out 1).trans rfl; have hfz90_0 := blk_frozen BK140.out 0; have hfz90_1 := blk_frozen BK140.out 1))
   go_meet
   case rel => exact ⟨_, (false), (by first | rfl | (simp; done) | (simp [*]; done)), H', ⟨by first | omega | exact Nat.le_refl _⟩, ⟨by (with_reducible repeat (first | refine k_n ?_ _ | refine k_d ?_ | refine k_a ?_ _)); exact BK131.out⟩, ⟨by (with_reducible repeat (first | refine k_n ?_ _ | refine k_d ?_ | refine k_a ?_ _)); exact BK132.out⟩, ⟨by (with_reducible repeat (first | refine k_n ?_ _ | refine k_d ?_ | refine k_a ?_ _)); exact BK136.out⟩, ⟨by (with_reducible repeat (first | refine k_n ?_ _ | refine k_d ?_ | refine k_a ?_ _)); exact BK140.out⟩, ⟨by (with_reducible repeat (first | refine k_n ?_ _ | refine k_d ?_ | refine k_a ?_ _)); exact BK144.out⟩, ⟨by repeat (first | (with_reducible first | exact HB.out | apply b_a | apply b_n | apply b_d | refine b_s ?_ GE131.out | refine b_s ?_ GE132.out | refine b_s ?_ GE136.out | refine b_s ?_ GE140.out | refine b_s ?_ GE144.out) | exact HB.out)⟩⟩
  rw [if_pos c39] at H
  have c39b0 : (t143 == 0) = true := beq_iff_eq.mpr c39
  have c39b1 : (t143 != 0) = false := bne_eq_false_iff_eq.mpr c39
  clear c39
  by_cases c40 : (t141 == 2 && (t142 == 4)) = true
  rotate_left
  ·
   rw [if_neg c40] at H
   have c40b0 : (t141 == 2 && (t142 == 4)) = false := by simpa using c40
   (try (have c40b1 : decide (t141 = 2 && (t142 == 4)) = false := by simpa using c40))
   (try (have c40b2 : (t141 == 2 && (t142 == 4)) = false := by simpa using c40))
   (try (have c40b3 : ¬ (t141 = 2 && (t142 == 4)) := by simpa using c40))
   clear c40
   have H' := Aside0.mk H
   clear H
   have hnb60 := NB131_132.out
   have hnc60 := NB132_131.out
   have hnb61 := NB131_136.out
   have hnc61 := NB136_131.out
   have hnb62 := NB131_140.out
   have hnc62 := NB140_131.out
   have hnb63 := NB131_144.out
   have hnc63 := NB144_131.out
   have hcz64_0 : w27.cell? ⟨gb131, 0, none⟩ = some (.int .i64 5) := (blk_cell BK131.out 0).trans rfl
   have hcz64_1 : w27.cell? ⟨gb131, 1, none⟩ = some (.int .i64 8) := (blk_cell BK131.out 1).trans rfl
   have hcz64_2 : w27.cell? ⟨gb131, 2, none⟩ = some (.int .i64 4) := (blk_cell BK131.out 2).trans rfl
   have hcz64_3 : w27.cell? ⟨gb131, 3, none⟩ = some (.int .i64 6) := (blk_cell BK131.out 3).trans rfl
   have hcz64_4 : w27.cell? ⟨gb131, 4, none⟩ = some (.int .i64 3) := (blk_cell BK131.out 4).trans rfl
   have hcz64_5 : w27.cell? ⟨gb131, 5, none⟩ = some (.int .i64 4) := (blk_cell BK131.out 5).trans rfl
   have hfz64_0 := blk_frozen BK131.out 0
   have hfz64_1 := blk_frozen BK131.out 1
   have hfz64_2 := blk_frozen BK131.out 2
   have hfz64_3 := blk_frozen BK131.out 3
   have hfz64_4 := blk_frozen BK131.out 4
   have hfz64_5 := blk_frozen BK131.out 5
   have hnb65 := NB132_136.out
   have hnc65 := NB136_132.out
   have hnb66 := NB132_140.out
   have hnc66 := NB140_132.out
   have hnb67 := NB132_144.out
   have hnc67 := NB144_132.out
   have hcz68_0 : w27.cell? ⟨gb132, 0, none⟩ = some (.int .i64 2) := (blk_cell BK132.out 0).trans rfl
   have hcz68_1 : w27.cell? ⟨gb132, 1, none⟩ = some (.int .i64 2) := (blk_cell BK132.out 1).trans rfl
   have hfz68_0 := blk_frozen BK132.out 0
   have hfz68_1 := blk_frozen BK132.out 1
   go_wp2_with (first | ((with_reducible refine gate_callee (f := 10) rfl ?_); refine goesL_ (some 31) rfl rfl Try.func10 (by kernel_rfl) rfl #[.agg #[.int .i64 5, .int .i64 8, .int .i64 4, .int .i64 6, .int .i64 3, .int .i64 4], .agg #[.int .i64 2, .int .i64 2]] rfl (by (try simp only [l_4, l_5, l_6]); first | done | rfl | (simp only [l_7, l_8]; rfl)) ?_; (with_reducible refine (slice_Workers.calls 5 8 4 6 3 4 2 2 t145 _ A33.out).mono ?_); rintro e w69 ⟨rfl, hb⟩; refine ⟨_, rfl, ?_⟩; have n0_ := Aside0.mk (blk_below (g := gb131) (o := .cells #[.int .i64 5, .int .i64 8, .int .i64 4, .int .i64 6, .int .i64 3, .int .i64 4] 23 (0, 0)) (by (with_reducible repeat (first | refine k_n ?_ _ | refine k_d ?_ | refine k_a ?_ _)); refine blk_far ?_ NB131_144.out _; (with_reducible repeat (first | refine k_n ?_ _ | refine k_d ?_ | refine k_a ?_ _)); refine blk_far ?_ NB131_144.out _; (with_reducible repeat (first | refine k_n ?_ _ | refine k_d ?_ | refine k_a ?_ _)); exact BK131.out) hb); have n1_ := Aside0.mk (blk_below (g := gb132) (o := .cells #[.int .i64 2, .int .i64 2] 25 (0, 0)) (by (with_reducible repeat (first | refine k_n ?_ _ | refine k_d ?_ | refine k_a ?_ _)); refine blk_far ?_ NB132_144.out _; (with_reducible repeat (first | refine k_n ?_ _ | refine k_d ?_ | refine k_a ?_ _)); refine blk_far ?_ NB132_144.out _; (with_reducible repeat (first | refine k_n ?_ _ | refine k_d ?_ | refine k_a ?_ _)); exact BK132.out) hb); have n2_ := Aside0.mk (blk_below (g := gb136) (o := .cells #[.int .i64 t133, .int .i64 t134] 29 (0, 0)) (by (with_reducible repeat (first | refine k_n ?_ _ | refine k_d ?_ | refine k_a ?_ _)); refine blk_far ?_ NB136_144.out _; (with_reducible repeat (first | refine k_n ?_ _ | refine k_d ?_ | refine k_a ?_ _)); refine blk_far ?_ NB136_144.out _; (with_reducible repeat (first | refine k_n ?_ _ | refine k_d ?_ | refine k_a ?_ _)); exact BK136.out) hb); have n3_ := Aside0.mk (blk_below (g := gb140) (o := .cells #[.int .i64 t137, .int .i64 t138] 29 (0, 0)) (by (with_reducible repeat (first | refine k_n ?_ _ | refine k_d ?_ | refine k_a ?_ _)); refine blk_far ?_ NB140_144.out _; (with_reducible repeat (first | refine k_n ?_ _ | refine k_d ?_ | refine k_a ?_ _)); refine blk_far ?_ NB140_144.out _; (with_reducible repeat (first | refine k_n ?_ _ | refine k_d ?_ | refine k_a ?_ _)); exact BK140.out) hb); have n4_ := Aside0.mk (blk_below (g := gb144) (o := .cells #[.int .i64 t141, .int .i64 t142] 29 (0, 0)) (by (with_reducible repeat (first | refine k_n ?_ _ | refine k_d ?_ | refine k_a ?_ _)); refine blk_put (cs := #[.int .i64 t141, .int .i64 0]) ?_ 1 _ rfl; (with_reducible repeat (first | refine k_n ?_ _ | refine k_d ?_ | refine k_a ?_ _)); refine blk_put (cs := #[.int .i64 0, .int .i64 0]) ?_ 0 _ rfl; (with_reducible repeat (first | refine k_n ?_ _ | refine k_d ?_ | refine k_a ?_ _)); exact BK144.out) hb); have n5_ := Aside0.mk (below_step (by repeat (first | (with_reducible first | exact HB.out | apply b_a | apply b_n | apply b_d | refine b_s ?_ GE131.out | refine b_s ?_ GE132.out | refine b_s ?_ GE136.out | refine b_s ?_ GE140.out | refine b_s ?_ GE144.out) | exact HB.out)) hb); clear BK131; clear BK132; clear BK136; clear BK140; clear BK144; clear HB; have BK131 := n0_; have BK132 := n1_; have BK136 := n2_; have BK140 := n3_; have BK144 := n4_; have HB := n5_; clear n0_ n1_ n2_ n3_ n4_ n5_; (try clear hb); (try clear hb2); (try clear hk); (try clear hi); have hnb70 := NB136_140.out; have hnc70 := NB140_136.out; have hnb71 := NB136_144.out; have hnc71 := NB144_136.out; have hcz72_0 : w69.cell? ⟨gb136, 0, none⟩ = some (.int .i64 t133) := (blk_cell BK136.out 0).trans rfl; have hcz72_1 : w69.cell? ⟨gb136, 1, none⟩ = some (.int .i64 t134) := (blk_cell BK136.out 1).trans rfl; have hfz72_0 := blk_frozen BK136.out 0; have hfz72_1 := blk_frozen BK136.out 1; have hnb73 := NB140_144.out; have hnc73 := NB144_140.out; have hcz74_0 : w69.cell? ⟨gb140, 0, none⟩ = some (.int .i64 t137) := (blk_cell BK140.out 0).trans rfl; have hcz74_1 : w69.cell? ⟨gb140, 1, none⟩ = some (.int .i64 t138) := (blk_cell BK140.out 1).trans rfl; have hfz74_0 := blk_frozen BK140.out 0; have hfz74_1 := blk_frozen BK140.out 1; have hcz75_0 : w69.cell? ⟨gb144, 0, none⟩ = some (.int .i64 t141) := (blk_cell BK144.out 0).trans rfl; have hcz75_1 : w69.cell? ⟨gb144, 1, none⟩ = some (.int .i64 t142) := (blk_cell BK144.out 1).trans rfl; have hfz75_0 := blk_frozen BK144.out 0; have hfz75_1 := blk_frozen BK144.out 1))
   go_meet
   case rel => exact ⟨_, (false), (by first | rfl | (simp; done) | (simp [*]; done)), H', ⟨by first | omega | exact Nat.le_refl _⟩, ⟨by (with_reducible repeat (first | refine k_n ?_ _ | refine k_d ?_ | refine k_a ?_ _)); exact BK131.out⟩, ⟨by (with_reducible repeat (first | refine k_n ?_ _ | refine k_d ?_ | refine k_a ?_ _)); exact BK132.out⟩, ⟨by (with_reducible repeat (first | refine k_n ?_ _ | refine k_d ?_ | refine k_a ?_ _)); exact BK136.out⟩, ⟨by (with_reducible repeat (first | refine k_n ?_ _ | refine k_d ?_ | refine k_a ?_ _)); exact BK140.out⟩, ⟨by (with_reducible repeat (first | refine k_n ?_ _ | refine k_d ?_ | refine k_a ?_ _)); exact BK144.out⟩, ⟨by repeat (first | (with_reducible first | exact HB.out | apply b_a | apply b_n | apply b_d | refine b_s ?_ GE131.out | refine b_s ?_ GE132.out | refine b_s ?_ GE136.out | refine b_s ?_ GE140.out | refine b_s ?_ GE144.out) | exact HB.out)⟩⟩
  rw [if_pos c40] at H
  have c40b0 : (t141 == 2 && (t142 == 4)) = true := c40
  (try (have c40b1 : decide (t141 = 2 && (t142 == 4)) = true := by simpa using c40))
  (try (have c40b2 : (t141 == 2 && (t142 == 4)) = true := by simpa using c40))
  clear c40
  replace H := Option.bind_eq_some_iff.mp H
  obtain ⟨t146, A410, H⟩ := H
  replace H : (pelotonlaw10_awake.j0 k (!t146)) = some r := H
  have A41 := Aside0.mk A410
  clear A410
  have H' := Aside0.mk H
  clear H
  have hnb42 := NB131_132.out
  have hnc42 := NB132_131.out
  have hnb43 := NB131_136.out
  have hnc43 := NB136_131.out
  have hnb44 := NB131_140.out
  have hnc44 := NB140_131.out
  have hnb45 := NB131_144.out
  have hnc45 := NB144_131.out
  have hcz46_0 : w27.cell? ⟨gb131, 0, none⟩ = some (.int .i64 5) := (blk_cell BK131.out 0).trans rfl
  have hcz46_1 : w27.cell? ⟨gb131, 1, none⟩ = some (.int .i64 8) := (blk_cell BK131.out 1).trans rfl
  have hcz46_2 : w27.cell? ⟨gb131, 2, none⟩ = some (.int .i64 4) := (blk_cell BK131.out 2).trans rfl
  have hcz46_3 : w27.cell? ⟨gb131, 3, none⟩ = some (.int .i64 6) := (blk_cell BK131.out 3).trans rfl
  have hcz46_4 : w27.cell? ⟨gb131, 4, none⟩ = some (.int .i64 3) := (blk_cell BK131.out 4).trans rfl
  have hcz46_5 : w27.cell? ⟨gb131, 5, none⟩ = some (.int .i64 4) := (blk_cell BK131.out 5).trans rfl
  have hfz46_0 := blk_frozen BK131.out 0
  have hfz46_1 := blk_frozen BK131.out 1
  have hfz46_2 := blk_frozen BK131.out 2
  have hfz46_3 := blk_frozen BK131.out 3
  have hfz46_4 := blk_frozen BK131.out 4
  have hfz46_5 := blk_frozen BK131.out 5
  have hnb47 := NB132_136.out
  have hnc47 := NB136_132.out
  have hnb48 := NB132_140.out
  have hnc48 := NB140_132.out
  have hnb49 := NB132_144.out
  have hnc49 := NB144_132.out
  have hcz50_0 : w27.cell? ⟨gb132, 0, none⟩ = some (.int .i64 2) := (blk_cell BK132.out 0).trans rfl
  have hcz50_1 : w27.cell? ⟨gb132, 1, none⟩ = some (.int .i64 2) := (blk_cell BK132.out 1).trans rfl
  have hfz50_0 := blk_frozen BK132.out 0
  have hfz50_1 := blk_frozen BK132.out 1
  go_wp2_with (first | ((with_reducible refine gate_callee (f := 10) rfl ?_); refine goesL_ (some 31) rfl rfl Try.func10 (by kernel_rfl) rfl #[.agg #[.int .i64 5, .int .i64 8, .int .i64 4, .int .i64 6, .int .i64 3, .int .i64 4], .agg #[.int .i64 2, .int .i64 2]] rfl (by (try simp only [l_4, l_5, l_6]); first | done | rfl | (simp only [l_7, l_8]; rfl)) ?_; (with_reducible refine (slice_Workers.calls 5 8 4 6 3 4 2 2 t145 _ A33.out).mono ?_); rintro e w51 ⟨rfl, hb⟩; refine ⟨_, rfl, ?_⟩; have n0_ := Aside0.mk (blk_below (g := gb131) (o := .cells #[.int .i64 5, .int .i64 8, .int .i64 4, .int .i64 6, .int .i64 3, .int .i64 4] 23 (0, 0)) (by (with_reducible repeat (first | refine k_n ?_ _ | refine k_d ?_ | refine k_a ?_ _)); refine blk_far ?_ NB131_144.out _; (with_reducible repeat (first | refine k_n ?_ _ | refine k_d ?_ | refine k_a ?_ _)); refine blk_far ?_ NB131_144.out _; (with_reducible repeat (first | refine k_n ?_ _ | refine k_d ?_ | refine k_a ?_ _)); exact BK131.out) hb); have n1_ := Aside0.mk (blk_below (g := gb132) (o := .cells #[.int .i64 2, .int .i64 2] 25 (0, 0)) (by (with_reducible repeat (first | refine k_n ?_ _ | refine k_d ?_ | refine k_a ?_ _)); refine blk_far ?_ NB132_144.out _; (with_reducible repeat (first | refine k_n ?_ _ | refine k_d ?_ | refine k_a ?_ _)); refine blk_far ?_ NB132_144.out _; (with_reducible repeat (first | refine k_n ?_ _ | refine k_d ?_ | refine k_a ?_ _)); exact BK132.out) hb); have n2_ := Aside0.mk (blk_below (g := gb136) (o := .cells #[.int .i64 t133, .int .i64 t134] 29 (0, 0)) (by (with_reducible repeat (first | refine k_n ?_ _ | refine k_d ?_ | refine k_a ?_ _)); refine blk_far ?_ NB136_144.out _; (with_reducible repeat (first | refine k_n ?_ _ | refine k_d ?_ | refine k_a ?_ _)); refine blk_far ?_ NB136_144.out _; (with_reducible repeat (first | refine k_n ?_ _ | refine k_d ?_ | refine k_a ?_ _)); exact BK136.out) hb); have n3_ := Aside0.mk (blk_below (g := gb140) (o := .cells #[.int .i64 t137, .int .i64 t138] 29 (0, 0)) (by (with_reducible repeat (first | refine k_n ?_ _ | refine k_d ?_ | refine k_a ?_ _)); refine blk_far ?_ NB140_144.out _; (with_reducible repeat (first | refine k_n ?_ _ | refine k_d ?_ | refine k_a ?_ _)); refine blk_far ?_ NB140_144.out _; (with_reducible repeat (first | refine k_n ?_ _ | refine k_d ?_ | refine k_a ?_ _)); exact BK140.out) hb); have n4_ := Aside0.mk (blk_below (g := gb144) (o := .cells #[.int .i64 t141, .int .i64 t142] 29 (0, 0)) (by (with_reducible repeat (first | refine k_n ?_ _ | refine k_d ?_ | refine k_a ?_ _)); refine blk_put (cs := #[.int .i64 t141, .int .i64 0]) ?_ 1 _ rfl; (with_reducible repeat (first | refine k_n ?_ _ | refine k_d ?_ | refine k_a ?_ _)); refine blk_put (cs := #[.int .i64 0, .int .i64 0]) ?_ 0 _ rfl; (with_reducible repeat (first | refine k_n ?_ _ | refine k_d ?_ | refine k_a ?_ _)); exact BK144.out) hb); have n5_ := Aside0.mk (below_step (by repeat (first | (with_reducible first | exact HB.out | apply b_a | apply b_n | apply b_d | refine b_s ?_ GE131.out | refine b_s ?_ GE132.out | refine b_s ?_ GE136.out | refine b_s ?_ GE140.out | refine b_s ?_ GE144.out) | exact HB.out)) hb); clear BK131; clear BK132; clear BK136; clear BK140; clear BK144; clear HB; have BK131 := n0_; have BK132 := n1_; have BK136 := n2_; have BK140 := n3_; have BK144 := n4_; have HB := n5_; clear n0_ n1_ n2_ n3_ n4_ n5_; (try clear hb); (try clear hb2); (try clear hk); (try clear hi); have hnb52 := NB136_140.out; have hnc52 := NB140_136.out; have hnb53 := NB136_144.out; have hnc53 := NB144_136.out; have hcz54_0 : w51.cell? ⟨gb136, 0, none⟩ = some (.int .i64 t133) := (blk_cell BK136.out 0).trans rfl; have hcz54_1 : w51.cell? ⟨gb136, 1, none⟩ = some (.int .i64 t134) := (blk_cell BK136.out 1).trans rfl; have hfz54_0 := blk_frozen BK136.out 0; have hfz54_1 := blk_frozen BK136.out 1; have hnb55 := NB140_144.out; have hnc55 := NB144_140.out; have hcz56_0 : w51.cell? ⟨gb140, 0, none⟩ = some (.int .i64 t137) := (blk_cell BK140.out 0).trans rfl; have hcz56_1 : w51.cell? ⟨gb140, 1, none⟩ = some (.int .i64 t138) := (blk_cell BK140.out 1).trans rfl; have hfz56_0 := blk_frozen BK140.out 0; have hfz56_1 := blk_frozen BK140.out 1; have hcz57_0 : w51.cell? ⟨gb144, 0, none⟩ = some (.int .i64 t141) := (blk_cell BK144.out 0).trans rfl; have hcz57_1 : w51.cell? ⟨gb144, 1, none⟩ = some (.int .i64 t142) := (blk_cell BK144.out 1).trans rfl; have hfz57_0 := blk_frozen BK144.out 0; have hfz57_1 := blk_frozen BK144.out 1; have hcz58_0 : w51.cell? ⟨gb131, 0, none⟩ = some (.int .i64 5) := (blk_cell BK131.out 0).trans rfl; have hcz58_1 : w51.cell? ⟨gb131, 1, none⟩ = some (.int .i64 8) := (blk_cell BK131.out 1).trans rfl; have hcz58_2 : w51.cell? ⟨gb131, 2, none⟩ = some (.int .i64 4) := (blk_cell BK131.out 2).trans rfl; have hcz58_3 : w51.cell? ⟨gb131, 3, none⟩ = some (.int .i64 6) := (blk_cell BK131.out 3).trans rfl; have hcz58_4 : w51.cell? ⟨gb131, 4, none⟩ = some (.int .i64 3) := (blk_cell BK131.out 4).trans rfl; have hcz58_5 : w51.cell? ⟨gb131, 5, none⟩ = some (.int .i64 4) := (blk_cell BK131.out 5).trans rfl; have hfz58_0 := blk_frozen BK131.out 0; have hfz58_1 := blk_frozen BK131.out 1; have hfz58_2 := blk_frozen BK131.out 2; have hfz58_3 := blk_frozen BK131.out 3; have hfz58_4 := blk_frozen BK131.out 4; have hfz58_5 := blk_frozen BK131.out 5) | (go_at_call 9; (with_reducible refine (slice_Right.calls 5 8 4 6 3 4 2 4 t146 _ A41.out).mono ?_); rintro e w59 ⟨rfl, hb⟩; have n0_ := Aside0.mk (blk_below (g := gb131) (o := .cells #[.int .i64 5, .int .i64 8, .int .i64 4, .int .i64 6, .int .i64 3, .int .i64 4] 23 (0, 0)) (by (with_reducible repeat (first | refine k_n ?_ _ | refine k_d ?_ | refine k_a ?_ _)); exact BK131.out) hb); have n1_ := Aside0.mk (blk_below (g := gb132) (o := .cells #[.int .i64 2, .int .i64 2] 25 (0, 0)) (by (with_reducible repeat (first | refine k_n ?_ _ | refine k_d ?_ | refine k_a ?_ _)); exact BK132.out) hb); have n2_ := Aside0.mk (blk_below (g := gb136) (o := .cells #[.int .i64 t133, .int .i64 t134] 29 (0, 0)) (by (with_reducible repeat (first | refine k_n ?_ _ | refine k_d ?_ | refine k_a ?_ _)); exact BK136.out) hb); have n3_ := Aside0.mk (blk_below (g := gb140) (o := .cells #[.int .i64 t137, .int .i64 t138] 29 (0, 0)) (by (with_reducible repeat (first | refine k_n ?_ _ | refine k_d ?_ | refine k_a ?_ _)); exact BK140.out) hb); have n4_ := Aside0.mk (blk_below (g := gb144) (o := .cells #[.int .i64 t141, .int .i64 t142] 29 (0, 0)) (by (with_reducible repeat (first | refine k_n ?_ _ | refine k_d ?_ | refine k_a ?_ _)); exact BK144.out) hb); have n5_ := Aside0.mk (below_step (by repeat (first | (with_reducible first | exact HB.out | apply b_a | apply b_n | apply b_d | refine b_s ?_ GE131.out | refine b_s ?_ GE132.out | refine b_s ?_ GE136.out | refine b_s ?_ GE140.out | refine b_s ?_ GE144.out) | exact HB.out)) hb); clear BK131; clear BK132; clear BK136; clear BK140; clear BK144; clear HB; have BK131 := n0_; have BK132 := n1_; have BK136 := n2_; have BK140 := n3_; have BK144 := n4_; have HB := n5_; clear n0_ n1_ n2_ n3_ n4_ n5_; (try clear hb); (try clear hb2); (try clear hk); (try clear hi)))
  go_meet
  case rel => exact ⟨_, (!t146), (by first | rfl | (simp; done) | (simp [*]; done)), H', ⟨by first | omega | exact Nat.le_refl _⟩, ⟨by (with_reducible repeat (first | refine k_n ?_ _ | refine k_d ?_ | refine k_a ?_ _)); exact BK131.out⟩, ⟨by (with_reducible repeat (first | refine k_n ?_ _ | refine k_d ?_ | refine k_a ?_ _)); exact BK132.out⟩, ⟨by (with_reducible repeat (first | refine k_n ?_ _ | refine k_d ?_ | refine k_a ?_ _)); exact BK136.out⟩, ⟨by (with_reducible repeat (first | refine k_n ?_ _ | refine k_d ?_ | refine k_a ?_ _)); exact BK140.out⟩, ⟨by (with_reducible repeat (first | refine k_n ?_ _ | refine k_d ?_ | refine k_a ?_ _)); exact BK144.out⟩, ⟨by repeat (first | (with_reducible first | exact HB.out | apply b_a | apply b_n | apply b_d | refine b_s ?_ GE131.out | refine b_s ?_ GE132.out | refine b_s ?_ GE136.out | refine b_s ?_ GE140.out | refine b_s ?_ GE144.out) | exact HB.out)⟩⟩
 case rest =>
  clear HC4
  try clear c1
  try clear c2
  try clear p2
  try clear c3
  try clear c4
  try clear c5
  try clear c6
  try clear c7
  try clear c8
  try clear c9
  try clear c10
  try clear c11
  try clear c12
  try clear c13
  try clear c14
  try clear c20
  try clear c21
  try clear c22
  try clear c28
  try clear c29
  try clear c30
  try clear c31
  try clear c34
  try clear c34b0
  try clear c34b1
  try clear c35
  try clear c35b0
  try clear c35b1
  try clear c36
  try clear c36b0
  try clear c36b1
  try clear c36b2
  try clear c37
  try clear c37b0
  try clear c37b1
  try clear c38
  try clear c38b0
  try clear c38b1
  try clear c38b2
  try clear c39
  try clear c39b0
  try clear c39b1
  try clear c40
  try clear c40b0
  try clear c40b1
  try clear c40b2
  try clear c42
  try clear c43
  try clear c44
  try clear c45
  try clear c47
  try clear c48
  try clear c49
  try clear c52
  try clear c53
  try clear c55
  try clear c60
  try clear c61
  try clear c62
  try clear c63
  try clear c65
  try clear c66
  try clear c67
  try clear c70
  try clear c71
  try clear c73
  try clear c76
  try clear c77
  try clear c78
  try clear c79
  try clear c81
  try clear c82
  try clear c83
  try clear c86
  try clear c87
  try clear c89
  try clear c91
  try clear c92
  try clear c93
  try clear c94
  try clear c96
  try clear c97
  try clear c98
  try clear c101
  try clear c102
  try clear c104
  try clear c106
  try clear c107
  try clear c108
  try clear c109
  try clear c111
  try clear c112
  try clear c113
  try clear c116
  try clear c117
  try clear c119
  try clear c120
  try clear c121
  try clear c122
  try clear c124
  try clear c125
  try clear c126
  try clear c129
  try clear c130
  try clear c132
  try clear c133
  try clear c134
  try clear c135
  try clear c137
  try clear c138
  try clear c139
  try clear c142
  try clear c143
  try clear c144
  try clear c145
  try clear c147
  try clear c148
  try clear c149
  try clear hcz103_0
  try clear hcz103_1
  try clear hcz105_0
  try clear hcz105_1
  try clear hcz10_0
  try clear hcz10_1
  try clear hcz10_2
  try clear hcz10_3
  try clear hcz10_4
  try clear hcz10_5
  try clear hcz110_0
  try clear hcz110_1
  try clear hcz110_2
  try clear hcz110_3
  try clear hcz110_4
  try clear hcz110_5
  try clear hcz114_0
  try clear hcz114_1
  try clear hcz118_0
  try clear hcz118_1
  try clear hcz123_0
  try clear hcz123_1
  try clear hcz123_2
  try clear hcz123_3
  try clear hcz123_4
  try clear hcz123_5
  try clear hcz127_0
  try clear hcz127_1
  try clear hcz131_0
  try clear hcz131_1
  try clear hcz136_0
  try clear hcz136_1
  try clear hcz136_2
  try clear hcz136_3
  try clear hcz136_4
  try clear hcz136_5
  try clear hcz140_0
  try clear hcz140_1
  try clear hcz146_0
  try clear hcz146_1
  try clear hcz146_2
  try clear hcz146_3
  try clear hcz146_4
  try clear hcz146_5
  try clear hcz150_0
  try clear hcz150_1
  try clear hcz15_0
  try clear hcz15_1
  try clear hcz16_0
  try clear hcz16_1
  try clear hcz16_2
  try clear hcz16_3
  try clear hcz16_4
  try clear hcz16_5
  try clear hcz17_0
  try clear hcz17_1
  try clear hcz23_0
  try clear hcz23_1
  try clear hcz24_0
  try clear hcz24_1
  try clear hcz24_2
  try clear hcz24_3
  try clear hcz24_4
  try clear hcz24_5
  try clear hcz25_0
  try clear hcz25_1
  try clear hcz32_0
  try clear hcz32_1
  try clear hcz46_0
  try clear hcz46_1
  try clear hcz46_2
  try clear hcz46_3
  try clear hcz46_4
  try clear hcz46_5
  try clear hcz50_0
  try clear hcz50_1
  try clear hcz54_0
  try clear hcz54_1
  try clear hcz56_0
  try clear hcz56_1
  try clear hcz57_0
  try clear hcz57_1
  try clear hcz58_0
  try clear hcz58_1
  try clear hcz58_2
  try clear hcz58_3
  try clear hcz58_4
  try clear hcz58_5
  try clear hcz64_0
  try clear hcz64_1
  try clear hcz64_2
  try clear hcz64_3
  try clear hcz64_4
  try clear hcz64_5
  try clear hcz68_0
  try clear hcz68_1
  try clear hcz6_0
  try clear hcz6_1
  try clear hcz6_2
  try clear hcz6_3
  try clear hcz6_4
  try clear hcz6_5
  try clear hcz72_0
  try clear hcz72_1
  try clear hcz74_0
  try clear hcz74_1
  try clear hcz75_0
  try clear hcz75_1
  try clear hcz80_0
  try clear hcz80_1
  try clear hcz80_2
  try clear hcz80_3
  try clear hcz80_4
  try clear hcz80_5
  try clear hcz84_0
  try clear hcz84_1
  try clear hcz88_0
  try clear hcz88_1
  try clear hcz90_0
  try clear hcz90_1
  try clear hcz95_0
  try clear hcz95_1
  try clear hcz95_2
  try clear hcz95_3
  try clear hcz95_4
  try clear hcz95_5
  try clear hcz99_0
  try clear hcz99_1
  try clear hcz9_0
  try clear hcz9_1
  try clear hfz103_0
  try clear hfz103_1
  try clear hfz105_0
  try clear hfz105_1
  try clear hfz10_0
  try clear hfz10_1
  try clear hfz10_2
  try clear hfz10_3
  try clear hfz10_4
  try clear hfz10_5
  try clear hfz110_0
  try clear hfz110_1
  try clear hfz110_2
  try clear hfz110_3
  try clear hfz110_4
  try clear hfz110_5
  try clear hfz114_0
  try clear hfz114_1
  try clear hfz118_0
  try clear hfz118_1
  try clear hfz123_0
  try clear hfz123_1
  try clear hfz123_2
  try clear hfz123_3
  try clear hfz123_4
  try clear hfz123_5
  try clear hfz127_0
  try clear hfz127_1
  try clear hfz131_0
  try clear hfz131_1
  try clear hfz136_0
  try clear hfz136_1
  try clear hfz136_2
  try clear hfz136_3
  try clear hfz136_4
  try clear hfz136_5
  try clear hfz140_0
  try clear hfz140_1
  try clear hfz146_0
  try clear hfz146_1
  try clear hfz146_2
  try clear hfz146_3
  try clear hfz146_4
  try clear hfz146_5
  try clear hfz150_0
  try clear hfz150_1
  try clear hfz15_0
  try clear hfz15_1
  try clear hfz16_0
  try clear hfz16_1
  try clear hfz16_2
  try clear hfz16_3
  try clear hfz16_4
  try clear hfz16_5
  try clear hfz17_0
  try clear hfz17_1
  try clear hfz23_0
  try clear hfz23_1
  try clear hfz24_0
  try clear hfz24_1
  try clear hfz24_2
  try clear hfz24_3
  try clear hfz24_4
  try clear hfz24_5
  try clear hfz25_0
  try clear hfz25_1
  try clear hfz32_0
  try clear hfz32_1
  try clear hfz46_0
  try clear hfz46_1
  try clear hfz46_2
  try clear hfz46_3
  try clear hfz46_4
  try clear hfz46_5
  try clear hfz50_0
  try clear hfz50_1
  try clear hfz54_0
  try clear hfz54_1
  try clear hfz56_0
  try clear hfz56_1
  try clear hfz57_0
  try clear hfz57_1
  try clear hfz58_0
  try clear hfz58_1
  try clear hfz58_2
  try clear hfz58_3
  try clear hfz58_4
  try clear hfz58_5
  try clear hfz64_0
  try clear hfz64_1
  try clear hfz64_2
  try clear hfz64_3
  try clear hfz64_4
  try clear hfz64_5
  try clear hfz68_0
  try clear hfz68_1
  try clear hfz6_0
  try clear hfz6_1
  try clear hfz6_2
  try clear hfz6_3
  try clear hfz6_4
  try clear hfz6_5
  try clear hfz72_0
  try clear hfz72_1
  try clear hfz74_0
  try clear hfz74_1
  try clear hfz75_0
  try clear hfz75_1
  try clear hfz80_0
  try clear hfz80_1
  try clear hfz80_2
  try clear hfz80_3
  try clear hfz80_4
  try clear hfz80_5
  try clear hfz84_0
  try clear hfz84_1
  try clear hfz88_0
  try clear hfz88_1
  try clear hfz90_0
  try clear hfz90_1
  try clear hfz95_0
  try clear hfz95_1
  try clear hfz95_2
  try clear hfz95_3
  try clear hfz95_4
  try clear hfz95_5
  try clear hfz99_0
  try clear hfz99_1
  try clear hfz9_0
  try clear hfz9_1
  obtain ⟨kq, x0_3, rfl, HA, HJ3, BK131, BK132, BK136, BK140, BK144, HB⟩ := hcut
  cases kq with
  | zero => exact absurd HA.out (by simp [pelotonlaw10_awake.j0])
  | succ kj3 =>
   have H := HA.out
   clear HA
   simp only [pelotonlaw10_awake.j0] at H
   obtain rfl := Option.some.inj H
   go_wp2
   go_ret
   exact ⟨by first | rfl | (simp [errW_none, errW_some] <;> rfl) | (simp [*, errW_none, errW_some] <;> rfl), by repeat (first | (with_reducible first | exact HB.out | apply b_a | apply b_n | apply b_d | refine b_s ?_ GE131.out | refine b_s ?_ GE132.out | refine b_s ?_ GE136.out | refine b_s ?_ GE140.out | refine b_s ?_ GE144.out) | exact HB.out)⟩

end Go.Proofs.Ytijkcjlkfjeedaa.QSliceCuts
