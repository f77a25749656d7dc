-- Written by a program of this session (a turned copy of the print) out of the translation. Lean checks it.
import Derived.Test.YtananmepljeldaaQMatmulGridsx0
import Derived.Test.YtananmepljeldaaQMatmulGridsx1
namespace Go.Proofs.Ytananmepljeldaa.QMatmulGrids
open Go.RowKit Go.Proofs.YtananmepljeldaaW.PrintWords Go.Proofs.YtananmepljeldaaW.PrintLast Go.Proofs.YtananmepljeldaaW.PrintMore
attribute [local go_sem] max2_int min2_int max_two min_two max_three min_three max_four min_four   -- for this text's walks alone
open Go.Proofs.YtananmepljeldaaW.PrintWords renaming below_alloc → b_a, pw_below_drewN → b_n, below_drew1 → b_d, below_set → b_s, blk_drewN → k_n, blk_drew → k_d, blk_alloc → k_a
open List renaming setIfInBounds_toArray → l_1, set_cons_zero → l_2, set_cons_succ → l_3, map_toArray → l_4, map_cons → l_5, map_nil → l_6, length_drop → l_7, length_take → l_8
set_option linter.unusedVariables false
set_option linter.unusedSimpArgs false

/-! ### matmul_Wide: function 26 -/
def matmul_Wide.l0 : Nat → List Int → Int → Int → Int → Int → List Int → Option (Int × Int × List Int × Int)
 | 0, _, _, _, _, _, _ => none
 | k + 1, x20, x21, x22, x179000, x179001, x179002 => if x22 < x21 then (if 0 ≤ x22 then (if x22 < (x20.length : Int) then (if x22 < (x179002.length : Int) then (matmul_Wide.l0 k x20 x21 (wrap64 (x22 + 1)) x179000 x179001 (x179002.set (x22 : Int).toNat (wrap32 (rd x20 x22)))) else (none)) else (none)) else (none)) else (some (x179000, x179001, x179002, 0))
def matmul_Wide.f (k : Nat) (a0_0 : Int) (a0_1 : Int) (l0_2 : List Int) : Option (Int × Int × List Int × Int) := (matmul_wrong.f a0_0 a0_1 l0_2).bind fun t174 => (if t174 = true then (some (0, 0, ([] : List Int), 30)) else (if 0 ≤ (l0_2.length : Int) then (if ((l0_2.length : Int) : Int).toNat ≤ 70368744177664 then (matmul_Wide.l0 k l0_2 (l0_2.length : Int) 0 a0_0 a0_1 (List.replicate ((l0_2.length : Int) : Int).toNat 0)) else (none)) else (none)))
theorem matmul_Wide.mono_l : ∀ k, (∀ y0 y1 y2 y3 y4 y5, LeO (matmul_Wide.l0 k y0 y1 y2 y3 y4 y5) (matmul_Wide.l0 (k + 1) y0 y1 y2 y3 y4 y5))
 | 0 => fun _ _ _ _ _ _ r h => by simp [matmul_Wide.l0] at h
 | k + 1 => by
  have ih0 := matmul_Wide.mono_l k
  ·
   intro y0 y1 y2 y3 y4 y5
   unfold matmul_Wide.l0
   repeat' first
   | (with_reducible exact ih0 _ _ _ _ _ _)
   | (with_reducible exact LeO.refl _)
   | (with_reducible exact LeO.none _)
   | (with_reducible refine LeO.ite ?_ ?_)
   | (with_reducible refine LeO.bind ?_ (fun _ => ?_))
   | exact ih0 _ _ _ _ _ _
   | exact LeO.none _
   | refine LeO.ite ?_ ?_
   | refine LeO.bind ?_ (fun _ => ?_)
theorem matmul_Wide.mono : ∀ a0 a1 a2 k, LeO (matmul_Wide.f k a0 a1 a2) (matmul_Wide.f (k + 1) a0 a1 a2) := by
 intro a0 a1 a2 k
 have ih0 := matmul_Wide.mono_l k
 unfold matmul_Wide.f
 repeat' first
   | (with_reducible exact ih0 _ _ _ _ _ _)
   | (with_reducible exact LeO.refl _)
   | (with_reducible exact LeO.none _)
   | (with_reducible refine LeO.ite ?_ ?_)
   | (with_reducible refine LeO.bind ?_ (fun _ => ?_))
   | exact ih0 _ _ _ _ _ _
   | exact LeO.none _
   | refine LeO.ite ?_ ?_
   | refine LeO.bind ?_ (fun _ => ?_)
def matmul_Wide.T3 : Bool × List (List Nat × List Nat) := (true, [([], []), ([0], [0]), ([], []), ([2], [2]), ([], []), ([4], [4]), ([5], [5]), ([6, 6], [6]), ([1, 3, 7], [1, 3, 7]), ([], []), ([9, 8, 0, 1, 2, 3, 4, 5, 6, 7, 8, 9], [8, 9])])
def matmul_Wide.B3 : List Nat := [0, 1, 0, 4, 0, 16, 48, 112, 255, 0, 1023]
theorem matmul_Wide.tab3 : rtab .any (opsOf Try.f26 3) = matmul_Wide.T3 := by kernel_rfl
theorem matmul_Wide.bits3 : waitsOk matmul_Wide.T3.2 matmul_Wide.B3 = true := by kernel_rfl
set_option maxHeartbeats 60000000 in
set_option maxRecDepth 100000 in
theorem matmul_Wide.calls (k : Nat) (a0_0 : Int) (a0_1 : Int) (A0_2 : Option Addr) (c0_2 : Nat) (l0_2 : List Int) (r1 : Int) (r2 : Int) (r3 : List Int) (r4 : Int) (w : World) (hr0_2 : Kd.C (Kd.int .i8) w A0_2 l0_2.length l0_2) (hc0_2 : l0_2.length ≤ c0_2) (h : matmul_Wide.f k a0_0 a0_1 l0_2 = some (r1, r2, r3, r4)) :
  Calls Try.prog 26 #[.agg #[.int .i64 a0_0, .int .i64 a0_1, .slice A0_2 l0_2.length c0_2]] w fun e w' => ∃ v2_ : Value, e = .returned (.tuple #[.agg #[.int .i64 r1, .int .i64 r2, v2_], .int .i64 r4]) ∧ Kd.R (Kd.int .i32) 21 w' w.heap.size (fun _ => True) v2_ r3 ∧ Below w.heap.size w w' := by
 have hu30 := Try.underlying30
 have hu51 := Try.underlying51
 have HR0_2 := Aside0.mk hr0_2
 have HC0_2 := Aside0.mk hc0_2
 clear hr0_2 hc0_2
 have HB := Aside0.mk (Below.refl w.heap.size w)
 have H : ((matmul_wrong.f a0_0 a0_1 l0_2).bind fun t174 => (if t174 = true then (some (0, 0, ([] : List Int), 30)) else (if 0 ≤ (l0_2.length : Int) then (if ((l0_2.length : Int) : Int).toNat ≤ 70368744177664 then (matmul_Wide.l0 k l0_2 (l0_2.length : Int) 0 a0_0 a0_1 (List.replicate ((l0_2.length : Int) : Int).toNat 0)) else (none)) else (none)))) = some (r1, r2, r3, r4) := h
 clear h
 replace H := Option.bind_eq_some_iff.mp H
 obtain ⟨t174, A20, H⟩ := H
 replace H : (if t174 = true then (some (0, 0, ([] : List Int), 30)) else (if 0 ≤ (l0_2.length : Int) then (if ((l0_2.length : Int) : Int).toNat ≤ 70368744177664 then (matmul_Wide.l0 k l0_2 (l0_2.length : Int) 0 a0_0 a0_1 (List.replicate ((l0_2.length : Int) : Int).toNat 0)) else (none)) else (none))) = some (r1, r2, r3, r4) := H
 have A2 := Aside0.mk A20
 clear A20
 by_cases c3 : t174 = true
 ·
  subst c3
  have H1 : (some (0, 0, ([] : List Int), 30)) = some (r1, r2, r3, r4) := by rw [if_pos rfl] at H; exact H
  clear H
  have H := H1
  clear H1
  simp only [Option.some.injEq, Prod.mk.injEq] at H
  obtain ⟨rfl, rfl, rfl, rfl⟩ := H
  go_enter Try.func26, Try.ntmps26
  go_wp2_with (first | ((with_reducible refine gate_dst (N := 1) rfl ?_); refine box_event ?hg (N := 1) ?hd (cs := #[.int .i64 a0_0, .int .i64 a0_1, .slice A0_2 l0_2.length c0_2]) (t := 30) ?hr ?_; (case hd => rfl); (case hg => rfl); (case hr => first | (go_simp; done) | (go_simp; rfl)); intro gb172 hg w4 hbox hb; have n0_ := Aside0.mk (below_step (by repeat (first | (with_reducible first | exact HB.out | apply b_a | apply b_n | apply b_d) | exact HB.out)) hb); have n1_ := Aside0.mk (hbox); have n2_ := Aside0.mk ((by rw [hg]; exact (below_size (by repeat (first | (with_reducible first | exact HB.out | apply b_a | apply b_n | apply b_d) | exact HB.out))) : w.heap.size ≤ gb172)); have n3_ := Aside0.mk ((by rw [hg]; exact (below_size (by repeat (first | (with_reducible first | exact HB.out | apply b_a | apply b_n | apply b_d) | exact HB.out))) : w.heap.size ≤ gb172)); clear HB; have HB := n0_; have BK172 := n1_; have GW172 := n2_; have GE172 := n3_; clear n0_ n1_ n2_ n3_; clear hb hbox hg) | ((with_reducible refine gate_dst (N := 2) rfl ?_); refine box_event ?hg (N := 2) ?hd (cs := #[.int .i64 0, .int .i64 0, .slice none 0 0]) (t := 51) ?hr ?_; (case hd => rfl); (case hg => rfl); (case hr => first | (go_simp; done) | (go_simp; rfl)); intro gb173 hg w5 hbox hb; have n0_ := Aside0.mk (blk_below (g := gb172) (o := .cells #[.int .i64 a0_0, .int .i64 a0_1, .slice A0_2 l0_2.length c0_2] 30 (0, 0)) (by (with_reducible repeat (first | refine k_n ?_ _ | refine k_d ?_ | refine k_a ?_ _)); exact BK172.out) hb); have n1_ := Aside0.mk (below_step (by repeat (first | (with_reducible first | exact HB.out | apply b_a | apply b_n | apply b_d | refine b_s ?_ GE172.out) | exact HB.out)) hb); have n2_ := Aside0.mk (hbox); have n3_ := Aside0.mk ((by rw [hg]; exact (below_size (by repeat (first | (with_reducible first | exact HB.out | apply b_a | apply b_n | apply b_d | refine b_s ?_ GE172.out) | exact HB.out))) : w.heap.size ≤ gb173)); have n4_ := Aside0.mk ((by rw [hg]; exact (below_size (by repeat (first | (with_reducible first | exact HB.out | apply b_a | apply b_n | apply b_d | refine b_s ?_ GE172.out) | exact HB.out))) : w.heap.size ≤ gb173)); have n5_ := Aside0.mk ((by rw [hg]; exact Nat.ne_of_lt (blk_lt (g := gb172) (o := .cells #[.int .i64 a0_0, .int .i64 a0_1, .slice A0_2 l0_2.length c0_2] 30 (0, 0)) (by (with_reducible repeat (first | refine k_n ?_ _ | refine k_d ?_ | refine k_a ?_ _)); exact BK172.out)) : gb172 ≠ gb173)); have n6_ := Aside0.mk ((by rw [hg]; exact Nat.ne_of_gt (blk_lt (g := gb172) (o := .cells #[.int .i64 a0_0, .int .i64 a0_1, .slice A0_2 l0_2.length c0_2] 30 (0, 0)) (by (with_reducible repeat (first | refine k_n ?_ _ | refine k_d ?_ | refine k_a ?_ _)); exact BK172.out)) : gb173 ≠ gb172)); clear BK172; clear HB; have BK172 := n0_; have HB := n1_; have BK173 := n2_; have GW173 := n3_; have GE173 := n4_; have NB172_173 := n5_; have NB173_172 := n6_; clear n0_ n1_ n2_ n3_ n4_ n5_ n6_; clear hb hbox hg; have hnb6 := NB172_173.out; have hnc6 := NB173_172.out; have hcz7_0 : w5.cell? ⟨gb172, 0, none⟩ = some (.int .i64 a0_0) := (blk_cell BK172.out 0).trans rfl; have hcz7_1 : w5.cell? ⟨gb172, 1, none⟩ = some (.int .i64 a0_1) := (blk_cell BK172.out 1).trans rfl; have hcz7_2 : w5.cell? ⟨gb172, 2, none⟩ = some (.slice A0_2 l0_2.length c0_2) := (blk_cell BK172.out 2).trans rfl; have hfz7_0 := blk_frozen BK172.out 0; have hfz7_1 := blk_frozen BK172.out 1; have hfz7_2 := blk_frozen BK172.out 2) | ((with_reducible refine gate_callee (f := 29) rfl ?_); refine goesL_ (some 8) rfl rfl Try.func29 (by kernel_rfl) rfl #[.agg #[.int .i64 a0_0, .int .i64 a0_1, .slice A0_2 l0_2.length c0_2]] rfl (by (try simp only [l_4, l_5, l_6]); first | done | rfl | (simp only [l_7, l_8]; rfl)) ?_; (with_reducible refine (matmul_wrong.calls a0_0 a0_1 _ _ l0_2 true _ ?side1 ?side2 A2.out).mono ?_); (case side1 => repeat (first | exact (Kd.C_below HR0_2.out HB.out) | (with_reducible refine Kd.C_alloc ?_ _) | (with_reducible refine Kd.C_drewN ?_ _) | (with_reducible refine Kd.C_drew ?_))); (case side2 => exact HC0_2.out); rintro e w8 ⟨rfl, hb⟩; refine ⟨_, rfl, ?_⟩; have n0_ := Aside0.mk (blk_below (g := gb172) (o := .cells #[.int .i64 a0_0, .int .i64 a0_1, .slice A0_2 l0_2.length c0_2] 30 (0, 0)) (by (with_reducible repeat (first | refine k_n ?_ _ | refine k_d ?_ | refine k_a ?_ _)); exact BK172.out) hb); have n1_ := Aside0.mk (blk_below (g := gb173) (o := .cells #[.int .i64 0, .int .i64 0, .slice none 0 0] 51 (0, 0)) (by (with_reducible repeat (first | refine k_n ?_ _ | refine k_d ?_ | refine k_a ?_ _)); exact BK173.out) hb); have n2_ := Aside0.mk (below_step (by repeat (first | (with_reducible first | exact HB.out | apply b_a | apply b_n | apply b_d | refine b_s ?_ GE172.out | refine b_s ?_ GE173.out) | exact HB.out)) hb); clear BK172; clear BK173; clear HB; have BK172 := n0_; have BK173 := n1_; have HB := n2_; clear n0_ n1_ n2_; (try clear hb); (try clear hb2); (try clear hk); (try clear hi); have hcz9_0 : w8.cell? ⟨gb173, 0, none⟩ = some (.int .i64 0) := (blk_cell BK173.out 0).trans rfl; have hcz9_1 : w8.cell? ⟨gb173, 1, none⟩ = some (.int .i64 0) := (blk_cell BK173.out 1).trans rfl; have hcz9_2 : w8.cell? ⟨gb173, 2, none⟩ = some (.slice none 0 0) := (blk_cell BK173.out 2).trans rfl; have hfz9_0 := blk_frozen BK173.out 0; have hfz9_1 := blk_frozen BK173.out 1; have hfz9_2 := blk_frozen BK173.out 2))
  refine bodyPost_ret (results_ct rfl _ _ gb173 51 #[.int .i64 0, .int .i64 0, .slice none 0 0] (0, 0) _ rfl (by (with_reducible repeat (first | refine k_n ?_ _ | refine k_d ?_ | refine k_a ?_ _)); refine blk_put (cs := #[.int .i64 0, .int .i64 0, .slice none 0 0]) ?_ 2 _ rfl; (with_reducible repeat (first | refine k_n ?_ _ | refine k_d ?_ | refine k_a ?_ _)); refine blk_put (cs := #[.int .i64 0, .int .i64 0, .slice none 0 0]) ?_ 1 _ rfl; (with_reducible repeat (first | refine k_n ?_ _ | refine k_d ?_ | refine k_a ?_ _)); refine blk_put (cs := #[.int .i64 0, .int .i64 0, .slice none 0 0]) ?_ 0 _ rfl; (with_reducible repeat (first | refine k_n ?_ _ | refine k_d ?_ | refine k_a ?_ _)); exact BK173.out) Try.underlying51 rfl (by kernel_rfl)) rfl ?_
  exact ⟨_, by first | rfl | (simp [errW_none, errW_some] <;> rfl) | (simp [*, errW_none, errW_some] <;> rfl), by first | exact Kd.R_nil _ _ _ _ _ | exact Kd.N_nil _ _ _ _ _ | exact Kd.V_nil _ _ _ _ _ | exact Kd.Q_nil _ _ _ _ _ | exact Kd.S_nil _ _ _ _ _, by repeat (first | (with_reducible first | exact HB.out | apply b_a | apply b_n | apply b_d | refine b_s ?_ GE172.out | refine b_s ?_ GE173.out) | exact HB.out)⟩
 replace c3 := Bool.eq_false_iff.mpr c3
 subst c3
 have H1 : (if 0 ≤ (l0_2.length : Int) then (if ((l0_2.length : Int) : Int).toNat ≤ 70368744177664 then (matmul_Wide.l0 k l0_2 (l0_2.length : Int) 0 a0_0 a0_1 (List.replicate ((l0_2.length : Int) : Int).toNat 0)) else (none)) else (none)) = some (r1, r2, r3, r4) := by rw [if_neg (show ¬ (false = true) by decide)] at H; exact H
 clear H
 have H := H1
 clear H1
 by_cases c10 : 0 ≤ (l0_2.length : Int)
 rotate_left
 ·
  rw [if_neg c10] at H
  exact absurd H (by simp)

 rw [if_pos c10] at H
 have c10b0 := eq_true c10
 have c10b1 : decide (0 ≤ (l0_2.length : Int)) = true := decide_eq_true c10
 clear c10
 by_cases c11 : ((l0_2.length : Int) : Int).toNat ≤ 70368744177664
 rotate_left
 ·
  rw [if_neg c11] at H
  exact absurd H (by simp)
 rw [if_pos c11] at H
 have c11b0 := eq_true c11
 have c11b1 : decide (((l0_2.length : Int) : Int).toNat ≤ 70368744177664) = true := decide_eq_true c11
 clear c11
 obtain ⟨y175, hy175⟩ : ∃ y_ : List Int, y_ = (List.replicate ((l0_2.length : Int) : Int).toNat 0) := ⟨_, rfl⟩
 replace H : (matmul_Wide.l0 k l0_2 (l0_2.length : Int) 0 a0_0 a0_1 y175) = some (r1, r2, r3, r4) := by first | (rw [hy175]; with_reducible exact H) | (have H2_ := (Option.bind_some _ _).symm.trans H; rw [hy175]; with_reducible exact H2_) | (have H2_ := (Option.bind_some _ _).symm.trans H; with_reducible exact H2_) | with_reducible exact H | (rw [hy175]; exact H) | exact H
 have Ny175 := Aside0.mk hy175
 clear hy175
 have H' := Aside0.mk H
 clear H
 go_enter Try.func26, Try.ntmps26
 try go_wp2_with (first | ((with_reducible refine gate_dst (N := 1) rfl ?_); refine box_event ?hg (N := 1) ?hd (cs := #[.int .i64 a0_0, .int .i64 a0_1, .slice A0_2 l0_2.length c0_2]) (t := 30) ?hr ?_; (case hd => rfl); (case hg => rfl); (case hr => first | (go_simp; done) | (go_simp; rfl)); intro gb172 hg w12 hbox hb; have n0_ := Aside0.mk (below_step (by repeat (first | (with_reducible first | exact HB.out | apply b_a | apply b_n | apply b_d) | exact HB.out)) hb); have n1_ := Aside0.mk (hbox); have n2_ := Aside0.mk ((by rw [hg]; exact (below_size (by repeat (first | (with_reducible first | exact HB.out | apply b_a | apply b_n | apply b_d) | exact HB.out))) : w.heap.size ≤ gb172)); have n3_ := Aside0.mk ((by rw [hg]; exact (below_size (by repeat (first | (with_reducible first | exact HB.out | apply b_a | apply b_n | apply b_d) | exact HB.out))) : w.heap.size ≤ gb172)); clear HB; have HB := n0_; have BK172 := n1_; have GW172 := n2_; have GE172 := n3_; clear n0_ n1_ n2_ n3_; clear hb hbox hg) | ((with_reducible refine gate_dst (N := 2) rfl ?_); refine box_event ?hg (N := 2) ?hd (cs := #[.int .i64 0, .int .i64 0, .slice none 0 0]) (t := 51) ?hr ?_; (case hd => rfl); (case hg => rfl); (case hr => first | (go_simp; done) | (go_simp; rfl)); intro gb173 hg w13 hbox hb; have n0_ := Aside0.mk (blk_below (g := gb172) (o := .cells #[.int .i64 a0_0, .int .i64 a0_1, .slice A0_2 l0_2.length c0_2] 30 (0, 0)) (by (with_reducible repeat (first | refine k_n ?_ _ | refine k_d ?_ | refine k_a ?_ _)); exact BK172.out) hb); have n1_ := Aside0.mk (below_step (by repeat (first | (with_reducible first | exact HB.out | apply b_a | apply b_n | apply b_d | refine b_s ?_ GE172.out) | exact HB.out)) hb); have n2_ := Aside0.mk (hbox); have n3_ := Aside0.mk ((by rw [hg]; exact (below_size (by repeat (first | (with_reducible first | exact HB.out | apply b_a | apply b_n | apply b_d | refine b_s ?_ GE172.out) | exact HB.out))) : w.heap.size ≤ gb173)); have n4_ := Aside0.mk ((by rw [hg]; exact (below_size (by repeat (first | (with_reducible first | exact HB.out | apply b_a | apply b_n | apply b_d | refine b_s ?_ GE172.out) | exact HB.out))) : w.heap.size ≤ gb173)); have n5_ := Aside0.mk ((by rw [hg]; exact Nat.ne_of_lt (blk_lt (g := gb172) (o := .cells #[.int .i64 a0_0, .int .i64 a0_1, .slice A0_2 l0_2.length c0_2] 30 (0, 0)) (by (with_reducible repeat (first | refine k_n ?_ _ | refine k_d ?_ | refine k_a ?_ _)); exact BK172.out)) : gb172 ≠ gb173)); have n6_ := Aside0.mk ((by rw [hg]; exact Nat.ne_of_gt (blk_lt (g := gb172) (o := .cells #[.int .i64 a0_0, .int .i64 a0_1, .slice A0_2 l0_2.length c0_2] 30 (0, 0)) (by (with_reducible repeat (first | refine k_n ?_ _ | refine k_d ?_ | refine k_a ?_ _)); exact BK172.out)) : gb173 ≠ gb172)); clear BK172; clear HB; have BK172 := n0_; have HB := n1_; have BK173 := n2_; have GW173 := n3_; have GE173 := n4_; have NB172_173 := n5_; have NB173_172 := n6_; clear n0_ n1_ n2_ n3_ n4_ n5_ n6_; clear hb hbox hg; have hnb14 := NB172_173.out; have hnc14 := NB173_172.out; have hcz15_0 : w13.cell? ⟨gb172, 0, none⟩ = some (.int .i64 a0_0) := (blk_cell BK172.out 0).trans rfl; have hcz15_1 : w13.cell? ⟨gb172, 1, none⟩ = some (.int .i64 a0_1) := (blk_cell BK172.out 1).trans rfl; have hcz15_2 : w13.cell? ⟨gb172, 2, none⟩ = some (.slice A0_2 l0_2.length c0_2) := (blk_cell BK172.out 2).trans rfl; have hfz15_0 := blk_frozen BK172.out 0; have hfz15_1 := blk_frozen BK172.out 1; have hfz15_2 := blk_frozen BK172.out 2) | ((with_reducible refine gate_callee (f := 29) rfl ?_); refine goesL_ (some 8) rfl rfl Try.func29 (by kernel_rfl) rfl #[.agg #[.int .i64 a0_0, .int .i64 a0_1, .slice A0_2 l0_2.length c0_2]] rfl (by (try simp only [l_4, l_5, l_6]); first | done | rfl | (simp only [l_7, l_8]; rfl)) ?_; (with_reducible refine (matmul_wrong.calls a0_0 a0_1 _ _ l0_2 false _ ?side1 ?side2 A2.out).mono ?_); (case side1 => repeat (first | exact (Kd.C_below HR0_2.out HB.out) | (with_reducible refine Kd.C_alloc ?_ _) | (with_reducible refine Kd.C_drewN ?_ _) | (with_reducible refine Kd.C_drew ?_))); (case side2 => exact HC0_2.out); rintro e w16 ⟨rfl, hb⟩; refine ⟨_, rfl, ?_⟩; have n0_ := Aside0.mk (blk_below (g := gb172) (o := .cells #[.int .i64 a0_0, .int .i64 a0_1, .slice A0_2 l0_2.length c0_2] 30 (0, 0)) (by (with_reducible repeat (first | refine k_n ?_ _ | refine k_d ?_ | refine k_a ?_ _)); exact BK172.out) hb); have n1_ := Aside0.mk (blk_below (g := gb173) (o := .cells #[.int .i64 0, .int .i64 0, .slice none 0 0] 51 (0, 0)) (by (with_reducible repeat (first | refine k_n ?_ _ | refine k_d ?_ | refine k_a ?_ _)); exact BK173.out) hb); have n2_ := Aside0.mk (below_step (by repeat (first | (with_reducible first | exact HB.out | apply b_a | apply b_n | apply b_d | refine b_s ?_ GE172.out | refine b_s ?_ GE173.out) | exact HB.out)) hb); clear BK172; clear BK173; clear HB; have BK172 := n0_; have BK173 := n1_; have HB := n2_; clear n0_ n1_ n2_; (try clear hb); (try clear hb2); (try clear hk); (try clear hi)))
 have n0_ := Aside0.mk (k_d BK172.out)
 have n1_ := Aside0.mk (k_d BK173.out)
 have n2_ := Aside0.mk (b_d HB.out)
 clear BK172
 clear BK173
 clear HB
 have BK172 := n0_
 have BK173 := n1_
 have HB := n2_
 clear n0_ n1_ n2_
 refine start_ (n := 11) (S := fun w' => w'.cell? ⟨gb172, 0, none⟩ = some (.int .i64 a0_0) ∧ w'.cell? ⟨gb172, 1, none⟩ = some (.int .i64 a0_1) ∧ w'.cell? ⟨gb172, 2, none⟩ = some (.slice A0_2 l0_2.length c0_2)) (ds := []) #[false, false, false, false, false, false, false, false, false, false, false] (by kernel_rfl) rfl rfl ⟨(blk_cell BK172.out 0).trans rfl, (blk_cell BK172.out 1).trans rfl, (blk_cell BK172.out 2).trans rfl⟩ (fun hHeld => ?_); refine with_tabW matmul_Wide.tab3 matmul_Wide.bits3 (fun HT_ HW_ => ?_)
 generalize w16.drew = w17 at BK172 BK173 HB hHeld ⊢
 refine pure_ (i := 0) (N := some 10) (v := ?_) (a' := ?_) #[true, false, false, false, false, false, false, false, false, false, false] rfl rfl (any_of HT_.out (by kernel_rfl)) (fun _ _ _ h => h) (Or.inl ⟨by rfl, ?_⟩) ?_ ?_
 rotate_left
 ·
  intro w'
  go_simp
  with_reducible rfl
 rotate_left
 ·
  simp only [Act.put, l_1, l_2, l_3, i64_w, i32_w]
  rfl
 refine pure_ (i := 2) (N := some 12) (v := ?_) (a' := ?_) #[true, false, true, false, false, false, false, false, false, false, false] rfl rfl (any_of HT_.out (by kernel_rfl)) (fun _ _ _ h => h) (Or.inl ⟨by rfl, ?_⟩) ?_ ?_
 rotate_left
 ·
  intro w'
  go_simp
  with_reducible rfl
 rotate_left
 ·
  simp only [Act.put, l_1, l_2, l_3, i64_w, i32_w]
  rfl
 refine pure_ (i := 4) (N := some 14) (v := ?_) (a' := ?_) #[true, false, true, false, true, false, false, false, false, false, false] rfl rfl (any_of HT_.out (by kernel_rfl)) (fun _ _ _ h => h) (Or.inl ⟨by rfl, ?_⟩) ?_ ?_
 rotate_left
 ·
  intro w'
  go_simp
  with_reducible rfl
 rotate_left
 ·
  simp only [Act.put, l_1, l_2, l_3, i64_w, i32_w]
  rfl
 refine take_ (i := 1) (N := some 11) (v := ?_) (a' := ?_) #[true, true, true, false, true, false, false, false, false, false, false] rfl rfl (take_ofW HT_.out HW_.out (by kernel_rfl)) (fun _ _ _ h => h) (Or.inl ⟨by rfl, ?_⟩) hHeld ?_ ?_
 rotate_left
 ·
  rintro w' ⟨s0, s1, s2⟩
  go_simp
  with_reducible rfl
 rotate_left
 ·
  simp only [Act.put, l_1, l_2, l_3, i64_w, i32_w]
  rfl
 refine take_ (i := 3) (N := some 13) (v := ?_) (a' := ?_) #[true, true, true, true, true, false, false, false, false, false, false] rfl rfl (take_ofW HT_.out HW_.out (by kernel_rfl)) (fun _ _ _ h => h) (Or.inl ⟨by rfl, ?_⟩) hHeld ?_ ?_
 rotate_left
 ·
  rintro w' ⟨s0, s1, s2⟩
  go_simp
  with_reducible rfl
 rotate_left
 ·
  simp only [Act.put, l_1, l_2, l_3, i64_w, i32_w]
  rfl
 refine take_ (i := 5) (N := some 15) (v := ?_) (a' := ?_) #[true, true, true, true, true, true, false, false, false, false, false] rfl rfl (take_ofW HT_.out HW_.out (by kernel_rfl)) (fun _ _ _ h => h) (Or.inl ⟨by rfl, ?_⟩) hHeld ?_ ?_
 rotate_left
 ·
  rintro w' ⟨s0, s1, s2⟩
  go_simp
  with_reducible rfl
 rotate_left
 ·
  simp only [Act.put, l_1, l_2, l_3, i64_w, i32_w]
  rfl
 refine pure_ (i := 6) (N := some 16) (v := ?_) (a' := ?_) #[true, true, true, true, true, true, true, false, false, false, false] rfl rfl (any_of HT_.out (by kernel_rfl)) (fun _ _ _ h => h) (Or.inl ⟨by rfl, ?_⟩) ?_ ?_
 rotate_left
 ·
  intro w'
  go_simp
  with_reducible rfl
 rotate_left
 ·
  simp only [Act.put, l_1, l_2, l_3, i64_w, i32_w]
  rfl
 refine join_ (σ := Value × Nat) 1 #[true, true, true, true, true, true, true, true, true, true, false] (fun s_ => [(17, s_.1), (4, .pointer (some ⟨s_.2, 0, none⟩)), (18, .agg #[.int .i64 a0_0, .int .i64 a0_1, s_.1])]) (fun s_ w' => (w'.cell? ⟨gb172, 0, none⟩ = some (.int .i64 a0_0) ∧ w'.cell? ⟨gb172, 1, none⟩ = some (.int .i64 a0_1) ∧ w'.cell? ⟨gb172, 2, none⟩ = some (.slice A0_2 l0_2.length c0_2)) ∧ (Kd.R (Kd.int .i32) 21 w' w.heap.size (fun _ => True) s_.1 y175) ∧ (w'.heap[gb172]? = some (.cells #[.int .i64 a0_0, .int .i64 a0_1, .slice A0_2 l0_2.length c0_2] 30 (0, 0))) ∧ (w'.heap[gb173]? = some (.cells #[.int .i64 0, .int .i64 0, .slice none 0 0] 51 (0, 0))) ∧ (w'.heap[s_.2]? = some (.cells #[.int .i64 0, .int .i64 0, .slice none 0 0] 51 (0, 0))) ∧ (w.heap.size ≤ s_.2) ∧ (w.heap.size ≤ s_.2) ∧ (gb172 ≠ s_.2) ∧ (s_.2 ≠ gb172) ∧ (gb173 ≠ s_.2) ∧ (s_.2 ≠ gb173) ∧ (Below w.heap.size w w')) ?_ ?_
 rotate_left
 ·
  intro hCont
  refine two_ (i := 7) (j := 9) (Ni := some 17) (Nj := some 4) #[true, true, true, true, true, true, true, true, false, false, false] #[true, true, true, true, true, true, true, false, false, true, false] rfl rfl rfl rfl (two_of HT_.out (by kernel_rfl)) (by decide) (by decide) (fun K hK => ?_) (fun K hK => ?_)
  ·
   skip
   refine Kd.R_make_step (Kd.int .i32) _ 21 (by rfl) (N := 17) rfl 32 _ _ rfl (l0_2.length : Int) rfl rfl Try.underlying32 (.int .i32 0) 4 info21 rfl (by decide) (by omega) 0 (ok := fun _ => True) (okp := fun _ => True) rfl (fun _ hk => hk) trivial (of_decide_eq_true (by first | (with_reducible assumption) | assumption)) (Nat.le_trans (Nat.mul_le_mul_right _ (of_decide_eq_true (by first | (with_reducible assumption) | assumption) : (l0_2.length : Int).toNat ≤ 70368744177664)) (by omega)) (Below.refl _ _) (Nat.le_refl _) ?_
   intro v176 w18 ho19 hb hg_ hnew_
   clear hg_ hnew_
   (first | rw [← Ny175.out] at ho19 | (simp only [Int.reduceToNat] at ho19; rw [← Ny175.out] at ho19))
   have n0_ := Aside0.mk (Kd.R_lower ho19 (below_size (by repeat (first | (with_reducible first | exact HB.out | apply b_a | apply b_n | apply b_d | refine b_s ?_ GE172.out | refine b_s ?_ GE173.out) | exact HB.out))))
   have n1_ := Aside0.mk (blk_below (g := gb172) (o := .cells #[.int .i64 a0_0, .int .i64 a0_1, .slice A0_2 l0_2.length c0_2] 30 (0, 0)) (by (with_reducible repeat (first | refine k_n ?_ _ | refine k_d ?_ | refine k_a ?_ _)); exact BK172.out) hb)
   have n2_ := Aside0.mk (blk_below (g := gb173) (o := .cells #[.int .i64 0, .int .i64 0, .slice none 0 0] 51 (0, 0)) (by (with_reducible repeat (first | refine k_n ?_ _ | refine k_d ?_ | refine k_a ?_ _)); exact BK173.out) hb)
   have n3_ := Aside0.mk (below_step (by repeat (first | (with_reducible first | exact HB.out | apply b_a | apply b_n | apply b_d | refine b_s ?_ GE172.out | refine b_s ?_ GE173.out) | exact HB.out)) hb)
   clear BK172
   clear BK173
   clear HB
   have HO177 := n0_
   have BK172 := n1_
   have BK173 := n2_
   have HB := n3_
   clear n0_ n1_ n2_ n3_
   clear hb ho19
   obtain ⟨Ao20, co20, eo20⟩ := Kd.R_slice HO177.out
   (first | subst eo20 | (injection eo20 with f1_ f2_ f3_; have f4_ := f1_.symm; have f5_ := f3_.symm; clear f1_ f2_ f3_; subst f4_; subst f5_))
   refine hK.out _ _ ⟨(blk_cell BK172.out 0).trans rfl, (blk_cell BK172.out 1).trans rfl, (blk_cell BK172.out 2).trans rfl⟩ (fun hHeld => ?_)
   clear hK K
   refine norm_ (a' := ?_) ?_ ?_
   rotate_left
   ·
    show Act.put _ (some 17) _ = _
    simp only [Act.put, l_1, l_2, l_3, i64_w, i32_w]
    rfl
   refine pure_ (i := 8) (N := some 18) (v := ?_) (a' := ?_) #[true, true, true, true, true, true, true, true, true, false, false] rfl rfl (any_of HT_.out (by kernel_rfl)) (fun _ _ _ h => h) (Or.inl ⟨by rfl, ?_⟩) ?_ ?_
   rotate_left
   ·
    intro w'
    go_simp
    with_reducible rfl
   rotate_left
   ·
    simp only [Act.put, l_1, l_2, l_3, i64_w, i32_w]
    rfl
   refine one_ (i := 9) (N := some 4) #[true, true, true, true, true, true, true, true, true, true, false] rfl rfl (one_of HT_.out (by kernel_rfl)) (by decide) (fun K hK => ?_)
   refine box_step ?hg (N := 4) ?hd (cs := #[.int .i64 0, .int .i64 0, .slice none 0 0]) (t := 51) ?hr ?_; (case hd => rfl); (case hg => rfl); (case hr => first | (go_simp; done) | (go_simp; rfl))
   intro gb178 hg w21 hbox hb
   have n0_ := Aside0.mk (Kd.R_below (by (with_reducible repeat (first | apply Kd.R_alloc | apply Kd.R_drewN | apply Kd.R_drew)); exact HO177.out) hb)
   have n1_ := Aside0.mk (blk_below (g := gb172) (o := .cells #[.int .i64 a0_0, .int .i64 a0_1, .slice A0_2 l0_2.length c0_2] 30 (0, 0)) (by (with_reducible repeat (first | refine k_n ?_ _ | refine k_d ?_ | refine k_a ?_ _)); exact BK172.out) hb)
   have n2_ := Aside0.mk (blk_below (g := gb173) (o := .cells #[.int .i64 0, .int .i64 0, .slice none 0 0] 51 (0, 0)) (by (with_reducible repeat (first | refine k_n ?_ _ | refine k_d ?_ | refine k_a ?_ _)); exact BK173.out) hb)
   have n3_ := Aside0.mk (below_step (by repeat (first | (with_reducible first | exact HB.out | apply b_a | apply b_n | apply b_d | refine b_s ?_ GE172.out | refine b_s ?_ GE173.out) | exact HB.out)) hb)
   have n4_ := Aside0.mk (hbox)
   have n5_ := Aside0.mk ((by rw [hg]; exact (below_size (by repeat (first | (with_reducible first | exact HB.out | apply b_a | apply b_n | apply b_d | refine b_s ?_ GE172.out | refine b_s ?_ GE173.out) | exact HB.out))) : w.heap.size ≤ gb178))
   have n6_ := Aside0.mk ((by rw [hg]; exact (below_size (by repeat (first | (with_reducible first | exact HB.out | apply b_a | apply b_n | apply b_d | refine b_s ?_ GE172.out | refine b_s ?_ GE173.out) | exact HB.out))) : w.heap.size ≤ gb178))
   have n7_ := Aside0.mk ((by rw [hg]; exact Nat.ne_of_lt (blk_lt (g := gb172) (o := .cells #[.int .i64 a0_0, .int .i64 a0_1, .slice A0_2 l0_2.length c0_2] 30 (0, 0)) (by (with_reducible repeat (first | refine k_n ?_ _ | refine k_d ?_ | refine k_a ?_ _)); exact BK172.out)) : gb172 ≠ gb178))
   have n8_ := Aside0.mk ((by rw [hg]; exact Nat.ne_of_gt (blk_lt (g := gb172) (o := .cells #[.int .i64 a0_0, .int .i64 a0_1, .slice A0_2 l0_2.length c0_2] 30 (0, 0)) (by (with_reducible repeat (first | refine k_n ?_ _ | refine k_d ?_ | refine k_a ?_ _)); exact BK172.out)) : gb178 ≠ gb172))
   have n9_ := Aside0.mk ((by rw [hg]; exact Nat.ne_of_lt (blk_lt (g := gb173) (o := .cells #[.int .i64 0, .int .i64 0, .slice none 0 0] 51 (0, 0)) (by (with_reducible repeat (first | refine k_n ?_ _ | refine k_d ?_ | refine k_a ?_ _)); exact BK173.out)) : gb173 ≠ gb178))
   have n10_ := Aside0.mk ((by rw [hg]; exact Nat.ne_of_gt (blk_lt (g := gb173) (o := .cells #[.int .i64 0, .int .i64 0, .slice none 0 0] 51 (0, 0)) (by (with_reducible repeat (first | refine k_n ?_ _ | refine k_d ?_ | refine k_a ?_ _)); exact BK173.out)) : gb178 ≠ gb173))
   clear HO177
   clear BK172
   clear BK173
   clear HB
   have HO177 := n0_
   have BK172 := n1_
   have BK173 := n2_
   have HB := n3_
   have BK178 := n4_
   have GW178 := n5_
   have GE178 := n6_
   have NB172_178 := n7_
   have NB178_172 := n8_
   have NB173_178 := n9_
   have NB178_173 := n10_
   clear n0_ n1_ n2_ n3_ n4_ n5_ n6_ n7_ n8_ n9_ n10_
   clear hb hbox hg
   refine hK.out _ _ ⟨(blk_cell BK172.out 0).trans rfl, (blk_cell BK172.out 1).trans rfl, (blk_cell BK172.out 2).trans rfl⟩ (fun hHeld => ?_)
   clear hK K
   refine norm_ (a' := ?_) ?_ ?_
   rotate_left
   ·
    show Act.put _ (some 4) _ = _
    simp only [Act.put, l_1, l_2, l_3, i64_w, i32_w]
    rfl
   exact norm_ (by simp only [putAll, Act.put, l_1, l_2, l_3]) (hCont (.slice Ao20 y175.length co20, gb178) _ ⟨hHeld, (by (with_reducible repeat (first | apply Kd.R_alloc | apply Kd.R_drewN | apply Kd.R_drew)); exact HO177.out), (by (with_reducible repeat (first | refine k_n ?_ _ | refine k_d ?_ | refine k_a ?_ _)); exact BK172.out), (by (with_reducible repeat (first | refine k_n ?_ _ | refine k_d ?_ | refine k_a ?_ _)); exact BK173.out), (by (with_reducible repeat (first | refine k_n ?_ _ | refine k_d ?_ | refine k_a ?_ _)); exact BK178.out), GW178.out, GE178.out, NB172_178.out, NB178_172.out, NB173_178.out, NB178_173.out, (by repeat (first | (with_reducible first | exact HB.out | apply b_a | apply b_n | apply b_d | refine b_s ?_ GE172.out | refine b_s ?_ GE173.out | refine b_s ?_ GE178.out) | exact HB.out))⟩)
  ·
   skip
   refine box_step ?hg (N := 4) ?hd (cs := #[.int .i64 0, .int .i64 0, .slice none 0 0]) (t := 51) ?hr ?_; (case hd => rfl); (case hg => rfl); (case hr => first | (go_simp; done) | (go_simp; rfl))
   intro gb178 hg w18 hbox hb
   have n0_ := Aside0.mk (blk_below (g := gb172) (o := .cells #[.int .i64 a0_0, .int .i64 a0_1, .slice A0_2 l0_2.length c0_2] 30 (0, 0)) (by (with_reducible repeat (first | refine k_n ?_ _ | refine k_d ?_ | refine k_a ?_ _)); exact BK172.out) hb)
   have n1_ := Aside0.mk (blk_below (g := gb173) (o := .cells #[.int .i64 0, .int .i64 0, .slice none 0 0] 51 (0, 0)) (by (with_reducible repeat (first | refine k_n ?_ _ | refine k_d ?_ | refine k_a ?_ _)); exact BK173.out) hb)
   have n2_ := Aside0.mk (below_step (by repeat (first | (with_reducible first | exact HB.out | apply b_a | apply b_n | apply b_d | refine b_s ?_ GE172.out | refine b_s ?_ GE173.out) | exact HB.out)) hb)
   have n3_ := Aside0.mk (hbox)
   have n4_ := Aside0.mk ((by rw [hg]; exact (below_size (by repeat (first | (with_reducible first | exact HB.out | apply b_a | apply b_n | apply b_d | refine b_s ?_ GE172.out | refine b_s ?_ GE173.out) | exact HB.out))) : w.heap.size ≤ gb178))
   have n5_ := Aside0.mk ((by rw [hg]; exact (below_size (by repeat (first | (with_reducible first | exact HB.out | apply b_a | apply b_n | apply b_d | refine b_s ?_ GE172.out | refine b_s ?_ GE173.out) | exact HB.out))) : w.heap.size ≤ gb178))
   have n6_ := Aside0.mk ((by rw [hg]; exact Nat.ne_of_lt (blk_lt (g := gb172) (o := .cells #[.int .i64 a0_0, .int .i64 a0_1, .slice A0_2 l0_2.length c0_2] 30 (0, 0)) (by (with_reducible repeat (first | refine k_n ?_ _ | refine k_d ?_ | refine k_a ?_ _)); exact BK172.out)) : gb172 ≠ gb178))
   have n7_ := Aside0.mk ((by rw [hg]; exact Nat.ne_of_gt (blk_lt (g := gb172) (o := .cells #[.int .i64 a0_0, .int .i64 a0_1, .slice A0_2 l0_2.length c0_2] 30 (0, 0)) (by (with_reducible repeat (first | refine k_n ?_ _ | refine k_d ?_ | refine k_a ?_ _)); exact BK172.out)) : gb178 ≠ gb172))
   have n8_ := Aside0.mk ((by rw [hg]; exact Nat.ne_of_lt (blk_lt (g := gb173) (o := .cells #[.int .i64 0, .int .i64 0, .slice none 0 0] 51 (0, 0)) (by (with_reducible repeat (first | refine k_n ?_ _ | refine k_d ?_ | refine k_a ?_ _)); exact BK173.out)) : gb173 ≠ gb178))
   have n9_ := Aside0.mk ((by rw [hg]; exact Nat.ne_of_gt (blk_lt (g := gb173) (o := .cells #[.int .i64 0, .int .i64 0, .slice none 0 0] 51 (0, 0)) (by (with_reducible repeat (first | refine k_n ?_ _ | refine k_d ?_ | refine k_a ?_ _)); exact BK173.out)) : gb178 ≠ gb173))
   clear BK172
   clear BK173
   clear HB
   have BK172 := n0_
   have BK173 := n1_
   have HB := n2_
   have BK178 := n3_
   have GW178 := n4_
   have GE178 := n5_
   have NB172_178 := n6_
   have NB178_172 := n7_
   have NB173_178 := n8_
   have NB178_173 := n9_
   clear n0_ n1_ n2_ n3_ n4_ n5_ n6_ n7_ n8_ n9_
   clear hb hbox hg
   refine hK.out _ _ ⟨(blk_cell BK172.out 0).trans rfl, (blk_cell BK172.out 1).trans rfl, (blk_cell BK172.out 2).trans rfl⟩ (fun hHeld => ?_)
   clear hK K
   refine norm_ (a' := ?_) ?_ ?_
   rotate_left
   ·
    show Act.put _ (some 4) _ = _
    simp only [Act.put, l_1, l_2, l_3, i64_w, i32_w]
    rfl
   refine one_ (i := 7) (N := some 17) #[true, true, true, true, true, true, true, true, false, true, false] rfl rfl (one_of HT_.out (by kernel_rfl)) (by decide) (fun K hK => ?_)
   refine Kd.R_make_step (Kd.int .i32) _ 21 (by rfl) (N := 17) rfl 32 _ _ rfl (l0_2.length : Int) rfl rfl Try.underlying32 (.int .i32 0) 4 info21 rfl (by decide) (by omega) 0 (ok := fun _ => True) (okp := fun _ => True) rfl (fun _ hk => hk) trivial (of_decide_eq_true (by first | (with_reducible assumption) | assumption)) (Nat.le_trans (Nat.mul_le_mul_right _ (of_decide_eq_true (by first | (with_reducible assumption) | assumption) : (l0_2.length : Int).toNat ≤ 70368744177664)) (by omega)) (Below.refl _ _) (Nat.le_refl _) ?_
   intro v176 w19 ho20 hb hg_ hnew_
   clear hg_ hnew_
   (first | rw [← Ny175.out] at ho20 | (simp only [Int.reduceToNat] at ho20; rw [← Ny175.out] at ho20))
   have n0_ := Aside0.mk (Kd.R_lower ho20 (below_size (by repeat (first | (with_reducible first | exact HB.out | apply b_a | apply b_n | apply b_d | refine b_s ?_ GE172.out | refine b_s ?_ GE173.out | refine b_s ?_ GE178.out) | exact HB.out))))
   have n1_ := Aside0.mk (blk_below (g := gb172) (o := .cells #[.int .i64 a0_0, .int .i64 a0_1, .slice A0_2 l0_2.length c0_2] 30 (0, 0)) (by (with_reducible repeat (first | refine k_n ?_ _ | refine k_d ?_ | refine k_a ?_ _)); exact BK172.out) hb)
   have n2_ := Aside0.mk (blk_below (g := gb173) (o := .cells #[.int .i64 0, .int .i64 0, .slice none 0 0] 51 (0, 0)) (by (with_reducible repeat (first | refine k_n ?_ _ | refine k_d ?_ | refine k_a ?_ _)); exact BK173.out) hb)
   have n3_ := Aside0.mk (blk_below (g := gb178) (o := .cells #[.int .i64 0, .int .i64 0, .slice none 0 0] 51 (0, 0)) (by (with_reducible repeat (first | refine k_n ?_ _ | refine k_d ?_ | refine k_a ?_ _)); exact BK178.out) hb)
   have n4_ := Aside0.mk (below_step (by repeat (first | (with_reducible first | exact HB.out | apply b_a | apply b_n | apply b_d | refine b_s ?_ GE172.out | refine b_s ?_ GE173.out | refine b_s ?_ GE178.out) | exact HB.out)) hb)
   clear BK172
   clear BK173
   clear BK178
   clear HB
   have HO177 := n0_
   have BK172 := n1_
   have BK173 := n2_
   have BK178 := n3_
   have HB := n4_
   clear n0_ n1_ n2_ n3_ n4_
   clear hb ho20
   obtain ⟨Ao21, co21, eo21⟩ := Kd.R_slice HO177.out
   (first | subst eo21 | (injection eo21 with f1_ f2_ f3_; have f4_ := f1_.symm; have f5_ := f3_.symm; clear f1_ f2_ f3_; subst f4_; subst f5_))
   refine hK.out _ _ ⟨(blk_cell BK172.out 0).trans rfl, (blk_cell BK172.out 1).trans rfl, (blk_cell BK172.out 2).trans rfl⟩ (fun hHeld => ?_)
   clear hK K
   refine norm_ (a' := ?_) ?_ ?_
   rotate_left
   ·
    show Act.put _ (some 17) _ = _
    simp only [Act.put, l_1, l_2, l_3, i64_w, i32_w]
    rfl
   refine pure_ (i := 8) (N := some 18) (v := ?_) (a' := ?_) #[true, true, true, true, true, true, true, true, true, true, false] rfl rfl (any_of HT_.out (by kernel_rfl)) (fun _ _ _ h => h) (Or.inl ⟨by rfl, ?_⟩) ?_ ?_
   rotate_left
   ·
    intro w'
    go_simp
    with_reducible rfl
   rotate_left
   ·
    simp only [Act.put, l_1, l_2, l_3, i64_w, i32_w]
    rfl
   exact norm_ (by simp only [putAll, Act.put, l_1, l_2, l_3]) (hCont (.slice Ao21 y175.length co21, gb178) _ ⟨hHeld, (by (with_reducible repeat (first | apply Kd.R_alloc | apply Kd.R_drewN | apply Kd.R_drew)); exact HO177.out), (by (with_reducible repeat (first | refine k_n ?_ _ | refine k_d ?_ | refine k_a ?_ _)); exact BK172.out), (by (with_reducible repeat (first | refine k_n ?_ _ | refine k_d ?_ | refine k_a ?_ _)); exact BK173.out), (by (with_reducible repeat (first | refine k_n ?_ _ | refine k_d ?_ | refine k_a ?_ _)); exact BK178.out), GW178.out, GE178.out, NB172_178.out, NB178_172.out, NB173_178.out, NB178_173.out, (by repeat (first | (with_reducible first | exact HB.out | apply b_a | apply b_n | apply b_d | refine b_s ?_ GE172.out | refine b_s ?_ GE173.out | refine b_s ?_ GE178.out) | exact HB.out))⟩)
 rintro ⟨v176, gb178⟩ w22 ⟨hS_, h0_, h1_, h2_, h3_, h4_, h5_, h6_, h7_, h8_, h9_, h10_⟩
 have n0_ : Aside0 (Kd.R (Kd.int .i32) 21 w22 w.heap.size (fun _ => True) v176 y175) := ⟨h0_⟩
 have n1_ : Aside0 (w22.heap[gb172]? = some (.cells #[.int .i64 a0_0, .int .i64 a0_1, .slice A0_2 l0_2.length c0_2] 30 (0, 0))) := ⟨h1_⟩
 have n2_ : Aside0 (w22.heap[gb173]? = some (.cells #[.int .i64 0, .int .i64 0, .slice none 0 0] 51 (0, 0))) := ⟨h2_⟩
 have n3_ : Aside0 (w22.heap[gb178]? = some (.cells #[.int .i64 0, .int .i64 0, .slice none 0 0] 51 (0, 0))) := ⟨h3_⟩
 have n4_ : Aside0 (w.heap.size ≤ gb178) := ⟨h4_⟩
 have n5_ : Aside0 (w.heap.size ≤ gb178) := ⟨h5_⟩
 have n6_ : Aside0 (gb172 ≠ gb178) := ⟨h6_⟩
 have n7_ : Aside0 (gb178 ≠ gb172) := ⟨h7_⟩
 have n8_ : Aside0 (gb173 ≠ gb178) := ⟨h8_⟩
 have n9_ : Aside0 (gb178 ≠ gb173) := ⟨h9_⟩
 have n10_ : Aside0 (Below w.heap.size w w22) := ⟨h10_⟩
 clear BK172
 clear BK173
 clear HB
 clear h0_ h1_ h2_ h3_ h4_ h5_ h6_ h7_ h8_ h9_ h10_
 have HO177 := n0_
 have BK172 := n1_
 have BK173 := n2_
 have BK178 := n3_
 have GW178 := n4_
 have GE178 := n5_
 have NB172_178 := n6_
 have NB178_172 := n7_
 have NB173_178 := n8_
 have NB178_173 := n9_
 have HB := n10_
 clear n0_ n1_ n2_ n3_ n4_ n5_ n6_ n7_ n8_ n9_ n10_
 have hHeld : w22.cell? ⟨gb172, 0, none⟩ = some (.int .i64 a0_0) ∧ w22.cell? ⟨gb172, 1, none⟩ = some (.int .i64 a0_1) ∧ w22.cell? ⟨gb172, 2, none⟩ = some (.slice A0_2 l0_2.length c0_2) := hS_
 obtain ⟨Ao23, co23, eo23⟩ := Kd.R_slice HO177.out
 (first | subst eo23 | (injection eo23 with f1_ f2_ f3_; have f4_ := f1_.symm; have f5_ := f3_.symm; clear f1_ f2_ f3_; subst f4_; subst f5_))
 refine norm_ (a' := ?_) ?_ ?_
 rotate_left
 ·
  simp only [putAll, Act.put, l_1, l_2, l_3]
  rfl
 refine one_ (i := 10) (N := none) #[true, true, true, true, true, true, true, true, true, true, true] rfl rfl (one_of HT_.out (by kernel_rfl)) (by decide) (fun K hK => ?_)
 have hs24 : w22.cell? ⟨gb178, 0, none⟩ = some (.int .i64 0) := (blk_cell BK178.out 0).trans rfl
 have hfs24 := blk_frozen BK178.out 0
 have hns24_0 := NB172_178.out
 have hns24_1 := NB173_178.out
 have hms24_0 := NB178_172.out
 have hms24_1 := NB178_173.out
 have hs25 : w22.cell? ⟨gb178, 1, none⟩ = some (.int .i64 0) := (blk_cell BK178.out 1).trans rfl
 have hfs25 := blk_frozen BK178.out 1
 have hns25_0 := NB172_178.out
 have hns25_1 := NB173_178.out
 have hms25_0 := NB178_172.out
 have hms25_1 := NB178_173.out
 have hs26 : w22.cell? ⟨gb178, 2, none⟩ = some (.slice none 0 0) := (blk_cell BK178.out 2).trans rfl
 have hfs26 := blk_frozen BK178.out 2
 have hns26_0 := NB172_178.out
 have hns26_1 := NB173_178.out
 have hms26_0 := NB178_172.out
 have hms26_1 := NB178_173.out
 refine skip_ (w1 := ?_) (by rfl) rfl ?_ ?_
 rotate_left
 ·
  go_simp
  rfl
 refine hK.out _ _ ⟨((cell_far (p := ⟨gb178, _, none⟩) NB172_178.out _).trans (((cell_far (p := ⟨gb178, _, none⟩) NB172_178.out _).trans (((cell_far (p := ⟨gb178, _, none⟩) NB172_178.out _).trans (hHeld.1)))))), ((cell_far (p := ⟨gb178, _, none⟩) NB172_178.out _).trans (((cell_far (p := ⟨gb178, _, none⟩) NB172_178.out _).trans (((cell_far (p := ⟨gb178, _, none⟩) NB172_178.out _).trans (hHeld.2.1)))))), ((cell_far (p := ⟨gb178, _, none⟩) NB172_178.out _).trans (((cell_far (p := ⟨gb178, _, none⟩) NB172_178.out _).trans (((cell_far (p := ⟨gb178, _, none⟩) NB172_178.out _).trans (hHeld.2.2))))))⟩ (fun hHeld => ?_)
 clear hK K
 refine done_ (done_of HT_.out (by kernel_rfl)) ?_
 have hnb27 := NB172_178.out
 have hnc27 := NB178_172.out
 have hcz28_0 : w22.cell? ⟨gb172, 0, none⟩ = some (.int .i64 a0_0) := (blk_cell BK172.out 0).trans rfl
 have hcz28_1 : w22.cell? ⟨gb172, 1, none⟩ = some (.int .i64 a0_1) := (blk_cell BK172.out 1).trans rfl
 have hcz28_2 : w22.cell? ⟨gb172, 2, none⟩ = some (.slice A0_2 l0_2.length c0_2) := (blk_cell BK172.out 2).trans rfl
 have hfz28_0 := blk_frozen BK172.out 0
 have hfz28_1 := blk_frozen BK172.out 1
 have hfz28_2 := blk_frozen BK172.out 2
 try go_wp2
 go_loopg [22] k (fun kq v22 w' => ∃ (x22_1 : Int) (x179002_1 : List Int) (u179002 : Value), v22 = .int .i64 x22_1 ∧ Aside0 (matmul_Wide.l0 kq l0_2 (l0_2.length : Int) x22_1 a0_0 a0_1 x179002_1 = some (r1, r2, r3, r4)) ∧ Aside0 (kq ≤ k) ∧ Aside0 (Kd.R (Kd.int .i32) 21 w' w.heap.size (fun _ => True) u179002 x179002_1) ∧ Aside0 (w'.heap[gb172]? = some (.cells #[.int .i64 a0_0, .int .i64 a0_1, (.slice A0_2 l0_2.length c0_2)] 30 (0, 0))) ∧ Aside0 (w'.heap[gb173]? = some (.cells #[.int .i64 0, .int .i64 0, (.slice none 0 0)] 51 (0, 0))) ∧ Aside0 (w'.heap[gb178]? = some (.cells #[.int .i64 a0_0, .int .i64 a0_1, u179002] 51 (0, 0))) ∧ Aside0 (Below w.heap.size w w'))
 case atStart => exact ⟨(0), (y175), (.slice Ao23 y175.length co23), (by first | rfl | (simp; done) | (simp [*]; done)), H', ⟨Nat.le_refl _⟩, ⟨by (with_reducible repeat (first | apply Kd.R_alloc | apply Kd.R_drewN | apply Kd.R_drew)); exact Kd.R_mono (Kd.R_far (p := ⟨gb178, 2, none⟩) (Kd.R_far (p := ⟨gb178, 1, none⟩) (Kd.R_far (p := ⟨gb178, 0, none⟩) (Kd.R_types HO177.out BK178.out (by decide)) (fun _ hk => hk.2) (.int .i64 a0_0)) (fun _ hk => hk.2) (.int .i64 a0_1)) (fun _ hk => hk.2) (.slice Ao23 y175.length co23)) (fun _ hk => trivial)⟩, ⟨by (with_reducible repeat (first | refine k_n ?_ _ | refine k_d ?_ | refine k_a ?_ _)); refine blk_far ?_ NB172_178.out _; (with_reducible repeat (first | refine k_n ?_ _ | refine k_d ?_ | refine k_a ?_ _)); refine blk_far ?_ NB172_178.out _; (with_reducible repeat (first | refine k_n ?_ _ | refine k_d ?_ | refine k_a ?_ _)); refine blk_far ?_ NB172_178.out _; (with_reducible repeat (first | refine k_n ?_ _ | refine k_d ?_ | refine k_a ?_ _)); exact BK172.out⟩, ⟨by (with_reducible repeat (first | refine k_n ?_ _ | refine k_d ?_ | refine k_a ?_ _)); refine blk_far ?_ NB173_178.out _; (with_reducible repeat (first | refine k_n ?_ _ | refine k_d ?_ | refine k_a ?_ _)); refine blk_far ?_ NB173_178.out _; (with_reducible repeat (first | refine k_n ?_ _ | refine k_d ?_ | refine k_a ?_ _)); refine blk_far ?_ NB173_178.out _; (with_reducible repeat (first | refine k_n ?_ _ | refine k_d ?_ | refine k_a ?_ _)); exact BK173.out⟩, ⟨by (with_reducible repeat (first | refine k_n ?_ _ | refine k_d ?_ | refine k_a ?_ _)); refine blk_put (cs := #[.int .i64 a0_0, .int .i64 a0_1, .slice none 0 0]) ?_ 2 _ rfl; (with_reducible repeat (first | refine k_n ?_ _ | refine k_d ?_ | refine k_a ?_ _)); refine blk_put (cs := #[.int .i64 a0_0, .int .i64 0, .slice none 0 0]) ?_ 1 _ rfl; (with_reducible repeat (first | refine k_n ?_ _ | refine k_d ?_ | refine k_a ?_ _)); refine blk_put (cs := #[.int .i64 0, .int .i64 0, .slice none 0 0]) ?_ 0 _ rfl; (with_reducible repeat (first | refine k_n ?_ _ | refine k_d ?_ | refine k_a ?_ _)); exact BK178.out⟩, ⟨by repeat (first | (with_reducible first | exact HB.out | apply b_a | apply b_n | apply b_d | refine b_s ?_ GE172.out | refine b_s ?_ GE173.out | refine b_s ?_ GE178.out) | exact HB.out)⟩⟩
 case round =>
  clear H'
  try clear c1
  try clear c2
  try clear p2
  try clear c3
  try clear c6
  try clear c10
  try clear c10b0
  try clear c10b1
  try clear c11
  try clear c11b0
  try clear c11b1
  try clear c14
  try clear c26
  try clear c27
  try clear hcz15_0
  try clear hcz15_1
  try clear hcz15_2
  try clear hcz28_0
  try clear hcz28_1
  try clear hcz28_2
  try clear hcz7_0
  try clear hcz7_1
  try clear hcz7_2
  try clear hcz9_0
  try clear hcz9_1
  try clear hcz9_2
  try clear hfz15_0
  try clear hfz15_1
  try clear hfz15_2
  try clear hfz28_0
  try clear hfz28_1
  try clear hfz28_2
  try clear hfz7_0
  try clear hfz7_1
  try clear hfz7_2
  try clear hfz9_0
  try clear hfz9_1
  try clear hfz9_2
  obtain ⟨x22_1, x179002_1, u179002, rfl, HA, HK1, HO_179002, BK172, BK173, BK178, HB⟩ := hrel
  cases gk with
  | zero => exact absurd HA.out (by simp [matmul_Wide.l0])
  | succ k1 =>
   have H := HA.out
   clear HA
   simp only [matmul_Wide.l0] at H
   by_cases c29 : x22_1 < (l0_2.length : Int)
   rotate_left
   ·
    rw [if_neg c29] at H
    have c29b0 : decide (x22_1 < (l0_2.length : Int)) = false := decide_eq_false c29
    clear c29
    simp only [Option.some.injEq, Prod.mk.injEq] at H
    obtain ⟨rfl, rfl, rfl, rfl⟩ := H
    have hnb39 := NB178_172.out
    have hnc39 := NB172_178.out
    have hnb40 := NB178_173.out
    have hnc40 := NB173_178.out
    have hcz41_0 : wr.cell? ⟨gb178, 0, none⟩ = some (.int .i64 a0_0) := (blk_cell BK178.out 0).trans rfl
    have hcz41_1 : wr.cell? ⟨gb178, 1, none⟩ = some (.int .i64 a0_1) := (blk_cell BK178.out 1).trans rfl
    have hcz41_2 : wr.cell? ⟨gb178, 2, none⟩ = some (u179002) := (blk_cell BK178.out 2).trans rfl
    have hfz41_0 := blk_frozen BK178.out 0
    have hfz41_1 := blk_frozen BK178.out 1
    have hfz41_2 := blk_frozen BK178.out 2
    have hnb42 := NB173_172.out
    have hnc42 := NB172_173.out
    have hcz43_0 : wr.cell? ⟨gb173, 0, none⟩ = some (.int .i64 0) := (blk_cell BK173.out 0).trans rfl
    have hcz43_1 : wr.cell? ⟨gb173, 1, none⟩ = some (.int .i64 0) := (blk_cell BK173.out 1).trans rfl
    have hcz43_2 : wr.cell? ⟨gb173, 2, none⟩ = some (.slice none 0 0) := (blk_cell BK173.out 2).trans rfl
    have hfz43_0 := blk_frozen BK173.out 0
    have hfz43_1 := blk_frozen BK173.out 1
    have hfz43_2 := blk_frozen BK173.out 2
    obtain ⟨Ao44, co44, eo44⟩ := Kd.R_slice HO_179002.out
    subst eo44
    go_wp2
    refine bodyPost_ret (results_ct rfl _ _ gb173 51 #[.int .i64 a0_0, .int .i64 a0_1, .slice Ao44 x179002_1.length co44] (0, 0) _ rfl (by (with_reducible repeat (first | refine k_n ?_ _ | refine k_d ?_ | refine k_a ?_ _)); refine blk_put (cs := #[.int .i64 a0_0, .int .i64 a0_1, .slice none 0 0]) ?_ 2 _ rfl; (with_reducible repeat (first | refine k_n ?_ _ | refine k_d ?_ | refine k_a ?_ _)); refine blk_put (cs := #[.int .i64 a0_0, .int .i64 0, .slice none 0 0]) ?_ 1 _ rfl; (with_reducible repeat (first | refine k_n ?_ _ | refine k_d ?_ | refine k_a ?_ _)); refine blk_put (cs := #[.int .i64 0, .int .i64 0, .slice none 0 0]) ?_ 0 _ rfl; (with_reducible repeat (first | refine k_n ?_ _ | refine k_d ?_ | refine k_a ?_ _)); exact BK173.out) Try.underlying51 rfl (by kernel_rfl)) rfl ?_
    exact ⟨_, by first | rfl | (simp [errW_none, errW_some] <;> rfl) | (simp [*, errW_none, errW_some] <;> rfl), by (with_reducible repeat (first | apply Kd.R_alloc | apply Kd.R_drewN | apply Kd.R_drew)); exact Kd.R_mono (Kd.R_far (p := ⟨gb173, 2, none⟩) (Kd.R_far (p := ⟨gb173, 1, none⟩) (Kd.R_far (p := ⟨gb173, 0, none⟩) (Kd.R_types HO_179002.out BK173.out (by decide)) (fun _ hk => hk.2) (.int .i64 a0_0)) (fun _ hk => hk.2) (.int .i64 a0_1)) (fun _ hk => hk.2) (.slice Ao44 x179002_1.length co44)) (fun _ hk => trivial), by repeat (first | (with_reducible first | exact HB.out | apply b_a | apply b_n | apply b_d | refine b_s ?_ GE172.out | refine b_s ?_ GE173.out | refine b_s ?_ GE178.out) | exact HB.out)⟩
   rw [if_pos c29] at H
   have c29b0 : decide (x22_1 < (l0_2.length : Int)) = true := decide_eq_true c29
   clear c29
   by_cases c30 : 0 ≤ x22_1
   rotate_left
   ·
    rw [if_neg c30] at H
    exact absurd H (by simp)
   rw [if_pos c30] at H
   have c30b0 : decide (0 ≤ x22_1) = true := decide_eq_true c30
   clear c30
   by_cases c31 : x22_1 < (l0_2.length : Int)
   rotate_left
   ·
    rw [if_neg c31] at H
    exact absurd H (by simp)
   rw [if_pos c31] at H
   have c31b0 : decide (x22_1 < (l0_2.length : Int)) = true := decide_eq_true c31
   clear c31
   by_cases c32 : x22_1 < (x179002_1.length : Int)
   rotate_left
   ·
    rw [if_neg c32] at H
    exact absurd H (by simp)
   rw [if_pos c32] at H
   have c32b0 : decide (x22_1 < (x179002_1.length : Int)) = true := decide_eq_true c32
   clear c32
   obtain ⟨y180, hy180⟩ : ∃ y_ : List Int, y_ = (x179002_1.set (x22_1 : Int).toNat (wrap32 (rd l0_2 x22_1))) := ⟨_, rfl⟩
   replace H : (matmul_Wide.l0 k1 l0_2 (l0_2.length : Int) (wrap64 (x22_1 + 1)) a0_0 a0_1 y180) = some (r1, r2, r3, r4) := by first | (rw [hy180]; with_reducible exact H) | (have H2_ := (Option.bind_some _ _).symm.trans H; rw [hy180]; with_reducible exact H2_) | (have H2_ := (Option.bind_some _ _).symm.trans H; with_reducible exact H2_) | with_reducible exact H | (rw [hy180]; exact H) | exact H
   have Ny180 := Aside0.mk hy180
   clear hy180
   have H' := Aside0.mk H
   clear H
   have p179 : 0 ≤ (x22_1 : Int) := of_decide_eq_true (by first | (with_reducible assumption) | assumption)
   have q179 : x22_1 < (l0_2.length : Int) := of_decide_eq_true (by first | (with_reducible assumption) | assumption)
   obtain ⟨ad179, e179, hx179_0⟩ := Kd.at_int HR0_2.out x22_1 p179 q179
   cases e179
   replace hx179_0 := (HB.out.cell (World.block_lt_of_cell? w _ hx179_0)).trans hx179_0
   replace p179 := eq_true p179
   replace q179 := eq_true q179
   have hnb34 := NB178_172.out
   have hnc34 := NB172_178.out
   have hnb35 := NB178_173.out
   have hnc35 := NB173_178.out
   have hcz36_0 : wr.cell? ⟨gb178, 0, none⟩ = some (.int .i64 a0_0) := (blk_cell BK178.out 0).trans rfl
   have hcz36_1 : wr.cell? ⟨gb178, 1, none⟩ = some (.int .i64 a0_1) := (blk_cell BK178.out 1).trans rfl
   have hcz36_2 : wr.cell? ⟨gb178, 2, none⟩ = some (u179002) := (blk_cell BK178.out 2).trans rfl
   have hfz36_0 := blk_frozen BK178.out 0
   have hfz36_1 := blk_frozen BK178.out 1
   have hfz36_2 := blk_frozen BK178.out 2
   have p33 : 0 ≤ (x22_1 : Int) := of_decide_eq_true (by first | (with_reducible assumption) | assumption)
   have q33 : (x22_1 : Int) < ((x179002_1.length : Int) : Int) := of_decide_eq_true (by first | (with_reducible assumption) | assumption)
   obtain ⟨go33, co33, eo33, gb33, gl33, cl33, HG33⟩ := Kd.R_form HO_179002.out (by omega)
   (first | cases eo33 | (injection eo33 with ea_ en_ ec_; (first | subst ea_ | (injection ea_ with ea_; subst ea_)); subst ec_; clear en_))
   have GB33 := Aside0.mk gb33
   have GG33 := Aside0.mk HG33
   clear gb33 gl33 HG33
   obtain ⟨hx33_0, hf33_0⟩ := Kd.R_celln 0 HO_179002.out (x22_1 : Int) p33 q33
   replace p33 := eq_true p33
   replace q33 := eq_true q33
   have HP37 := Kd.R_putg HO_179002.out (x22_1 : Int) (wrap32 (rd l0_2 x22_1))
   go_wp2_with (first | ((with_reducible refine gate_store (t := 21) (p := 32) rfl ?_); refine store_event (t := 21) (p := 32) (v := ?vo_w38) (w1 := (wr.setCell ⟨go33, (x22_1 : Int).toNat, none⟩ (.int .i32 (wrap32 (rd l0_2 x22_1))))) ?hg ?ho ?hn ?hr ?_; (case ho => rfl); (case hg => rfl); (case hn => rfl); (case hr => first | (go_simp; done) | (go_simp; rfl)); intro w38 hw; have hg : wr.grownBy w38 (some go33) := (by rw [hw]; exact HP37.2); have hp_ : Kd.R (Kd.int .i32) 21 w38 w.heap.size (fun _ => True) (.slice (some ⟨go33, 0, none⟩) x179002_1.length co33) y180 := (by rw [hw, Ny180.out]; exact HP37.1); clear HP37; have n0_ := Aside0.mk (hp_); have n1_ := Aside0.mk (blk_grown (g := gb172) (o := .cells #[.int .i64 a0_0, .int .i64 a0_1, .slice (some ad179) l0_2.length c0_2] 30 (0, 0)) (by (with_reducible repeat (first | refine k_n ?_ _ | refine k_d ?_ | refine k_a ?_ _)); exact BK172.out) hg (Kd.R_ne HO_179002.out BK172.out (by decide))); have n2_ := Aside0.mk (blk_grown (g := gb173) (o := .cells #[.int .i64 0, .int .i64 0, .slice none 0 0] 51 (0, 0)) (by (with_reducible repeat (first | refine k_n ?_ _ | refine k_d ?_ | refine k_a ?_ _)); exact BK173.out) hg (Kd.R_ne HO_179002.out BK173.out (by decide))); have n3_ := Aside0.mk (blk_grown (g := gb178) (o := .cells #[.int .i64 a0_0, .int .i64 a0_1, .slice (some ⟨go33, 0, none⟩) x179002_1.length co33] 51 (0, 0)) (by (with_reducible repeat (first | refine k_n ?_ _ | refine k_d ?_ | refine k_a ?_ _)); exact BK178.out) hg (Kd.R_ne HO_179002.out BK178.out (by decide))); have n4_ := Aside0.mk ((by rw [hw]; exact b_s (HB.out) GB33.out : Below w.heap.size w w38)); clear HO_179002; clear BK172; clear BK173; clear BK178; clear HB; have HO_179002 := n0_; have BK172 := n1_; have BK173 := n2_; have BK178 := n3_; have HB := n4_; clear n0_ n1_ n2_ n3_ n4_; clear hg hw hp_))
   go_roundg k1
   case measure => have := HK1.out; omega
   case rel => exact ⟨(wrap64 (x22_1 + 1)), (y180), (.slice (some ⟨go33, 0, none⟩) x179002_1.length co33), (by first | rfl | (simp; done) | (simp [*]; done)), H', ⟨by have := HK1.out; omega⟩, ⟨by (with_reducible repeat (first | apply Kd.R_alloc | apply Kd.R_drewN | apply Kd.R_drew)); exact HO_179002.out⟩, ⟨by (with_reducible repeat (first | refine k_n ?_ _ | refine k_d ?_ | refine k_a ?_ _)); exact BK172.out⟩, ⟨by (with_reducible repeat (first | refine k_n ?_ _ | refine k_d ?_ | refine k_a ?_ _)); exact BK173.out⟩, ⟨by (with_reducible repeat (first | refine k_n ?_ _ | refine k_d ?_ | refine k_a ?_ _)); exact BK178.out⟩, ⟨by repeat (first | (with_reducible first | exact HB.out | apply b_a | apply b_n | apply b_d | refine b_s ?_ GE172.out | refine b_s ?_ GE173.out | refine b_s ?_ GE178.out) | exact HB.out)⟩⟩
/-! ### pelotonref03_Right: function 37 -/
def pelotonref03_Right.f (a0_0 : Int) (a0_1 : Int) (l0_2 : List Int) : Option (Bool) := if a0_0 ≥ 0 then (if a0_1 ≥ 0 then (if a0_0 ≤ 4096 then (if a0_1 ≤ 4096 then (some ((l0_2.length : Int) == (wrap64 (a0_0 * a0_1)))) else (some false)) else (some false)) else (some false)) else (some false)
set_option maxHeartbeats 60000000 in
set_option maxRecDepth 100000 in
theorem pelotonref03_Right.calls (a0_0 : Int) (a0_1 : Int) (A0_2 : Option Addr) (c0_2 : Nat) (l0_2 : List Int) (r : Bool) (w : World) (hr0_2 : Kd.C (Kd.int .i32) w A0_2 l0_2.length l0_2) (hc0_2 : l0_2.length ≤ c0_2) (h : pelotonref03_Right.f a0_0 a0_1 l0_2 = some r) :
  Calls Try.prog 37 #[.agg #[.int .i64 a0_0, .int .i64 a0_1, .slice A0_2 l0_2.length c0_2]] w fun e w' => e = .returned (.bool r) ∧ Below w.heap.size w w' := by
 have hu51 := Try.underlying51
 have HR0_2 := Aside0.mk hr0_2
 have HC0_2 := Aside0.mk hc0_2
 clear hr0_2 hc0_2
 have HB := Aside0.mk (Below.refl w.heap.size w)
 have H : (if a0_0 ≥ 0 then (if a0_1 ≥ 0 then (if a0_0 ≤ 4096 then (if a0_1 ≤ 4096 then (some ((l0_2.length : Int) == (wrap64 (a0_0 * a0_1)))) else (some false)) else (some false)) else (some false)) else (some false)) = some r := h
 clear h
 by_cases c2 : a0_0 ≥ 0
 rotate_left
 ·
  rw [if_neg c2] at H
  have c2b0 : decide (0 ≤ a0_0) = false := decide_eq_false c2
  clear c2
  obtain rfl := Option.some.inj H
  go_enter Try.func37, Try.ntmps37
  go_wp2_with (first | ((with_reducible refine gate_dst (N := 1) rfl ?_); (try (refine gate_guard (by rfl) ?_; dsimp only)); refine box_event ?hg (N := 1) ?hd (cs := #[.int .i64 a0_0, .int .i64 a0_1, .slice A0_2 l0_2.length c0_2]) (t := 51) ?hr ?_; (case hd => rfl); (case hg => rfl); (case hr => first | (go_simp; done) | (go_simp; rfl)); intro gb181 hg w14 hbox hb; have n0_ := Aside0.mk (below_step (by repeat (first | (with_reducible first | exact HB.out | apply b_a | apply b_n | apply b_d) | exact HB.out)) hb); have n1_ := Aside0.mk (hbox); have n2_ := Aside0.mk ((by rw [hg]; exact (below_size (by repeat (first | (with_reducible first | exact HB.out | apply b_a | apply b_n | apply b_d) | exact HB.out))) : w.heap.size ≤ gb181)); have n3_ := Aside0.mk ((by rw [hg]; exact (below_size (by repeat (first | (with_reducible first | exact HB.out | apply b_a | apply b_n | apply b_d) | exact HB.out))) : w.heap.size ≤ gb181)); clear HB; have HB := n0_; have BK181 := n1_; have GW181 := n2_; have GE181 := n3_; clear n0_ n1_ n2_ n3_; clear hb hbox hg; have hcz15_0 : w14.cell? ⟨gb181, 0, none⟩ = some (.int .i64 a0_0) := (blk_cell BK181.out 0).trans rfl; have hcz15_1 : w14.cell? ⟨gb181, 1, none⟩ = some (.int .i64 a0_1) := (blk_cell BK181.out 1).trans rfl; have hcz15_2 : w14.cell? ⟨gb181, 2, none⟩ = some (.slice A0_2 l0_2.length c0_2) := (blk_cell BK181.out 2).trans rfl; have hfz15_0 := blk_frozen BK181.out 0; have hfz15_1 := blk_frozen BK181.out 1; have hfz15_2 := blk_frozen BK181.out 2))
  go_ret
  exact ⟨by first | rfl | (simp [errW_none, errW_some] <;> rfl) | (simp [*, errW_none, errW_some] <;> rfl), by repeat (first | (with_reducible first | exact HB.out | apply b_a | apply b_n | apply b_d | refine b_s ?_ GE181.out) | exact HB.out)⟩

 rw [if_pos c2] at H
 have c2b0 : decide (0 ≤ a0_0) = true := decide_eq_true c2
 clear c2
 by_cases c3 : a0_1 ≥ 0
 rotate_left
 ·
  rw [if_neg c3] at H
  have c3b0 : decide (0 ≤ a0_1) = false := decide_eq_false c3
  clear c3
  obtain rfl := Option.some.inj H
  go_enter Try.func37, Try.ntmps37
  go_wp2_with (first | ((with_reducible refine gate_dst (N := 1) rfl ?_); (try (refine gate_guard (by rfl) ?_; dsimp only)); refine box_event ?hg (N := 1) ?hd (cs := #[.int .i64 a0_0, .int .i64 a0_1, .slice A0_2 l0_2.length c0_2]) (t := 51) ?hr ?_; (case hd => rfl); (case hg => rfl); (case hr => first | (go_simp; done) | (go_simp; rfl)); intro gb181 hg w12 hbox hb; have n0_ := Aside0.mk (below_step (by repeat (first | (with_reducible first | exact HB.out | apply b_a | apply b_n | apply b_d) | exact HB.out)) hb); have n1_ := Aside0.mk (hbox); have n2_ := Aside0.mk ((by rw [hg]; exact (below_size (by repeat (first | (with_reducible first | exact HB.out | apply b_a | apply b_n | apply b_d) | exact HB.out))) : w.heap.size ≤ gb181)); have n3_ := Aside0.mk ((by rw [hg]; exact (below_size (by repeat (first | (with_reducible first | exact HB.out | apply b_a | apply b_n | apply b_d) | exact HB.out))) : w.heap.size ≤ gb181)); clear HB; have HB := n0_; have BK181 := n1_; have GW181 := n2_; have GE181 := n3_; clear n0_ n1_ n2_ n3_; clear hb hbox hg; have hcz13_0 : w12.cell? ⟨gb181, 0, none⟩ = some (.int .i64 a0_0) := (blk_cell BK181.out 0).trans rfl; have hcz13_1 : w12.cell? ⟨gb181, 1, none⟩ = some (.int .i64 a0_1) := (blk_cell BK181.out 1).trans rfl; have hcz13_2 : w12.cell? ⟨gb181, 2, none⟩ = some (.slice A0_2 l0_2.length c0_2) := (blk_cell BK181.out 2).trans rfl; have hfz13_0 := blk_frozen BK181.out 0; have hfz13_1 := blk_frozen BK181.out 1; have hfz13_2 := blk_frozen BK181.out 2))
  go_ret
  exact ⟨by first | rfl | (simp [errW_none, errW_some] <;> rfl) | (simp [*, errW_none, errW_some] <;> rfl), by repeat (first | (with_reducible first | exact HB.out | apply b_a | apply b_n | apply b_d | refine b_s ?_ GE181.out) | exact HB.out)⟩
 rw [if_pos c3] at H
 have c3b0 : decide (0 ≤ a0_1) = true := decide_eq_true c3
 clear c3
 by_cases c4 : a0_0 ≤ 4096
 rotate_left
 ·
  rw [if_neg c4] at H
  have c4b0 : decide (a0_0 ≤ 4096) = false := decide_eq_false c4
  clear c4
  obtain rfl := Option.some.inj H
  go_enter Try.func37, Try.ntmps37
  go_wp2_with (first | ((with_reducible refine gate_dst (N := 1) rfl ?_); (try (refine gate_guard (by rfl) ?_; dsimp only)); refine box_event ?hg (N := 1) ?hd (cs := #[.int .i64 a0_0, .int .i64 a0_1, .slice A0_2 l0_2.length c0_2]) (t := 51) ?hr ?_; (case hd => rfl); (case hg => rfl); (case hr => first | (go_simp; done) | (go_simp; rfl)); intro gb181 hg w10 hbox hb; have n0_ := Aside0.mk (below_step (by repeat (first | (with_reducible first | exact HB.out | apply b_a | apply b_n | apply b_d) | exact HB.out)) hb); have n1_ := Aside0.mk (hbox); have n2_ := Aside0.mk ((by rw [hg]; exact (below_size (by repeat (first | (with_reducible first | exact HB.out | apply b_a | apply b_n | apply b_d) | exact HB.out))) : w.heap.size ≤ gb181)); have n3_ := Aside0.mk ((by rw [hg]; exact (below_size (by repeat (first | (with_reducible first | exact HB.out | apply b_a | apply b_n | apply b_d) | exact HB.out))) : w.heap.size ≤ gb181)); clear HB; have HB := n0_; have BK181 := n1_; have GW181 := n2_; have GE181 := n3_; clear n0_ n1_ n2_ n3_; clear hb hbox hg; have hcz11_0 : w10.cell? ⟨gb181, 0, none⟩ = some (.int .i64 a0_0) := (blk_cell BK181.out 0).trans rfl; have hcz11_1 : w10.cell? ⟨gb181, 1, none⟩ = some (.int .i64 a0_1) := (blk_cell BK181.out 1).trans rfl; have hcz11_2 : w10.cell? ⟨gb181, 2, none⟩ = some (.slice A0_2 l0_2.length c0_2) := (blk_cell BK181.out 2).trans rfl; have hfz11_0 := blk_frozen BK181.out 0; have hfz11_1 := blk_frozen BK181.out 1; have hfz11_2 := blk_frozen BK181.out 2))
  go_ret
  exact ⟨by first | rfl | (simp [errW_none, errW_some] <;> rfl) | (simp [*, errW_none, errW_some] <;> rfl), by repeat (first | (with_reducible first | exact HB.out | apply b_a | apply b_n | apply b_d | refine b_s ?_ GE181.out) | exact HB.out)⟩
 rw [if_pos c4] at H
 have c4b0 : decide (a0_0 ≤ 4096) = true := decide_eq_true c4
 clear c4
 by_cases c5 : a0_1 ≤ 4096
 ·
  rw [if_pos c5] at H
  have c5b0 : decide (a0_1 ≤ 4096) = true := decide_eq_true c5
  clear c5
  obtain rfl := Option.some.inj H
  go_enter Try.func37, Try.ntmps37
  go_wp2_with (first | ((with_reducible refine gate_dst (N := 1) rfl ?_); (try (refine gate_guard (by rfl) ?_; dsimp only)); refine box_event ?hg (N := 1) ?hd (cs := #[.int .i64 a0_0, .int .i64 a0_1, .slice A0_2 l0_2.length c0_2]) (t := 51) ?hr ?_; (case hd => rfl); (case hg => rfl); (case hr => first | (go_simp; done) | (go_simp; rfl)); intro gb181 hg w6 hbox hb; have n0_ := Aside0.mk (below_step (by repeat (first | (with_reducible first | exact HB.out | apply b_a | apply b_n | apply b_d) | exact HB.out)) hb); have n1_ := Aside0.mk (hbox); have n2_ := Aside0.mk ((by rw [hg]; exact (below_size (by repeat (first | (with_reducible first | exact HB.out | apply b_a | apply b_n | apply b_d) | exact HB.out))) : w.heap.size ≤ gb181)); have n3_ := Aside0.mk ((by rw [hg]; exact (below_size (by repeat (first | (with_reducible first | exact HB.out | apply b_a | apply b_n | apply b_d) | exact HB.out))) : w.heap.size ≤ gb181)); clear HB; have HB := n0_; have BK181 := n1_; have GW181 := n2_; have GE181 := n3_; clear n0_ n1_ n2_ n3_; clear hb hbox hg; have hcz7_0 : w6.cell? ⟨gb181, 0, none⟩ = some (.int .i64 a0_0) := (blk_cell BK181.out 0).trans rfl; have hcz7_1 : w6.cell? ⟨gb181, 1, none⟩ = some (.int .i64 a0_1) := (blk_cell BK181.out 1).trans rfl; have hcz7_2 : w6.cell? ⟨gb181, 2, none⟩ = some (.slice A0_2 l0_2.length c0_2) := (blk_cell BK181.out 2).trans rfl; have hfz7_0 := blk_frozen BK181.out 0; have hfz7_1 := blk_frozen BK181.out 1; have hfz7_2 := blk_frozen BK181.out 2))
  go_ret
  exact ⟨by first | rfl | (simp [errW_none, errW_some] <;> rfl) | (simp [*, errW_none, errW_some] <;> rfl), by repeat (first | (with_reducible first | exact HB.out | apply b_a | apply b_n | apply b_d | refine b_s ?_ GE181.out) | exact HB.out)⟩
 rw [if_neg c5] at H
 have c5b0 : decide (a0_1 ≤ 4096) = false := decide_eq_false c5
 clear c5
 obtain rfl := Option.some.inj H
 go_enter Try.func37, Try.ntmps37
 go_wp2_with (first | ((with_reducible refine gate_dst (N := 1) rfl ?_); (try (refine gate_guard (by rfl) ?_; dsimp only)); refine box_event ?hg (N := 1) ?hd (cs := #[.int .i64 a0_0, .int .i64 a0_1, .slice A0_2 l0_2.length c0_2]) (t := 51) ?hr ?_; (case hd => rfl); (case hg => rfl); (case hr => first | (go_simp; done) | (go_simp; rfl)); intro gb181 hg w8 hbox hb; have n0_ := Aside0.mk (below_step (by repeat (first | (with_reducible first | exact HB.out | apply b_a | apply b_n | apply b_d) | exact HB.out)) hb); have n1_ := Aside0.mk (hbox); have n2_ := Aside0.mk ((by rw [hg]; exact (below_size (by repeat (first | (with_reducible first | exact HB.out | apply b_a | apply b_n | apply b_d) | exact HB.out))) : w.heap.size ≤ gb181)); have n3_ := Aside0.mk ((by rw [hg]; exact (below_size (by repeat (first | (with_reducible first | exact HB.out | apply b_a | apply b_n | apply b_d) | exact HB.out))) : w.heap.size ≤ gb181)); clear HB; have HB := n0_; have BK181 := n1_; have GW181 := n2_; have GE181 := n3_; clear n0_ n1_ n2_ n3_; clear hb hbox hg; have hcz9_0 : w8.cell? ⟨gb181, 0, none⟩ = some (.int .i64 a0_0) := (blk_cell BK181.out 0).trans rfl; have hcz9_1 : w8.cell? ⟨gb181, 1, none⟩ = some (.int .i64 a0_1) := (blk_cell BK181.out 1).trans rfl; have hcz9_2 : w8.cell? ⟨gb181, 2, none⟩ = some (.slice A0_2 l0_2.length c0_2) := (blk_cell BK181.out 2).trans rfl; have hfz9_0 := blk_frozen BK181.out 0; have hfz9_1 := blk_frozen BK181.out 1; have hfz9_2 := blk_frozen BK181.out 2))
 go_ret
 exact ⟨by first | rfl | (simp [errW_none, errW_some] <;> rfl) | (simp [*, errW_none, errW_some] <;> rfl), by repeat (first | (with_reducible first | exact HB.out | apply b_a | apply b_n | apply b_d | refine b_s ?_ GE181.out) | exact HB.out)⟩
/-! ### pelotonref03_Fit: function 24 -/
def pelotonref03_Fit.f (a0_0 : Int) (a0_1 : Int) (l0_2 : List Int) : Option (Bool) := (pelotonref03_Right.f a0_0 a0_1 l0_2).bind fun t183 => (if t183 = true then (some (decide ((l0_2.length : Int) ≤ 1048576))) else (some false))
set_option maxHeartbeats 60000000 in
set_option maxRecDepth 100000 in
theorem pelotonref03_Fit.calls (a0_0 : Int) (a0_1 : Int) (A0_2 : Option Addr) (c0_2 : Nat) (l0_2 : List Int) (r : Bool) (w : World) (hr0_2 : Kd.C (Kd.int .i32) w A0_2 l0_2.length l0_2) (hc0_2 : l0_2.length ≤ c0_2) (h : pelotonref03_Fit.f a0_0 a0_1 l0_2 = some r) :
  Calls Try.prog 24 #[.agg #[.int .i64 a0_0, .int .i64 a0_1, .slice A0_2 l0_2.length c0_2]] w fun e w' => e = .returned (.bool r) ∧ Below w.heap.size w w' := by
 have hu51 := Try.underlying51
 have HR0_2 := Aside0.mk hr0_2
 have HC0_2 := Aside0.mk hc0_2
 clear hr0_2 hc0_2
 have HB := Aside0.mk (Below.refl w.heap.size w)
 have H : ((pelotonref03_Right.f a0_0 a0_1 l0_2).bind fun t183 => (if t183 = true then (some (decide ((l0_2.length : Int) ≤ 1048576))) else (some false))) = some r := h
 clear h
 replace H := Option.bind_eq_some_iff.mp H
 obtain ⟨t183, A20, H⟩ := H
 replace H : (if t183 = true then (some (decide ((l0_2.length : Int) ≤ 1048576))) else (some false)) = some r := H
 have A2 := Aside0.mk A20
 clear A20
 by_cases c3 : t183 = true
 rotate_left
 ·
  replace c3 := Bool.eq_false_iff.mpr c3
  subst c3
  have H1 : (some false) = some r := by rw [if_neg (show ¬ (false = true) by decide)] at H; exact H
  clear H
  have H := H1
  clear H1
  obtain rfl := Option.some.inj H
  go_enter Try.func24, Try.ntmps24
  go_wp2_with (first | ((with_reducible refine gate_dst (N := 1) rfl ?_); (try (refine gate_guard (by rfl) ?_; dsimp only)); refine box_event ?hg (N := 1) ?hd (cs := #[.int .i64 a0_0, .int .i64 a0_1, .slice A0_2 l0_2.length c0_2]) (t := 51) ?hr ?_; (case hd => rfl); (case hg => rfl); (case hr => first | (go_simp; done) | (go_simp; rfl)); intro gb182 hg w8 hbox hb; have n0_ := Aside0.mk (below_step (by repeat (first | (with_reducible first | exact HB.out | apply b_a | apply b_n | apply b_d) | exact HB.out)) hb); have n1_ := Aside0.mk (hbox); have n2_ := Aside0.mk ((by rw [hg]; exact (below_size (by repeat (first | (with_reducible first | exact HB.out | apply b_a | apply b_n | apply b_d) | exact HB.out))) : w.heap.size ≤ gb182)); have n3_ := Aside0.mk ((by rw [hg]; exact (below_size (by repeat (first | (with_reducible first | exact HB.out | apply b_a | apply b_n | apply b_d) | exact HB.out))) : w.heap.size ≤ gb182)); clear HB; have HB := n0_; have BK182 := n1_; have GW182 := n2_; have GE182 := n3_; clear n0_ n1_ n2_ n3_; clear hb hbox hg; have hcz9_0 : w8.cell? ⟨gb182, 0, none⟩ = some (.int .i64 a0_0) := (blk_cell BK182.out 0).trans rfl; have hcz9_1 : w8.cell? ⟨gb182, 1, none⟩ = some (.int .i64 a0_1) := (blk_cell BK182.out 1).trans rfl; have hcz9_2 : w8.cell? ⟨gb182, 2, none⟩ = some (.slice A0_2 l0_2.length c0_2) := (blk_cell BK182.out 2).trans rfl; have hfz9_0 := blk_frozen BK182.out 0; have hfz9_1 := blk_frozen BK182.out 1; have hfz9_2 := blk_frozen BK182.out 2) | ((with_reducible refine gate_callee (f := 37) rfl ?_); refine goesL_ (some 4) rfl rfl Try.func37 (by kernel_rfl) rfl #[.agg #[.int .i64 a0_0, .int .i64 a0_1, .slice A0_2 l0_2.length c0_2]] rfl (by (try simp only [l_4, l_5, l_6]); first | done | rfl | (simp only [l_7, l_8]; rfl)) ?_; (with_reducible refine (pelotonref03_Right.calls a0_0 a0_1 _ _ l0_2 false _ ?side1 ?side2 A2.out).mono ?_); (case side1 => repeat (first | exact (Kd.C_below HR0_2.out HB.out) | (with_reducible refine Kd.C_alloc ?_ _) | (with_reducible refine Kd.C_drewN ?_ _) | (with_reducible refine Kd.C_drew ?_))); (case side2 => exact HC0_2.out); rintro e w10 ⟨rfl, hb⟩; refine ⟨_, rfl, ?_⟩; have n0_ := Aside0.mk (blk_below (g := gb182) (o := .cells #[.int .i64 a0_0, .int .i64 a0_1, .slice A0_2 l0_2.length c0_2] 51 (0, 0)) (by (with_reducible repeat (first | refine k_n ?_ _ | refine k_d ?_ | refine k_a ?_ _)); exact BK182.out) hb); have n1_ := Aside0.mk (below_step (by repeat (first | (with_reducible first | exact HB.out | apply b_a | apply b_n | apply b_d | refine b_s ?_ GE182.out) | exact HB.out)) hb); clear BK182; clear HB; have BK182 := n0_; have HB := n1_; clear n0_ n1_; (try clear hb); (try clear hb2); (try clear hk); (try clear hi)))
  go_ret
  exact ⟨by first | rfl | (simp [errW_none, errW_some] <;> rfl) | (simp [*, errW_none, errW_some] <;> rfl), by repeat (first | (with_reducible first | exact HB.out | apply b_a | apply b_n | apply b_d | refine b_s ?_ GE182.out) | exact HB.out)⟩

 subst c3
 have H1 : (some (decide ((l0_2.length : Int) ≤ 1048576))) = some r := by rw [if_pos rfl] at H; exact H
 clear H
 have H := H1
 clear H1
 obtain rfl := Option.some.inj H
 go_enter Try.func24, Try.ntmps24
 go_wp2_with (first | ((with_reducible refine gate_dst (N := 1) rfl ?_); (try (refine gate_guard (by rfl) ?_; dsimp only)); refine box_event ?hg (N := 1) ?hd (cs := #[.int .i64 a0_0, .int .i64 a0_1, .slice A0_2 l0_2.length c0_2]) (t := 51) ?hr ?_; (case hd => rfl); (case hg => rfl); (case hr => first | (go_simp; done) | (go_simp; rfl)); intro gb182 hg w4 hbox hb; have n0_ := Aside0.mk (below_step (by repeat (first | (with_reducible first | exact HB.out | apply b_a | apply b_n | apply b_d) | exact HB.out)) hb); have n1_ := Aside0.mk (hbox); have n2_ := Aside0.mk ((by rw [hg]; exact (below_size (by repeat (first | (with_reducible first | exact HB.out | apply b_a | apply b_n | apply b_d) | exact HB.out))) : w.heap.size ≤ gb182)); have n3_ := Aside0.mk ((by rw [hg]; exact (below_size (by repeat (first | (with_reducible first | exact HB.out | apply b_a | apply b_n | apply b_d) | exact HB.out))) : w.heap.size ≤ gb182)); clear HB; have HB := n0_; have BK182 := n1_; have GW182 := n2_; have GE182 := n3_; clear n0_ n1_ n2_ n3_; clear hb hbox hg; have hcz5_0 : w4.cell? ⟨gb182, 0, none⟩ = some (.int .i64 a0_0) := (blk_cell BK182.out 0).trans rfl; have hcz5_1 : w4.cell? ⟨gb182, 1, none⟩ = some (.int .i64 a0_1) := (blk_cell BK182.out 1).trans rfl; have hcz5_2 : w4.cell? ⟨gb182, 2, none⟩ = some (.slice A0_2 l0_2.length c0_2) := (blk_cell BK182.out 2).trans rfl; have hfz5_0 := blk_frozen BK182.out 0; have hfz5_1 := blk_frozen BK182.out 1; have hfz5_2 := blk_frozen BK182.out 2) | ((with_reducible refine gate_callee (f := 37) rfl ?_); refine goesL_ (some 4) rfl rfl Try.func37 (by kernel_rfl) rfl #[.agg #[.int .i64 a0_0, .int .i64 a0_1, .slice A0_2 l0_2.length c0_2]] rfl (by (try simp only [l_4, l_5, l_6]); first | done | rfl | (simp only [l_7, l_8]; rfl)) ?_; (with_reducible refine (pelotonref03_Right.calls a0_0 a0_1 _ _ l0_2 true _ ?side1 ?side2 A2.out).mono ?_); (case side1 => repeat (first | exact (Kd.C_below HR0_2.out HB.out) | (with_reducible refine Kd.C_alloc ?_ _) | (with_reducible refine Kd.C_drewN ?_ _) | (with_reducible refine Kd.C_drew ?_))); (case side2 => exact HC0_2.out); rintro e w6 ⟨rfl, hb⟩; refine ⟨_, rfl, ?_⟩; have n0_ := Aside0.mk (blk_below (g := gb182) (o := .cells #[.int .i64 a0_0, .int .i64 a0_1, .slice A0_2 l0_2.length c0_2] 51 (0, 0)) (by (with_reducible repeat (first | refine k_n ?_ _ | refine k_d ?_ | refine k_a ?_ _)); exact BK182.out) hb); have n1_ := Aside0.mk (below_step (by repeat (first | (with_reducible first | exact HB.out | apply b_a | apply b_n | apply b_d | refine b_s ?_ GE182.out) | exact HB.out)) hb); clear BK182; clear HB; have BK182 := n0_; have HB := n1_; clear n0_ n1_; (try clear hb); (try clear hb2); (try clear hk); (try clear hi); have hcz7_0 : w6.cell? ⟨gb182, 0, none⟩ = some (.int .i64 a0_0) := (blk_cell BK182.out 0).trans rfl; have hcz7_1 : w6.cell? ⟨gb182, 1, none⟩ = some (.int .i64 a0_1) := (blk_cell BK182.out 1).trans rfl; have hcz7_2 : w6.cell? ⟨gb182, 2, none⟩ = some (.slice A0_2 l0_2.length c0_2) := (blk_cell BK182.out 2).trans rfl; have hfz7_0 := blk_frozen BK182.out 0; have hfz7_1 := blk_frozen BK182.out 1; have hfz7_2 := blk_frozen BK182.out 2))
 go_ret
 exact ⟨by first | rfl | (simp [errW_none, errW_some] <;> rfl) | (simp [*, errW_none, errW_some] <;> rfl), by repeat (first | (with_reducible first | exact HB.out | apply b_a | apply b_n | apply b_d | refine b_s ?_ GE182.out) | exact HB.out)⟩
/-! ### pelotonref01_Mod: function 42 -/
def pelotonref01_Mod.f (a0 : Int) : Option (Int) := if (Int.tmod a0 4294967296) < 0 then (if (wrap64 ((Int.tmod a0 4294967296) + 4294967296)) ≥ 2147483648 then (some (wrap32 (wrap64 ((wrap64 ((Int.tmod a0 4294967296) + 4294967296)) - 4294967296)))) else (some (wrap32 (wrap64 ((Int.tmod a0 4294967296) + 4294967296))))) else (if (Int.tmod a0 4294967296) ≥ 2147483648 then (some (wrap32 (wrap64 ((Int.tmod a0 4294967296) - 4294967296)))) else (some (wrap32 (Int.tmod a0 4294967296))))
set_option maxHeartbeats 60000000 in
set_option maxRecDepth 100000 in
theorem pelotonref01_Mod.calls (a0 : Int) (r : Int) (w : World) (h : pelotonref01_Mod.f a0 = some r) :
  Calls Try.prog 42 #[.int .i64 a0] w fun e w' => e = .returned (.int .i32 r) ∧ Drawn0 w w' := by
 have H : (if (Int.tmod a0 4294967296) < 0 then (if (wrap64 ((Int.tmod a0 4294967296) + 4294967296)) ≥ 2147483648 then (some (wrap32 (wrap64 ((wrap64 ((Int.tmod a0 4294967296) + 4294967296)) - 4294967296)))) else (some (wrap32 (wrap64 ((Int.tmod a0 4294967296) + 4294967296))))) else (if (Int.tmod a0 4294967296) ≥ 2147483648 then (some (wrap32 (wrap64 ((Int.tmod a0 4294967296) - 4294967296)))) else (some (wrap32 (Int.tmod a0 4294967296))))) = some r := h
 clear h
 by_cases c2 : (Int.tmod a0 4294967296) < 0
 rotate_left
 ·
  rw [if_neg c2] at H
  have c2b0 : decide ((Int.tmod a0 4294967296) < 0) = false := decide_eq_false c2
  clear c2
  by_cases c4 : (Int.tmod a0 4294967296) ≥ 2147483648
  ·
   rw [if_pos c4] at H
   have c4b0 : decide (2147483648 ≤ (Int.tmod a0 4294967296)) = true := decide_eq_true c4
   clear c4
   obtain rfl := Option.some.inj H
   go_enter Try.func42, Try.ntmps42
   go_wp2
   go_ret
   exact ⟨by first | rfl | (simp; done) | (simp [*]; done), by repeat (first | exact Drawn0.refl _ | apply Drawn0.step)⟩
  rw [if_neg c4] at H
  have c4b0 : decide (2147483648 ≤ (Int.tmod a0 4294967296)) = false := decide_eq_false c4
  clear c4
  obtain rfl := Option.some.inj H
  go_enter Try.func42, Try.ntmps42
  go_wp2
  go_ret
  exact ⟨by first | rfl | (simp; done) | (simp [*]; done), by repeat (first | exact Drawn0.refl _ | apply Drawn0.step)⟩

 rw [if_pos c2] at H
 have c2b0 : decide ((Int.tmod a0 4294967296) < 0) = true := decide_eq_true c2
 clear c2
 by_cases c3 : (wrap64 ((Int.tmod a0 4294967296) + 4294967296)) ≥ 2147483648
 ·
  rw [if_pos c3] at H
  have c3b0 : decide (2147483648 ≤ (wrap64 ((Int.tmod a0 4294967296) + 4294967296))) = true := decide_eq_true c3
  clear c3
  obtain rfl := Option.some.inj H
  go_enter Try.func42, Try.ntmps42
  go_wp2
  go_ret
  exact ⟨by first | rfl | (simp; done) | (simp [*]; done), by repeat (first | exact Drawn0.refl _ | apply Drawn0.step)⟩
 rw [if_neg c3] at H
 have c3b0 : decide (2147483648 ≤ (wrap64 ((Int.tmod a0 4294967296) + 4294967296))) = false := decide_eq_false c3
 clear c3
 obtain rfl := Option.some.inj H
 go_enter Try.func42, Try.ntmps42
 go_wp2
 go_ret
 exact ⟨by first | rfl | (simp; done) | (simp [*]; done), by repeat (first | exact Drawn0.refl _ | apply Drawn0.step)⟩
/-! ### pelotonref01_Wrap: function 31 -/
def pelotonref01_Wrap.l0 : Nat → List Int → Int → Int → Option (Int)
 | 0, _, _, _ => none
 | k + 1, x0, x3, x4 => if x4 < (x0.length : Int) then (if 0 ≤ x4 then ((pelotonref01_Mod.f (rd x0 x4)).bind fun t185 => ((pelotonref01_Mod.f (wrap64 (x3 + (wrap64 (t185))))).bind fun t186 => (pelotonref01_Wrap.l0 k x0 (wrap64 (t186)) (wrap64 (x4 + 1))))) else (none)) else (some (wrap32 (x3)))
def pelotonref01_Wrap.f (k : Nat) (l0 : List Int) : Option (Int) := pelotonref01_Wrap.l0 k l0 0 0
theorem pelotonref01_Wrap.mono_l : ∀ k, (∀ y0 y1 y2, LeO (pelotonref01_Wrap.l0 k y0 y1 y2) (pelotonref01_Wrap.l0 (k + 1) y0 y1 y2))
 | 0 => fun _ _ _ r h => by simp [pelotonref01_Wrap.l0] at h
 | k + 1 => by
  have ih0 := pelotonref01_Wrap.mono_l k
  ·
   intro y0 y1 y2
   unfold pelotonref01_Wrap.l0
   repeat' first
   | (with_reducible exact ih0 _ _ _)
   | (with_reducible exact LeO.refl _)
   | (with_reducible exact LeO.none _)
   | (with_reducible refine LeO.ite ?_ ?_)
   | (with_reducible refine LeO.bind ?_ (fun _ => ?_))
   | exact ih0 _ _ _
   | exact LeO.none _
   | refine LeO.ite ?_ ?_
   | refine LeO.bind ?_ (fun _ => ?_)
theorem pelotonref01_Wrap.mono : ∀ a0 k, LeO (pelotonref01_Wrap.f k a0) (pelotonref01_Wrap.f (k + 1) a0) := by
 intro a0 k
 have ih0 := pelotonref01_Wrap.mono_l k
 unfold pelotonref01_Wrap.f
 repeat' first
   | (with_reducible exact ih0 _ _ _)
   | (with_reducible exact LeO.refl _)
   | (with_reducible exact LeO.none _)
   | (with_reducible refine LeO.ite ?_ ?_)
   | (with_reducible refine LeO.bind ?_ (fun _ => ?_))
   | exact ih0 _ _ _
   | exact LeO.none _
   | refine LeO.ite ?_ ?_
   | refine LeO.bind ?_ (fun _ => ?_)
set_option maxHeartbeats 60000000 in
set_option maxRecDepth 100000 in
theorem pelotonref01_Wrap.calls (k : Nat) (A0 : Option Addr) (c0 : Nat) (l0 : List Int) (r : Int) (w : World) (hr0 : Kd.C (Kd.int .i64) w A0 l0.length l0) (hc0 : l0.length ≤ c0) (h : pelotonref01_Wrap.f k l0 = some r) :
  Calls Try.prog 31 #[.slice A0 l0.length c0] w fun e w' => e = .returned (.int .i32 r) ∧ Drawn0 w w' := by
 have HR0 := Aside0.mk hr0
 have HC0 := Aside0.mk hc0
 clear hr0 hc0
 have H : (pelotonref01_Wrap.l0 k l0 0 0) = some r := h
 clear h
 have H' := Aside0.mk H
 clear H
 go_enter Try.func31, Try.ntmps31
 go_wp2
 go_loopg [3, 4] k (fun kq v3 v4 w' => ∃ (x3_1 : Int) (x4_1 : Int), v3 = .int .i64 x3_1 ∧ v4 = .int .i64 x4_1 ∧ Aside0 (pelotonref01_Wrap.l0 kq l0 x3_1 x4_1 = some r) ∧ Aside0 (kq ≤ k) ∧ Drawn0 w w')
 case atStart => exact ⟨(0), (0), (by first | rfl | (simp; done) | (simp [*]; done)), (by first | rfl | (simp; done) | (simp [*]; done)), H', ⟨Nat.le_refl _⟩, by repeat (first | exact Drawn0.refl _ | apply Drawn0.step)⟩
 case round =>
  clear H'
  obtain ⟨x3_1, x4_1, rfl, rfl, HA, HK1, ⟨m1, rfl⟩⟩ := hrel
  cases gk with
  | zero => exact absurd HA.out (by simp [pelotonref01_Wrap.l0])
  | succ k1 =>
   have H := HA.out
   clear HA
   simp only [pelotonref01_Wrap.l0] at H
   by_cases c2 : x4_1 < (l0.length : Int)
   rotate_left
   ·
    rw [if_neg c2] at H
    have c2b0 : decide (x4_1 < (l0.length : Int)) = false := decide_eq_false c2
    clear c2
    obtain rfl := Option.some.inj H
    go_wp2
    go_ret
    exact ⟨by first | rfl | (simp; done) | (simp [*]; done), by repeat (first | exact Drawn0.refl _ | apply Drawn0.step)⟩

   rw [if_pos c2] at H
   have c2b0 : decide (x4_1 < (l0.length : Int)) = true := decide_eq_true c2
   clear c2
   by_cases c3 : 0 ≤ x4_1
   rotate_left
   ·
    rw [if_neg c3] at H
    exact absurd H (by simp)
   rw [if_pos c3] at H
   have c3b0 : decide (0 ≤ x4_1) = true := decide_eq_true c3
   clear c3
   replace H := Option.bind_eq_some_iff.mp H
   obtain ⟨t185, A40, H⟩ := H
   replace H : ((pelotonref01_Mod.f (wrap64 (x3_1 + (wrap64 (t185))))).bind fun t186 => (pelotonref01_Wrap.l0 k1 l0 (wrap64 (t186)) (wrap64 (x4_1 + 1)))) = some r := H
   have A4 := Aside0.mk A40
   clear A40
   replace H := Option.bind_eq_some_iff.mp H
   obtain ⟨t186, A50, H⟩ := H
   replace H : (pelotonref01_Wrap.l0 k1 l0 (wrap64 (t186)) (wrap64 (x4_1 + 1))) = some r := H
   have A5 := Aside0.mk A50
   clear A50
   have H' := Aside0.mk H
   clear H
   have p184 : 0 ≤ (x4_1 : Int) := of_decide_eq_true (by first | (with_reducible assumption) | assumption)
   have q184 : x4_1 < (l0.length : Int) := of_decide_eq_true (by first | (with_reducible assumption) | assumption)
   obtain ⟨ad184, e184, hx184_0⟩ := Kd.at_int HR0.out x4_1 p184 q184
   cases e184
   replace p184 := eq_true p184
   replace q184 := eq_true q184
   go_wp2_with (first | ((with_reducible refine gate_callee (f := 42) rfl ?_); refine goesL_ (some 16) rfl rfl Try.func42 (by kernel_rfl) rfl #[.int .i64 (rd l0 x4_1)] rfl (by (try simp only [l_4, l_5, l_6]); first | done | rfl | (simp only [l_7, l_8]; rfl)) ?_; (with_reducible refine (pelotonref01_Mod.calls (rd l0 x4_1) t185 _ A4.out).mono ?_); rintro e w' ⟨rfl, ⟨nd, rfl⟩⟩; refine ⟨_, rfl, ?_⟩) | ((with_reducible refine gate_callee (f := 42) rfl ?_); refine goesL_ (some 19) rfl rfl Try.func42 (by kernel_rfl) rfl #[.int .i64 (wrap64 (x3_1 + (wrap64 (t185))))] rfl (by (try simp only [l_4, l_5, l_6]); first | done | rfl | (simp only [l_7, l_8]; rfl)) ?_; (with_reducible refine (pelotonref01_Mod.calls (wrap64 (x3_1 + (wrap64 (t185)))) t186 _ A5.out).mono ?_); rintro e w' ⟨rfl, ⟨nd, rfl⟩⟩; refine ⟨_, rfl, ?_⟩))
   go_roundg k1
   case measure => have := HK1.out; omega
   case rel => exact ⟨(wrap64 (t186)), (wrap64 (x4_1 + 1)), (by first | rfl | (simp; done) | (simp [*]; done)), (by first | rfl | (simp; done) | (simp [*]; done)), H', ⟨by have := HK1.out; omega⟩, by repeat (first | exact Drawn0.refl _ | apply Drawn0.step)⟩
/-! ### pelotonref03_Cell: function 40 -/
def pelotonref03_Cell.f (a0_0 : Int) (a0_1 : Int) (l0_2 : List Int) (a1 : Int) (a2 : Int) : Option (Int) := if 0 ≤ (wrap64 ((wrap64 (a1 * a0_1)) + a2)) then (if (wrap64 ((wrap64 (a1 * a0_1)) + a2)) < (l0_2.length : Int) then (some (rd l0_2 (wrap64 ((wrap64 (a1 * a0_1)) + a2)))) else (none)) else (none)
set_option maxHeartbeats 60000000 in
set_option maxRecDepth 100000 in
theorem pelotonref03_Cell.calls (a0_0 : Int) (a0_1 : Int) (A0_2 : Option Addr) (c0_2 : Nat) (l0_2 : List Int) (a1 : Int) (a2 : Int) (r : Int) (w : World) (hr0_2 : Kd.C (Kd.int .i32) w A0_2 l0_2.length l0_2) (hc0_2 : l0_2.length ≤ c0_2) (h : pelotonref03_Cell.f a0_0 a0_1 l0_2 a1 a2 = some r) :
  Calls Try.prog 40 #[.agg #[.int .i64 a0_0, .int .i64 a0_1, .slice A0_2 l0_2.length c0_2], .int .i64 a1, .int .i64 a2] w fun e w' => e = .returned (.int .i32 r) ∧ Below w.heap.size w w' := by
 have hu51 := Try.underlying51
 have HR0_2 := Aside0.mk hr0_2
 have HC0_2 := Aside0.mk hc0_2
 clear hr0_2 hc0_2
 have HB := Aside0.mk (Below.refl w.heap.size w)
 have H : (if 0 ≤ (wrap64 ((wrap64 (a1 * a0_1)) + a2)) then (if (wrap64 ((wrap64 (a1 * a0_1)) + a2)) < (l0_2.length : Int) then (some (rd l0_2 (wrap64 ((wrap64 (a1 * a0_1)) + a2)))) else (none)) else (none)) = some r := h
 clear h
 obtain ⟨ji4, hji4⟩ : ∃ j_ : Int, (wrap64 ((wrap64 (a1 * a0_1)) + a2)) = j_ := ⟨_, rfl⟩
 replace H : (if 0 ≤ (ji4) then (if (ji4) < (l0_2.length : Int) then (some (rd l0_2 (ji4))) else (none)) else (none)) = some r := by first | (rw [hji4] at H; exact H) | (simp only [hji4] at H ⊢; exact H)
 have hji4w : (IntKind.i64.wrap ((wrap64 (a1 * a0_1)) + a2)) = ji4 := (i64_w _).trans hji4
 by_cases c5 : 0 ≤ (ji4)
 rotate_left
 ·
  rw [if_neg c5] at H
  exact absurd H (by simp)

 rw [if_pos c5] at H
 have c5b0 : decide (0 ≤ (ji4)) = true := decide_eq_true c5
 clear c5
 by_cases c6 : (ji4) < (l0_2.length : Int)
 rotate_left
 ·
  rw [if_neg c6] at H
  exact absurd H (by simp)
 rw [if_pos c6] at H
 have c6b0 : decide ((ji4) < (l0_2.length : Int)) = true := decide_eq_true c6
 clear c6
 obtain rfl := Option.some.inj H
 go_enter Try.func40, Try.ntmps40
 go_wp2_with (first | ((with_reducible refine gate_dst (N := 3) rfl ?_); refine box_event ?hg (N := 3) ?hd (cs := #[.int .i64 a0_0, .int .i64 a0_1, .slice A0_2 l0_2.length c0_2]) (t := 51) ?hr ?_; (case hd => rfl); (case hg => rfl); (case hr => first | (go_simp; done) | (go_simp; rfl)); intro gb187 hg w7 hbox hb; have n0_ := Aside0.mk (below_step (by repeat (first | (with_reducible first | exact HB.out | apply b_a | apply b_n | apply b_d) | exact HB.out)) hb); have n1_ := Aside0.mk (hbox); have n2_ := Aside0.mk ((by rw [hg]; exact (below_size (by repeat (first | (with_reducible first | exact HB.out | apply b_a | apply b_n | apply b_d) | exact HB.out))) : w.heap.size ≤ gb187)); have n3_ := Aside0.mk ((by rw [hg]; exact (below_size (by repeat (first | (with_reducible first | exact HB.out | apply b_a | apply b_n | apply b_d) | exact HB.out))) : w.heap.size ≤ gb187)); clear HB; have HB := n0_; have BK187 := n1_; have GW187 := n2_; have GE187 := n3_; clear n0_ n1_ n2_ n3_; clear hb hbox hg; have hcz8_0 : w7.cell? ⟨gb187, 0, none⟩ = some (.int .i64 a0_0) := (blk_cell BK187.out 0).trans rfl; have hcz8_1 : w7.cell? ⟨gb187, 1, none⟩ = some (.int .i64 a0_1) := (blk_cell BK187.out 1).trans rfl; have hcz8_2 : w7.cell? ⟨gb187, 2, none⟩ = some (.slice A0_2 l0_2.length c0_2) := (blk_cell BK187.out 2).trans rfl; have hfz8_0 := blk_frozen BK187.out 0; have hfz8_1 := blk_frozen BK187.out 1; have hfz8_2 := blk_frozen BK187.out 2; have p188 : 0 ≤ ((ji4) : Int) := of_decide_eq_true (by first | (with_reducible assumption) | assumption); have q188 : (ji4) < (l0_2.length : Int) := of_decide_eq_true (by first | (with_reducible assumption) | assumption); obtain ⟨ad188, e188, hx188_0⟩ := Kd.at_int HR0_2.out (ji4) p188 q188; cases e188; replace hx188_0 := (HB.out.cell (World.block_lt_of_cell? w _ hx188_0)).trans hx188_0; replace p188 := eq_true p188; replace q188 := eq_true q188))
 go_ret
 exact ⟨by first | rfl | (simp [errW_none, errW_some] <;> rfl) | (simp only [← hji4]; first | rfl | (simp [errW_none, errW_some] <;> rfl)) | (simp [*, errW_none, errW_some] <;> rfl), by repeat (first | (with_reducible first | exact HB.out | apply b_a | apply b_n | apply b_d | refine b_s ?_ GE187.out) | exact HB.out)⟩
end Go.Proofs.Ytananmepljeldaa.QMatmulGrids
