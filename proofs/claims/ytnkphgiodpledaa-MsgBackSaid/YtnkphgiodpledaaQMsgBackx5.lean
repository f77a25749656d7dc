-- Written by a program of this session (a turned copy of the print) out of the translation. Lean checks it.
import Derived.Test.YtnkphgiodpledaaQMsgBackx0
import Derived.Test.YtnkphgiodpledaaQMsgBackx1
namespace Go.Proofs.Ytnkphgiodpledaa.QMsgBack
open Go.RowKit Go.Proofs.YtnkphgiodpledaaW.PrintWords Go.Proofs.YtnkphgiodpledaaW.PrintLast Go.Proofs.YtnkphgiodpledaaW.PrintMore
attribute [local go_sem] max2_int min2_int max_two min_two max_three min_three max_four min_four   -- for this text's walks alone
open Go.Proofs.YtnkphgiodpledaaW.PrintWords renaming below_alloc → b_a, pw_below_drewN → b_n, below_drew1 → b_d, below_set → b_s, blk_drewN → k_n, blk_drew → k_d, blk_alloc → k_a
open List renaming setIfInBounds_toArray → l_1, set_cons_zero → l_2, set_cons_succ → l_3, map_toArray → l_4, map_cons → l_5, map_nil → l_6, length_drop → l_7, length_take → l_8
set_option linter.unusedVariables false
set_option linter.unusedSimpArgs false

/-! ### slices_Clone_int32_int32: function 21 -/
def slices_Clone_int32_int32.f (l0 : List Int) : Option (List Int) := (some (([] : List Int) : List Int)).bind fun y147 => (if y147.length + l0.length < 35184372088832 then (some (y147 ++ l0)) else (none))
set_option maxHeartbeats 60000000 in
set_option maxRecDepth 100000 in
theorem slices_Clone_int32_int32.calls_some (b0 : Addr) (c0 : Nat) (l0 : List Int) (r : List Int) (w : World) (hr0 : Kd.C (Kd.int .i32) w (some b0) l0.length l0) (hc0 : l0.length ≤ c0) (h : slices_Clone_int32_int32.f l0 = some r) :
  Calls Try.prog 21 #[.slice (some b0) l0.length c0] w fun e w' => ∃ v0_ : Value, e = .returned (v0_) ∧ Kd.R (Kd.int .i32) 21 w' w.heap.size (fun _ => True) v0_ r ∧ Below w.heap.size w w' := by
 have hq_ : ∀ W : World, (binOp .eql 22 (.slice (some b0) l0.length c0) (.slice none 0 0)).run Try.prog W = .ok (.bool false) W := fun W => Go.Lib.run_eql_slice_nil W 22 21 (some b0) l0.length c0 0 0 Try.underlying22
 have HR0 := Aside0.mk hr0
 have HC0 := Aside0.mk hc0
 clear hr0 hc0
 have HB := Aside0.mk (Below.refl w.heap.size w)
 have H : ((some (([] : List Int) : List Int)).bind fun y147 => (if y147.length + l0.length < 35184372088832 then (some (y147 ++ l0)) else (none))) = some r := h
 clear h
 obtain ⟨y147, hy147⟩ : ∃ y_ : List Int, y_ = (([] : List Int)) := ⟨_, rfl⟩
 replace H : (if y147.length + l0.length < 35184372088832 then (some (y147 ++ l0)) else (none)) = some r := by first | (rw [hy147]; with_reducible exact H) | (have H2_ := (Option.bind_some _ _).symm.trans H; rw [hy147]; with_reducible exact H2_) | (have H2_ := (Option.bind_some _ _).symm.trans H; with_reducible exact H2_) | with_reducible exact H | (rw [hy147]; exact H) | exact H
 have Ny147 := Aside0.mk hy147
 clear hy147
 by_cases c2 : y147.length + l0.length < 35184372088832
 rotate_left
 ·
  rw [if_neg c2] at H
  exact absurd H (by simp)

 rw [if_pos c2] at H
 have LMc2 := Aside0.mk c2
 clear c2
 obtain ⟨y150, hy150⟩ : ∃ y_ : List Int, y_ = (y147 ++ l0) := ⟨_, rfl⟩
 replace H : (some y150) = some r := by first | (rw [hy150]; with_reducible exact H) | (have H2_ := (Option.bind_some _ _).symm.trans H; rw [hy150]; with_reducible exact H2_) | (have H2_ := (Option.bind_some _ _).symm.trans H; with_reducible exact H2_) | with_reducible exact H | (rw [hy150]; exact H) | exact H
 have Ny150 := Aside0.mk hy150
 clear hy150
 obtain rfl := Option.some.inj H
 go_enter Try.func21, Try.ntmps21
 go_wp2_with (first | ((with_reducible refine gate_dst (N := 5) rfl ?_); refine Kd.R_lit (Kd.int .i32) _ 21 ?hg (N := 5) ?hd (xs := ([] : List Int)) (inner := []) (ok := fun _ => True) (okp := fun _ => True) ?hr ?hp (fun _ hk => hk) trivial (Below.refl _ _) (Nat.le_refl _) (by simp) ?_; (case hd => rfl); (case hg => rfl); (case hr => first | (go_simp; done) | (go_simp; rfl)); (case hp => exact (Reps.none _ _)); intro v148 w3 ho4 hb hg_ hnew_; clear hg_ hnew_; (first | rw [← Ny147.out] at ho4 | (simp only [Int.reduceToNat] at ho4; rw [← Ny147.out] at ho4)); have HO149 := Aside0.mk (Kd.R_lower ho4 (below_size (bw_ HB))); replace HB := Aside0.mk (below_step (bw_ HB) hb); clear hb ho4) | ((with_reducible refine gate_builtin (b := .append) (xs := #[.tmp 5, .tmp 6]) rfl ?_); at_builtin; refine Kd.R_append_rows (Kd.int .i32) (w0 := w) w.heap.size rfl (.tmp 5) (.tmp 6) 22 21 (.int .i32 0) 4 rfl Try.underlying22 info21 rfl (by decide) (by omega) v148 y147 l0 _ _ _ (fun _ => True) (fun _ => False) rfl rfl ?aO ?aR (fun _ _ h => h) (fun _ h => h.elim) ?aF ?aB ?aS ?aL ?_; (case aR => repeat (first | exact (Kd.C_below HR0.out HB.out) | (with_reducible refine Kd.C_alloc ?_ _) | (with_reducible refine Kd.C_drewN ?_ _) | (with_reducible refine Kd.C_drew ?_))); (case aB => exact (bw_ HB)); (case aF => exact (fun _ _ => trivial)); (case aO => exact (tR_ HO149)); (case aS => exact (below_size (bw_ HB))); (case aL => have := LMc2.out; omega); intro v151 w5 ho hb hg hat; rw [← Ny150.out] at ho; have n0_ := Aside0.mk (hb); have n1_ := Aside0.mk (ho); clear HB; clear HO149; have HB := n0_; have HO152 := n1_; clear n0_ n1_; clear ho hb hg hat))
 go_ret
 exact ⟨_, by first | rfl | (simp [errW_none, errW_some] <;> rfl) | (simp [*, errW_none, errW_some] <;> rfl), by (with_reducible repeat (first | apply Kd.R_alloc | apply Kd.R_drewN | apply Kd.R_drew)); exact HO152.out, by repeat (first | (with_reducible first | exact HB.out | apply b_a | apply b_n | apply b_d) | exact HB.out)⟩
set_option maxHeartbeats 8000000 in
set_option maxRecDepth 100000 in
theorem slices_Clone_int32_int32.calls (A0 : Option Addr) (c0 : Nat) (l0 : List Int) (r : List Int) (w : World) (hr0 : Kd.C (Kd.int .i32) w A0 l0.length l0) (hc0 : l0.length ≤ c0) (h : slices_Clone_int32_int32.f l0 = some r) :
  Calls Try.prog 21 #[.slice A0 l0.length c0] w fun e w' => ∃ v0_ : Value, e = .returned (v0_) ∧ Kd.R (Kd.int .i32) 21 w' w.heap.size (fun _ => True) v0_ r ∧ Below w.heap.size w w' := by
 cases A0 with
 | some b0 => exact slices_Clone_int32_int32.calls_some b0 c0 l0 r w hr0 hc0 h
 | none =>
  have hz : l0 = [] := by
   rcases Nat.eq_zero_or_pos l0.length with h0 | h0
   ·
    exact List.length_eq_zero_iff.1 h0
   ·
    obtain ⟨ad, e_, _⟩ := hr0.2.2 h0
    cases e_
  subst hz
  have hr_ : r = [] := by
   have h2 := h
   simp [slices_Clone_int32_int32.f] at h2
   exact h2
  subst hr_
  clear h hr0
  have hq_ : ∀ (W : World) (m : Nat), (binOp .eql 22 (.slice none m c0) (.slice none 0 0)).run Try.prog W = .ok (.bool true) W := fun W m => Go.Lib.run_eql_slice_nil W 22 21 none m c0 0 0 Try.underlying22
  go_enter Try.func21, Try.ntmps21
  go_wp2
  go_ret
  exact ⟨.slice none 0 0, rfl, Kd.R_nil _ _ _ _ _, Below.refl _ _⟩

/-! ### msg_Clone: function 9 -/
def msg_Clone.f (a0_0 : Int) (a0_1 : Int) (a0_2 : Int) (a0_3 : Int) (a0_4 : Int) (a0_5 : Int) (a0_6 : Int) (a0_7 : Int) (l0_8 : List Int) : Option (Int × Int × Int × Int × Int × Int × Int × Int × List Int) := (slices_Clone_int32_int32.f l0_8).bind fun t155 => (some (a0_0, a0_1, a0_2, a0_3, a0_4, a0_5, a0_6, a0_7, t155))
set_option maxHeartbeats 60000000 in
set_option maxRecDepth 100000 in
theorem msg_Clone.calls (a0_0 : Int) (a0_1 : Int) (a0_2 : Int) (a0_3 : Int) (a0_4 : Int) (a0_5 : Int) (a0_6 : Int) (a0_7 : Int) (A0_8 : Option Addr) (c0_8 : Nat) (l0_8 : List Int) (r1 : Int) (r2 : Int) (r3 : Int) (r4 : Int) (r5 : Int) (r6 : Int) (r7 : Int) (r8 : Int) (r9 : List Int) (w : World) (hr0_8 : Kd.C (Kd.int .i32) w A0_8 l0_8.length l0_8) (hc0_8 : l0_8.length ≤ c0_8) (h : msg_Clone.f a0_0 a0_1 a0_2 a0_3 a0_4 a0_5 a0_6 a0_7 l0_8 = some (r1, r2, r3, r4, r5, r6, r7, r8, r9)) :
  Calls Try.prog 9 #[.agg #[.int .i64 a0_0, .int .i64 a0_1, .int .i64 a0_2, .int .i64 a0_3, .int .i64 a0_4, .int .i64 a0_5, .int .i64 a0_6, .int .i64 a0_7, .slice A0_8 l0_8.length c0_8]] w fun e w' => ∃ v8_ : Value, e = .returned (.agg #[.int .i64 r1, .int .i64 r2, .int .i64 r3, .int .i64 r4, .int .i64 r5, .int .i64 r6, .int .i64 r7, .int .i64 r8, v8_]) ∧ Kd.R (Kd.int .i32) 21 w' w.heap.size (fun _ => True) v8_ r9 ∧ Below w.heap.size w w' := by
 have hu24 := Try.underlying24
 have HR0_8 := Aside0.mk hr0_8
 have HC0_8 := Aside0.mk hc0_8
 clear hr0_8 hc0_8
 have HB := Aside0.mk (Below.refl w.heap.size w)
 have H : ((slices_Clone_int32_int32.f l0_8).bind fun t155 => (some (a0_0, a0_1, a0_2, a0_3, a0_4, a0_5, a0_6, a0_7, t155))) = some (r1, r2, r3, r4, r5, r6, r7, r8, r9) := h
 clear h
 replace H := Option.bind_eq_some_iff.mp H
 obtain ⟨t155, A20, H⟩ := H
 replace H : (some (a0_0, a0_1, a0_2, a0_3, a0_4, a0_5, a0_6, a0_7, t155)) = some (r1, r2, r3, r4, r5, r6, r7, r8, r9) := H
 have A2 := Aside0.mk A20
 clear A20
 simp only [Option.some.injEq, Prod.mk.injEq] at H
 obtain ⟨rfl, rfl, rfl, rfl, rfl, rfl, rfl, rfl, rfl⟩ := H
 go_enter Try.func9, Try.ntmps9
 go_wp2_with (first | ((with_reducible refine gate_dst (N := 1) rfl ?_); refine box_event ?hg (N := 1) ?hd (cs := #[.int .i64 a0_0, .int .i64 a0_1, .int .i64 a0_2, .int .i64 a0_3, .int .i64 a0_4, .int .i64 a0_5, .int .i64 a0_6, .int .i64 a0_7, .slice A0_8 l0_8.length c0_8]) (t := 24) ?hr ?_; (case hd => rfl); (case hg => rfl); (case hr => first | (go_simp; done) | (go_simp; rfl)); intro gb153 hg w3 hbox hb; have BK153 := Aside0.mk (hbox); have GW153 := Aside0.mk ((by rw [hg]; exact (below_size (bw_ HB)) : w.heap.size ≤ gb153)); have GE153 := Aside0.mk ((by rw [hg]; exact (below_size (bw_ HB)) : w.heap.size ≤ gb153)); replace HB := Aside0.mk (below_step (bw_ HB) hb); clear hb hbox hg) | ((with_reducible refine gate_dst (N := 2) rfl ?_); refine box_event ?hg (N := 2) ?hd (cs := #[.int .i64 0, .int .i64 0, .int .i64 0, .int .i64 0, .int .i64 0, .int .i64 0, .int .i64 0, .int .i64 0, .slice none 0 0]) (t := 24) ?hr ?_; (case hd => rfl); (case hg => rfl); (case hr => first | (go_simp; done) | (go_simp; rfl)); intro gb154 hg w4 hbox hb; have BK154 := Aside0.mk (hbox); have GW154 := Aside0.mk ((by rw [hg]; exact (below_size (bw_ HB)) : w.heap.size ≤ gb154)); have GE154 := Aside0.mk ((by rw [hg]; exact (below_size (bw_ HB)) : w.heap.size ≤ gb154)); have NB153_154 := Aside0.mk ((by rw [hg]; exact Nat.ne_of_lt (blk_lt (tk_ BK153)) : gb153 ≠ gb154)); have NB154_153 := Aside0.mk ((by rw [hg]; exact Nat.ne_of_gt (blk_lt (tk_ BK153)) : gb154 ≠ gb153)); replace BK153 := Aside0.mk (blk_below (tk_ BK153) hb); replace HB := Aside0.mk (below_step (bw_ HB) hb); clear hb hbox hg; have hnb5 := NB153_154.out; have hnc5 := NB154_153.out; have hcz6_0 := bc_0 BK153; have hcz6_1 := bc_1 BK153; have hcz6_2 := bc_2 BK153; have hcz6_3 := bc_3 BK153; have hcz6_4 := bc_4 BK153; have hcz6_5 := bc_5 BK153; have hcz6_6 := bc_6 BK153; have hcz6_7 := bc_7 BK153; have hcz6_8 : w4.cell? ⟨gb153, 8, none⟩ = some (.slice A0_8 l0_8.length c0_8) := (blk_cell BK153.out 8).trans rfl; have hfz6_0 := blk_frozen BK153.out 0; have hfz6_1 := blk_frozen BK153.out 1; have hfz6_2 := blk_frozen BK153.out 2; have hfz6_3 := blk_frozen BK153.out 3; have hfz6_4 := blk_frozen BK153.out 4; have hfz6_5 := blk_frozen BK153.out 5; have hfz6_6 := blk_frozen BK153.out 6; have hfz6_7 := blk_frozen BK153.out 7; have hfz6_8 := blk_frozen BK153.out 8; (first | ((with_reducible refine gate_store_ rfl ?_); refine st9_ rfl rfl rfl rfl rfl (by with_reducible assumption) (by kernel_rfl) (by simp [Value.oneCell']) ?_; clear hcz6_0 hfz6_0 hcz6_1 hfz6_1 hcz6_2 hfz6_2 hcz6_3 hfz6_3 hcz6_4 hfz6_4 hcz6_5 hfz6_5 hcz6_6 hfz6_6 hcz6_7 hfz6_7 hcz6_8 hfz6_8; intro hb9_; have BN6 := Aside0.mk hb9_; clear hb9_) | skip)) | ((with_reducible refine gate_callee (f := 21) rfl ?_); refine goesL_ (some 5) rfl rfl Try.func21 (by kernel_rfl) rfl #[.slice A0_8 l0_8.length c0_8] rfl (by (try simp only [l_4, l_5, l_6]); first | done | rfl | (simp only [l_7, l_8]; rfl)) ?_; (with_reducible refine (slices_Clone_int32_int32.calls _ _ l0_8 t155 _ ?side1 ?side2 A2.out).mono ?_); (case side1 => repeat (first | exact (Kd.C_below HR0_8.out HB.out) | (with_reducible refine Kd.C_alloc ?_ _) | (with_reducible refine Kd.C_drewN ?_ _) | (with_reducible refine Kd.C_drew ?_))); (case side2 => exact HC0_8.out); rintro e w7 ⟨v156, rfl, ho0, hb⟩; (try clear A2); refine ⟨_, rfl, ?_⟩; have HO157 := Aside0.mk (Kd.R_lower ho0 (below_size (bw_ HB))); replace BK153 := Aside0.mk (blk_below (tk_ BK153) hb); replace BK154 := Aside0.mk (blk_below (tk_ BK154) hb); replace HB := Aside0.mk (below_step (bw_ HB) hb); (try clear hb); (try clear hb2); (try clear hk); (try clear hi); (try clear ho0); obtain ⟨Ao8, co8, eo8⟩ := Kd.R_slice HO157.out; subst eo8; have hcz9_0 := bc_0 BK153; have hcz9_1 := bc_1 BK153; have hcz9_2 := bc_2 BK153; have hcz9_3 := bc_3 BK153; have hcz9_4 := bc_4 BK153; have hcz9_5 := bc_5 BK153; have hcz9_6 := bc_6 BK153; have hcz9_7 := bc_7 BK153; have hcz9_8 : w7.cell? ⟨gb153, 8, none⟩ = some (.slice A0_8 l0_8.length c0_8) := (blk_cell BK153.out 8).trans rfl; have hfz9_0 := blk_frozen BK153.out 0; have hfz9_1 := blk_frozen BK153.out 1; have hfz9_2 := blk_frozen BK153.out 2; have hfz9_3 := blk_frozen BK153.out 3; have hfz9_4 := blk_frozen BK153.out 4; have hfz9_5 := blk_frozen BK153.out 5; have hfz9_6 := blk_frozen BK153.out 6; have hfz9_7 := blk_frozen BK153.out 7; have hfz9_8 := blk_frozen BK153.out 8; have hcz10_0 := bc_0 BK154; have hcz10_1 := bc_1 BK154; have hcz10_2 := bc_2 BK154; have hcz10_3 := bc_3 BK154; have hcz10_4 := bc_4 BK154; have hcz10_5 := bc_5 BK154; have hcz10_6 := bc_6 BK154; have hcz10_7 := bc_7 BK154; have hcz10_8 : w7.cell? ⟨gb154, 8, none⟩ = some (.slice none 0 0) := (blk_cell BK154.out 8).trans rfl; have hfz10_0 := blk_frozen BK154.out 0; have hfz10_1 := blk_frozen BK154.out 1; have hfz10_2 := blk_frozen BK154.out 2; have hfz10_3 := blk_frozen BK154.out 3; have hfz10_4 := blk_frozen BK154.out 4; have hfz10_5 := blk_frozen BK154.out 5; have hfz10_6 := blk_frozen BK154.out 6; have hfz10_7 := blk_frozen BK154.out 7; have hfz10_8 := blk_frozen BK154.out 8; (first | ((with_reducible refine gate_store_ rfl ?_); refine st9_ rfl rfl rfl rfl rfl (by with_reducible assumption) (by kernel_rfl) (by simp [Value.oneCell']) ?_; clear hcz9_0 hfz9_0 hcz9_1 hfz9_1 hcz9_2 hfz9_2 hcz9_3 hfz9_3 hcz9_4 hfz9_4 hcz9_5 hfz9_5 hcz9_6 hfz9_6 hcz9_7 hfz9_7 hcz9_8 hfz9_8 hcz10_0 hfz10_0 hcz10_1 hfz10_1 hcz10_2 hfz10_2 hcz10_3 hfz10_3 hcz10_4 hfz10_4 hcz10_5 hfz10_5 hcz10_6 hfz10_6 hcz10_7 hfz10_7 hcz10_8 hfz10_8; intro hb9_; have BN10 := Aside0.mk hb9_; clear hb9_) | skip)) | (refine wpList_load_row rfl 24 _ rfl gb153 rfl _ _ _ _ BN6.out Try.underlying24 rfl (by kernel_rfl) ?_; clear BN6))
 refine bodyPost_ret (results_cell_row rfl _ _ gb154 24 #[.int .i64 a0_0, .int .i64 a0_1, .int .i64 a0_2, .int .i64 a0_3, .int .i64 a0_4, .int .i64 a0_5, .int .i64 a0_6, .int .i64 a0_7, .slice Ao8 t155.length co8] (0, 0) _ rfl (by (with_reducible repeat (first | refine k_n ?_ _ | refine k_d ?_ | refine k_a ?_ _)); refine blk_put (cs := #[.int .i64 a0_0, .int .i64 a0_1, .int .i64 a0_2, .int .i64 a0_3, .int .i64 a0_4, .int .i64 a0_5, .int .i64 a0_6, .int .i64 a0_7, .slice none 0 0]) ?_ 8 _ rfl; (with_reducible repeat (first | refine k_n ?_ _ | refine k_d ?_ | refine k_a ?_ _)); refine blk_put (cs := #[.int .i64 a0_0, .int .i64 a0_1, .int .i64 a0_2, .int .i64 a0_3, .int .i64 a0_4, .int .i64 a0_5, .int .i64 a0_6, .int .i64 0, .slice none 0 0]) ?_ 7 _ rfl; (with_reducible repeat (first | refine k_n ?_ _ | refine k_d ?_ | refine k_a ?_ _)); refine blk_put (cs := #[.int .i64 a0_0, .int .i64 a0_1, .int .i64 a0_2, .int .i64 a0_3, .int .i64 a0_4, .int .i64 a0_5, .int .i64 0, .int .i64 0, .slice none 0 0]) ?_ 6 _ rfl; (with_reducible repeat (first | refine k_n ?_ _ | refine k_d ?_ | refine k_a ?_ _)); refine blk_put (cs := #[.int .i64 a0_0, .int .i64 a0_1, .int .i64 a0_2, .int .i64 a0_3, .int .i64 a0_4, .int .i64 0, .int .i64 0, .int .i64 0, .slice none 0 0]) ?_ 5 _ rfl; (with_reducible repeat (first | refine k_n ?_ _ | refine k_d ?_ | refine k_a ?_ _)); refine blk_put (cs := #[.int .i64 a0_0, .int .i64 a0_1, .int .i64 a0_2, .int .i64 a0_3, .int .i64 0, .int .i64 0, .int .i64 0, .int .i64 0, .slice none 0 0]) ?_ 4 _ rfl; (with_reducible repeat (first | refine k_n ?_ _ | refine k_d ?_ | refine k_a ?_ _)); refine blk_put (cs := #[.int .i64 a0_0, .int .i64 a0_1, .int .i64 a0_2, .int .i64 0, .int .i64 0, .int .i64 0, .int .i64 0, .int .i64 0, .slice none 0 0]) ?_ 3 _ rfl; (with_reducible repeat (first | refine k_n ?_ _ | refine k_d ?_ | refine k_a ?_ _)); refine blk_put (cs := #[.int .i64 a0_0, .int .i64 a0_1, .int .i64 0, .int .i64 0, .int .i64 0, .int .i64 0, .int .i64 0, .int .i64 0, .slice none 0 0]) ?_ 2 _ rfl; (with_reducible repeat (first | refine k_n ?_ _ | refine k_d ?_ | refine k_a ?_ _)); refine blk_put (cs := #[.int .i64 a0_0, .int .i64 0, .int .i64 0, .int .i64 0, .int .i64 0, .int .i64 0, .int .i64 0, .int .i64 0, .slice none 0 0]) ?_ 1 _ rfl; (with_reducible repeat (first | refine k_n ?_ _ | refine k_d ?_ | refine k_a ?_ _)); refine blk_put (cs := #[.int .i64 0, .int .i64 0, .int .i64 0, .int .i64 0, .int .i64 0, .int .i64 0, .int .i64 0, .int .i64 0, .slice none 0 0]) ?_ 0 _ rfl; (with_reducible repeat (first | refine k_n ?_ _ | refine k_d ?_ | refine k_a ?_ _)); refine blk_far ?_ NB154_153.out _; (with_reducible repeat (first | refine k_n ?_ _ | refine k_d ?_ | refine k_a ?_ _)); exact BK154.out) Try.underlying24 rfl (by kernel_rfl)) rfl ?_
 exact ⟨_, by first | rfl | (simp [errW_none, errW_some] <;> rfl) | (simp [*, errW_none, errW_some] <;> rfl), by (with_reducible repeat (first | apply Kd.R_alloc | apply Kd.R_drewN | apply Kd.R_drew)); exact Kd.R_mono (Kd.R_far (p := ⟨gb154, 8, none⟩) (Kd.R_far (p := ⟨gb154, 7, none⟩) (Kd.R_far (p := ⟨gb154, 6, none⟩) (Kd.R_far (p := ⟨gb154, 5, none⟩) (Kd.R_far (p := ⟨gb154, 4, none⟩) (Kd.R_far (p := ⟨gb154, 3, none⟩) (Kd.R_far (p := ⟨gb154, 2, none⟩) (Kd.R_far (p := ⟨gb154, 1, none⟩) (Kd.R_far (p := ⟨gb154, 0, none⟩) (Kd.R_far (p := ⟨gb153, 8, none⟩) (Kd.R_types (Kd.R_types HO157.out BK153.out (by decide)) BK154.out (by decide)) (fun _ hk => hk.1.2) (.slice Ao8 t155.length co8)) (fun _ hk => hk.2) (.int .i64 a0_0)) (fun _ hk => hk.2) (.int .i64 a0_1)) (fun _ hk => hk.2) (.int .i64 a0_2)) (fun _ hk => hk.2) (.int .i64 a0_3)) (fun _ hk => hk.2) (.int .i64 a0_4)) (fun _ hk => hk.2) (.int .i64 a0_5)) (fun _ hk => hk.2) (.int .i64 a0_6)) (fun _ hk => hk.2) (.int .i64 a0_7)) (fun _ hk => hk.2) (.slice Ao8 t155.length co8)) (fun _ hk => trivial), by repeat (first | (with_reducible first | exact HB.out | apply b_a | apply b_n | apply b_d | refine b_s ?_ GE153.out | refine b_s ?_ GE154.out) | exact HB.out)⟩

/-! ### api_Msg_36_at_msg_wrong: function 36 -/
def api_Msg_36_at_msg_wrong.l0 : Nat → List (S24) → Int → Int → Option (Int)
 | 0, _, _, _ => none
 | k + 1, x0, x7, x8 => if x8 < x7 then (if 0 ≤ x8 then (if x8 < (x0.length : Int) then ((msg_wrong.f ((rd_T24 x0 x8).f0) ((rd_T24 x0 x8).f1) ((rd_T24 x0 x8).f2) ((rd_T24 x0 x8).f3) ((rd_T24 x0 x8).f4) ((rd_T24 x0 x8).f5) ((rd_T24 x0 x8).f6) ((rd_T24 x0 x8).f7) ((rd_T24 x0 x8).f8)).bind fun t159 => (if t159 = true then (some x8) else (api_Msg_36_at_msg_wrong.l0 k x0 x7 (wrap64 (x8 + 1))))) else (none)) else (none)) else (some (-1))
def api_Msg_36_at_msg_wrong.f (k : Nat) (l0 : List (S24))  : Option (Int) := api_Msg_36_at_msg_wrong.l0 k l0 (l0.length : Int) 0
theorem api_Msg_36_at_msg_wrong.mono_l : ∀ k, (∀ y0 y1 y2, LeO (api_Msg_36_at_msg_wrong.l0 k y0 y1 y2) (api_Msg_36_at_msg_wrong.l0 (k + 1) y0 y1 y2))
 | 0 => fun _ _ _ r h => by simp [api_Msg_36_at_msg_wrong.l0] at h
 | k + 1 => by
  have ih0 := api_Msg_36_at_msg_wrong.mono_l k
  ·
   intro y0 y1 y2
   unfold api_Msg_36_at_msg_wrong.l0
   repeat' first
   | (with_reducible exact ih0 _ _ _)
   | (with_reducible exact LeO.refl _)
   | (with_reducible exact LeO.none _)
   | (with_reducible refine LeO.ite ?_ ?_)
   | (with_reducible refine LeO.bind ?_ (fun _ => ?_))
   | exact ih0 _ _ _
   | exact LeO.none _
   | refine LeO.ite ?_ ?_
   | refine LeO.bind ?_ (fun _ => ?_)
theorem api_Msg_36_at_msg_wrong.mono : ∀ a0 k, LeO (api_Msg_36_at_msg_wrong.f k a0) (api_Msg_36_at_msg_wrong.f (k + 1) a0) := by
 intro a0 k
 have ih0 := api_Msg_36_at_msg_wrong.mono_l k
 unfold api_Msg_36_at_msg_wrong.f
 repeat' first
   | (with_reducible exact ih0 _ _ _)
   | (with_reducible exact LeO.refl _)
   | (with_reducible exact LeO.none _)
   | (with_reducible refine LeO.ite ?_ ?_)
   | (with_reducible refine LeO.bind ?_ (fun _ => ?_))
   | exact ih0 _ _ _
   | exact LeO.none _
   | refine LeO.ite ?_ ?_
   | refine LeO.bind ?_ (fun _ => ?_)
set_option maxHeartbeats 60000000 in
set_option maxRecDepth 100000 in
theorem api_Msg_36_at_msg_wrong.calls (k : Nat) (A0 : Option Addr) (c0 : Nat) (l0 : List (S24))  (r : Int) (w : World) (hr0 : Kd.C k24 w A0 l0.length l0) (hc0 : l0.length ≤ c0) (h : api_Msg_36_at_msg_wrong.f k l0 = some r) :
  Calls Try.prog 36 #[.slice A0 l0.length c0, .func (.func 22) #[] #[]] w fun e w' => e = .returned (.int .i64 r) ∧ Below w.heap.size w w' := by
 have hu24 := Try.underlying24
 have HR0 := Aside0.mk hr0
 have HC0 := Aside0.mk hc0
 clear hr0 hc0
 have HB := Aside0.mk (Below.refl w.heap.size w)
 have H : (api_Msg_36_at_msg_wrong.l0 k l0 (l0.length : Int) 0) = some r := h
 clear h
 have H' := Aside0.mk H
 clear H
 go_enter Try.func36, Try.ntmps36
 go_wp2
 go_loopg [8] k (fun kq v8 w' => ∃ (x8_1 : Int), v8 = .int .i64 x8_1 ∧ Aside0 (api_Msg_36_at_msg_wrong.l0 kq l0 (l0.length : Int) x8_1 = some r) ∧ Aside0 (kq ≤ k) ∧ Aside0 (Below w.heap.size w w'))
 case atStart => exact ⟨(0), (by first | rfl | (simp; done) | (simp [*]; done)), H', ⟨Nat.le_refl _⟩, ⟨by repeat (first | (with_reducible first | exact HB.out | apply b_a | apply b_n | apply b_d) | exact HB.out)⟩⟩
 case round =>
  clear H'
  try clear p2
  obtain ⟨x8_1, rfl, HA, HK1, HB⟩ := hrel
  cases gk with
  | zero => exact absurd HA.out (by simp [api_Msg_36_at_msg_wrong.l0])
  | succ k1 =>
   have H := HA.out
   clear HA
   simp only [api_Msg_36_at_msg_wrong.l0] at H
   by_cases c3 : x8_1 < (l0.length : Int)
   rotate_left
   ·
    rw [if_neg c3] at H
    have c3b0 : decide (x8_1 < (l0.length : Int)) = false := decide_eq_false c3
    clear c3
    obtain rfl := Option.some.inj H
    go_wp2
    go_ret
    exact ⟨by first | rfl | (simp [errW_none, errW_some] <;> rfl) | (simp [*, errW_none, errW_some] <;> rfl), by repeat (first | (with_reducible first | exact HB.out | apply b_a | apply b_n | apply b_d) | exact HB.out)⟩

   rw [if_pos c3] at H
   have c3b0 : decide (x8_1 < (l0.length : Int)) = true := decide_eq_true c3
   clear c3
   by_cases c4 : 0 ≤ x8_1
   rotate_left
   ·
    rw [if_neg c4] at H
    exact absurd H (by simp)
   rw [if_pos c4] at H
   have c4b0 : decide (0 ≤ x8_1) = true := decide_eq_true c4
   clear c4
   by_cases c5 : x8_1 < (l0.length : Int)
   rotate_left
   ·
    rw [if_neg c5] at H
    exact absurd H (by simp)
   rw [if_pos c5] at H
   have c5b0 : decide (x8_1 < (l0.length : Int)) = true := decide_eq_true c5
   clear c5
   replace H := Option.bind_eq_some_iff.mp H
   obtain ⟨t159, A60, H⟩ := H
   replace H : (if t159 = true then (some x8_1) else (api_Msg_36_at_msg_wrong.l0 k1 l0 (l0.length : Int) (wrap64 (x8_1 + 1)))) = some r := H
   have A6 := Aside0.mk A60
   clear A60
   by_cases c7 : t159 = true
   ·
    subst c7
    have H1 : (some x8_1) = some r := by rw [if_pos rfl] at H; exact H
    clear H
    have H := H1
    clear H1
    obtain rfl := Option.some.inj H
    have p158 : 0 ≤ (x8_1 : Int) := of_decide_eq_true (by first | (with_reducible assumption) | assumption)
    have q158 : x8_1 < (l0.length : Int) := of_decide_eq_true (by first | (with_reducible assumption) | assumption)
    obtain ⟨ad158, A158_8, c158_8, e158, hx158_0, hx158_1, hx158_2, hx158_3, hx158_4, hx158_5, hx158_6, hx158_7, hx158_8, hl158_8, hi158_8⟩ := at_T24 HR0.out x8_1 p158 q158
    cases e158
    replace hx158_0 := cb_ HB hx158_0
    replace hx158_1 := cb_ HB hx158_1
    replace hx158_2 := cb_ HB hx158_2
    replace hx158_3 := cb_ HB hx158_3
    replace hx158_4 := cb_ HB hx158_4
    replace hx158_5 := cb_ HB hx158_5
    replace hx158_6 := cb_ HB hx158_6
    replace hx158_7 := cb_ HB hx158_7
    replace hx158_8 := cb_ HB hx158_8
    have HR158_8 := Aside0.mk hi158_8
    have HC158_8 := Aside0.mk hl158_8
    clear hi158_8 hl158_8
    replace p158 := eq_true p158
    replace q158 := eq_true q158
    go_wp2_with (first | ((with_reducible refine gate_dyn_ (t := 11) rfl ?_); refine goesV_ (some 16) rfl rfl Try.func22 (by kernel_rfl) rfl #[.agg #[.int .i64 ((rd_T24 l0 x8_1).f0), .int .i64 ((rd_T24 l0 x8_1).f1), .int .i64 ((rd_T24 l0 x8_1).f2), .int .i64 ((rd_T24 l0 x8_1).f3), .int .i64 ((rd_T24 l0 x8_1).f4), .int .i64 ((rd_T24 l0 x8_1).f5), .int .i64 ((rd_T24 l0 x8_1).f6), .int .i64 ((rd_T24 l0 x8_1).f7), .slice A158_8 ((rd_T24 l0 x8_1).f8).length c158_8]] rfl (by (try simp only [l_4, l_5, l_6]); first | done | rfl | (simp only [l_7, l_8]; rfl)) ?_; (with_reducible refine (msg_wrong.calls ((rd_T24 l0 x8_1).f0) ((rd_T24 l0 x8_1).f1) ((rd_T24 l0 x8_1).f2) ((rd_T24 l0 x8_1).f3) ((rd_T24 l0 x8_1).f4) ((rd_T24 l0 x8_1).f5) ((rd_T24 l0 x8_1).f6) ((rd_T24 l0 x8_1).f7) _ _ ((rd_T24 l0 x8_1).f8) true _ ?side1 ?side2 A6.out).mono ?_); (case side1 => repeat (first | exact (Kd.C_below HR158_8.out HB.out) | (with_reducible refine Kd.C_alloc ?_ _) | (with_reducible refine Kd.C_drewN ?_ _) | (with_reducible refine Kd.C_drew ?_))); (case side2 => exact HC158_8.out); rintro e w8 ⟨rfl, hb⟩; (try clear A6); refine ⟨_, rfl, ?_⟩; replace HB := Aside0.mk (below_step (bw_ HB) hb); (try clear hb); (try clear hb2); (try clear hk); (try clear hi)))
    go_ret
    exact ⟨by first | rfl | (simp [errW_none, errW_some] <;> rfl) | (simp [*, errW_none, errW_some] <;> rfl), by repeat (first | (with_reducible first | exact HB.out | apply b_a | apply b_n | apply b_d) | exact HB.out)⟩
   replace c7 := Bool.eq_false_iff.mpr c7
   subst c7
   have H1 : (api_Msg_36_at_msg_wrong.l0 k1 l0 (l0.length : Int) (wrap64 (x8_1 + 1))) = some r := by rw [if_neg (show ¬ (false = true) by decide)] at H; exact H
   clear H
   have H := H1
   clear H1
   have H' := Aside0.mk H
   clear H
   have p158 : 0 ≤ (x8_1 : Int) := of_decide_eq_true (by first | (with_reducible assumption) | assumption)
   have q158 : x8_1 < (l0.length : Int) := of_decide_eq_true (by first | (with_reducible assumption) | assumption)
   obtain ⟨ad158, A158_8, c158_8, e158, hx158_0, hx158_1, hx158_2, hx158_3, hx158_4, hx158_5, hx158_6, hx158_7, hx158_8, hl158_8, hi158_8⟩ := at_T24 HR0.out x8_1 p158 q158
   cases e158
   replace hx158_0 := cb_ HB hx158_0
   replace hx158_1 := cb_ HB hx158_1
   replace hx158_2 := cb_ HB hx158_2
   replace hx158_3 := cb_ HB hx158_3
   replace hx158_4 := cb_ HB hx158_4
   replace hx158_5 := cb_ HB hx158_5
   replace hx158_6 := cb_ HB hx158_6
   replace hx158_7 := cb_ HB hx158_7
   replace hx158_8 := cb_ HB hx158_8
   have HR158_8 := Aside0.mk hi158_8
   have HC158_8 := Aside0.mk hl158_8
   clear hi158_8 hl158_8
   replace p158 := eq_true p158
   replace q158 := eq_true q158
   go_wp2_with (first | ((with_reducible refine gate_dyn_ (t := 11) rfl ?_); refine goesV_ (some 16) rfl rfl Try.func22 (by kernel_rfl) rfl #[.agg #[.int .i64 ((rd_T24 l0 x8_1).f0), .int .i64 ((rd_T24 l0 x8_1).f1), .int .i64 ((rd_T24 l0 x8_1).f2), .int .i64 ((rd_T24 l0 x8_1).f3), .int .i64 ((rd_T24 l0 x8_1).f4), .int .i64 ((rd_T24 l0 x8_1).f5), .int .i64 ((rd_T24 l0 x8_1).f6), .int .i64 ((rd_T24 l0 x8_1).f7), .slice A158_8 ((rd_T24 l0 x8_1).f8).length c158_8]] rfl (by (try simp only [l_4, l_5, l_6]); first | done | rfl | (simp only [l_7, l_8]; rfl)) ?_; (with_reducible refine (msg_wrong.calls ((rd_T24 l0 x8_1).f0) ((rd_T24 l0 x8_1).f1) ((rd_T24 l0 x8_1).f2) ((rd_T24 l0 x8_1).f3) ((rd_T24 l0 x8_1).f4) ((rd_T24 l0 x8_1).f5) ((rd_T24 l0 x8_1).f6) ((rd_T24 l0 x8_1).f7) _ _ ((rd_T24 l0 x8_1).f8) false _ ?side1 ?side2 A6.out).mono ?_); (case side1 => repeat (first | exact (Kd.C_below HR158_8.out HB.out) | (with_reducible refine Kd.C_alloc ?_ _) | (with_reducible refine Kd.C_drewN ?_ _) | (with_reducible refine Kd.C_drew ?_))); (case side2 => exact HC158_8.out); rintro e w9 ⟨rfl, hb⟩; (try clear A6); refine ⟨_, rfl, ?_⟩; replace HB := Aside0.mk (below_step (bw_ HB) hb); (try clear hb); (try clear hb2); (try clear hk); (try clear hi)))
   go_roundg k1
   case measure => have := HK1.out; omega
   case rel => exact ⟨(wrap64 (x8_1 + 1)), (by first | rfl | (simp; done) | (simp [*]; done)), H', ⟨by have := HK1.out; omega⟩, ⟨by repeat (first | (with_reducible first | exact HB.out | apply b_a | apply b_n | apply b_d) | exact HB.out)⟩⟩
/-! ### api_Msg_26_at_msg_wrong: function 26 -/
def api_Msg_26_at_msg_wrong.f (k : Nat) (l0 : List (S24))  : Option (Bool) := (api_Msg_36_at_msg_wrong.f k l0).bind fun t160 => (some (decide (t160 ≥ 0)))
theorem api_Msg_26_at_msg_wrong.mono : ∀ a0 k, LeO (api_Msg_26_at_msg_wrong.f k a0) (api_Msg_26_at_msg_wrong.f (k + 1) a0) := by
 intro a0 k
 unfold api_Msg_26_at_msg_wrong.f
 repeat' first
   | (with_reducible exact api_Msg_36_at_msg_wrong.mono _ _)
   | (with_reducible exact LeO.refl _)
   | (with_reducible exact LeO.none _)
   | (with_reducible refine LeO.ite ?_ ?_)
   | (with_reducible refine LeO.bind ?_ (fun _ => ?_))
   | exact api_Msg_36_at_msg_wrong.mono _ _
   | exact LeO.none _
   | refine LeO.ite ?_ ?_
   | refine LeO.bind ?_ (fun _ => ?_)
set_option maxHeartbeats 60000000 in
set_option maxRecDepth 100000 in
theorem api_Msg_26_at_msg_wrong.calls (k : Nat) (A0 : Option Addr) (c0 : Nat) (l0 : List (S24))  (r : Bool) (w : World) (hr0 : Kd.C k24 w A0 l0.length l0) (hc0 : l0.length ≤ c0) (h : api_Msg_26_at_msg_wrong.f k l0 = some r) :
  Calls Try.prog 26 #[.slice A0 l0.length c0, .func (.func 22) #[] #[]] w fun e w' => e = .returned (.bool r) ∧ Below w.heap.size w w' := by
 have HR0 := Aside0.mk hr0
 have HC0 := Aside0.mk hc0
 clear hr0 hc0
 have HB := Aside0.mk (Below.refl w.heap.size w)
 have H : ((api_Msg_36_at_msg_wrong.f k l0).bind fun t160 => (some (decide (t160 ≥ 0)))) = some r := h
 clear h
 replace H := Option.bind_eq_some_iff.mp H
 obtain ⟨t160, A30, H⟩ := H
 replace H : (some (decide (t160 ≥ 0))) = some r := H
 have A3 := Aside0.mk A30
 clear A30
 obtain rfl := Option.some.inj H
 go_enter Try.func26, Try.ntmps26
 go_wp2_with (first | ((with_reducible refine gate_callee (f := 36) rfl ?_); refine goesL_ (some 7) rfl rfl Try.func36 (by kernel_rfl) rfl #[.slice A0 l0.length c0, .func (.func 22) #[] #[]] rfl (by (try simp only [l_4, l_5, l_6]); first | done | rfl | (simp only [l_7, l_8]; rfl)) ?_; (with_reducible refine (api_Msg_36_at_msg_wrong.calls k _ _ l0  t160 _ ?side1 ?side2 A3.out).mono ?_); (case side1 => repeat (first | exact HR0.out | (with_reducible refine Kd.C_alloc ?_ _) | (with_reducible refine Kd.C_drewN ?_ _) | (with_reducible refine Kd.C_drew ?_))); (case side2 => exact HC0.out); rintro e w4 ⟨rfl, hb⟩; (try clear A3); refine ⟨_, rfl, ?_⟩; replace HB := Aside0.mk (below_step (bw_ HB) hb); (try clear hb); (try clear hb2); (try clear hk); (try clear hi)))
 go_ret
 exact ⟨by first | rfl | (simp [errW_none, errW_some] <;> rfl) | (simp [*, errW_none, errW_some] <;> rfl), by repeat (first | (with_reducible first | exact HB.out | apply b_a | apply b_n | apply b_d) | exact HB.out)⟩

/-! ### msg_Right: function 12 -/
def msg_Right.f (k : Nat) (l0 : List (S24)) : Option (Bool) := (api_Msg_26_at_msg_wrong.f k l0).bind fun t161 => (some (!t161))
theorem msg_Right.mono : ∀ a0 k, LeO (msg_Right.f k a0) (msg_Right.f (k + 1) a0) := by
 intro a0 k
 unfold msg_Right.f
 repeat' first
   | (with_reducible exact api_Msg_26_at_msg_wrong.mono _ _)
   | (with_reducible exact LeO.refl _)
   | (with_reducible exact LeO.none _)
   | (with_reducible refine LeO.ite ?_ ?_)
   | (with_reducible refine LeO.bind ?_ (fun _ => ?_))
   | exact api_Msg_26_at_msg_wrong.mono _ _
   | exact LeO.none _
   | refine LeO.ite ?_ ?_
   | refine LeO.bind ?_ (fun _ => ?_)
set_option maxHeartbeats 60000000 in
set_option maxRecDepth 100000 in
theorem msg_Right.calls (k : Nat) (A0 : Option Addr) (c0 : Nat) (l0 : List (S24)) (r : Bool) (w : World) (hr0 : Kd.C k24 w A0 l0.length l0) (hc0 : l0.length ≤ c0) (h : msg_Right.f k l0 = some r) :
  Calls Try.prog 12 #[.slice A0 l0.length c0] w fun e w' => e = .returned (.bool r) ∧ Below w.heap.size w w' := by
 have HR0 := Aside0.mk hr0
 have HC0 := Aside0.mk hc0
 clear hr0 hc0
 have HB := Aside0.mk (Below.refl w.heap.size w)
 have H : ((api_Msg_26_at_msg_wrong.f k l0).bind fun t161 => (some (!t161))) = some r := h
 clear h
 replace H := Option.bind_eq_some_iff.mp H
 obtain ⟨t161, A20, H⟩ := H
 replace H : (some (!t161)) = some r := H
 have A2 := Aside0.mk A20
 clear A20
 obtain rfl := Option.some.inj H
 go_enter Try.func12, Try.ntmps12
 go_wp2_with (first | ((with_reducible refine gate_callee (f := 26) rfl ?_); refine goesL_ (some 4) rfl rfl Try.func26 (by kernel_rfl) rfl #[.slice A0 l0.length c0, .func (.func 22) #[] #[]] rfl (by (try simp only [l_4, l_5, l_6]); first | done | rfl | (simp only [l_7, l_8]; rfl)) ?_; (with_reducible refine (api_Msg_26_at_msg_wrong.calls k _ _ l0  t161 _ ?side1 ?side2 A2.out).mono ?_); (case side1 => repeat (first | exact HR0.out | (with_reducible refine Kd.C_alloc ?_ _) | (with_reducible refine Kd.C_drewN ?_ _) | (with_reducible refine Kd.C_drew ?_))); (case side2 => exact HC0.out); rintro e w3 ⟨rfl, hb⟩; (try clear A2); refine ⟨_, rfl, ?_⟩; replace HB := Aside0.mk (below_step (bw_ HB) hb); (try clear hb); (try clear hb2); (try clear hk); (try clear hi)))
 go_ret
 exact ⟨by first | rfl | (simp [errW_none, errW_some] <;> rfl) | (simp [*, errW_none, errW_some] <;> rfl), by repeat (first | (with_reducible first | exact HB.out | apply b_a | apply b_n | apply b_d) | exact HB.out)⟩

end Go.Proofs.Ytnkphgiodpledaa.QMsgBack
