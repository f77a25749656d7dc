-- Written by a program of this session (a turned copy of the print) out of the translation. Lean checks it.
import Derived.Test.YtijkcjlkfjeedaaQSliceOwnsx0
import Derived.Test.YtijkcjlkfjeedaaQSliceOwnsx2
namespace Go.Proofs.Ytijkcjlkfjeedaa.QSliceOwns
open Go.RowKit Go.Proofs.YtijkcjlkfjeedaaW.PrintWords Go.Proofs.YtijkcjlkfjeedaaW.PrintLast Go.Proofs.YtijkcjlkfjeedaaW.PrintMore
attribute [local go_sem] max2_int min2_int max_two min_two max_three min_three max_four min_four   -- for this text's walks alone
open Go.Proofs.YtijkcjlkfjeedaaW.PrintWords renaming below_alloc → b_a, pw_below_drewN → b_n, below_drew1 → b_d, below_set → b_s, blk_drewN → k_n, blk_drew → k_d, blk_alloc → k_a
open List renaming setIfInBounds_toArray → l_1, set_cons_zero → l_2, set_cons_succ → l_3, map_toArray → l_4, map_cons → l_5, map_nil → l_6, length_drop → l_7, length_take → l_8
set_option linter.unusedVariables false
set_option linter.unusedSimpArgs false

/-! ### slice_Inner: function 13 -/
def slice_Inner.f (a0_0 : Int) (a0_1 : Int) (a0_2 : Int) (a0_3 : Int) (a0_4 : Int) (a0_5 : Int) (a1_0 : Int) (a1_1 : Int) (a2 : Int) : Option (Int × Int × Int) := (slice_Right.f a0_0 a0_1 a0_2 a0_3 a0_4 a0_5 a1_0 a1_1).bind fun t150 => ((slice_span.f t150 a2 a0_3 a1_1).bind fun bt151 => (some (bt151.1, bt151.2.1, bt151.2.2)))
def slice_Inner.T1 : Bool × List (List Nat × List Nat) := (true, [([], []), ([], []), ([0, 1], [0, 1]), ([], []), ([], []), ([4], [4]), ([], []), ([6], [6]), ([2, 3, 5, 7, 2], [2, 3, 5, 7]), ([8], [8]), ([8], [8]), ([9, 8, 0, 1, 2, 3, 4, 5, 6, 7, 8, 9, 10], [9]), ([10, 11, 0, 1, 2, 3, 4, 5, 6, 7, 8, 9, 10, 11], [10])])
def slice_Inner.B1 : List Nat := [0, 0, 3, 0, 0, 16, 0, 64, 255, 511, 511, 2047, 4095]
theorem slice_Inner.tab1 : rtab .any (opsOf Try.f13 1) = slice_Inner.T1 := by kernel_rfl
theorem slice_Inner.bits1 : waitsOk slice_Inner.T1.2 slice_Inner.B1 = true := by kernel_rfl
set_option maxHeartbeats 60000000 in
set_option maxRecDepth 100000 in
theorem slice_Inner.calls (a0_0 : Int) (a0_1 : Int) (a0_2 : Int) (a0_3 : Int) (a0_4 : Int) (a0_5 : Int) (a1_0 : Int) (a1_1 : Int) (a2 : Int) (r1 : Int) (r2 : Int) (r3 : Int) (w : World) (h : slice_Inner.f a0_0 a0_1 a0_2 a0_3 a0_4 a0_5 a1_0 a1_1 a2 = some (r1, r2, r3)) :
  Calls Try.prog 13 #[.agg #[.int .i64 a0_0, .int .i64 a0_1, .int .i64 a0_2, .int .i64 a0_3, .int .i64 a0_4, .int .i64 a0_5], .agg #[.int .i64 a1_0, .int .i64 a1_1], .int .i64 a2] w fun e w' => e = .returned (.tuple #[.agg #[.int .i64 r1, .int .i64 r2], .int .i64 r3]) ∧ Below w.heap.size w w' := by
 have hu23 := Try.underlying23
 have hu25 := Try.underlying25
 have hu29 := Try.underlying29
 have HB := Aside0.mk (Below.refl w.heap.size w)
 have H : ((slice_Right.f a0_0 a0_1 a0_2 a0_3 a0_4 a0_5 a1_0 a1_1).bind fun t150 => ((slice_span.f t150 a2 a0_3 a1_1).bind fun bt151 => (some (bt151.1, bt151.2.1, bt151.2.2)))) = some (r1, r2, r3) := h
 clear h
 replace H := Option.bind_eq_some_iff.mp H
 obtain ⟨t150, A40, H⟩ := H
 replace H : ((slice_span.f t150 a2 a0_3 a1_1).bind fun bt151 => (some (bt151.1, bt151.2.1, bt151.2.2))) = some (r1, r2, r3) := H
 have A4 := Aside0.mk A40
 clear A40
 replace H := Option.bind_eq_some_iff.mp H
 obtain ⟨⟨t151, t152, t153⟩, A50, H⟩ := H
 replace H : (some (t151, t152, t153)) = some (r1, r2, r3) := H
 have A5 := Aside0.mk A50
 clear A50
 simp only [Option.some.injEq, Prod.mk.injEq] at H
 obtain ⟨rfl, rfl, rfl⟩ := H
 go_enter Try.func13, Try.ntmps13
 try go_wp2_with (first | ((with_reducible refine gate_dst (N := 3) rfl ?_); refine box_event ?hg (N := 3) ?hd (cs := #[.int .i64 a0_0, .int .i64 a0_1, .int .i64 a0_2, .int .i64 a0_3, .int .i64 a0_4, .int .i64 a0_5]) (t := 23) ?hr ?_; (case hd => rfl); (case hg => rfl); (case hr => first | (go_simp; done) | (go_simp; rfl)); intro gb147 hg w6 hbox hb; have BK147 := Aside0.mk (hbox); have GW147 := Aside0.mk ((by rw [hg]; exact (below_size (bw_ HB)) : w.heap.size ≤ gb147)); have GE147 := Aside0.mk ((by rw [hg]; exact (below_size (bw_ HB)) : w.heap.size ≤ gb147)); replace HB := Aside0.mk (below_step (bw_ HB) hb); clear hb hbox hg) | ((with_reducible refine gate_dst (N := 4) rfl ?_); refine box_event ?hg (N := 4) ?hd (cs := #[.int .i64 a1_0, .int .i64 a1_1]) (t := 25) ?hr ?_; (case hd => rfl); (case hg => rfl); (case hr => first | (go_simp; done) | (go_simp; rfl)); intro gb148 hg w7 hbox hb; have BK148 := Aside0.mk (hbox); have GW148 := Aside0.mk ((by rw [hg]; exact (below_size (bw_ HB)) : w.heap.size ≤ gb148)); have GE148 := Aside0.mk ((by rw [hg]; exact (below_size (bw_ HB)) : w.heap.size ≤ gb148)); have NB147_148 := Aside0.mk ((by rw [hg]; exact Nat.ne_of_lt (blk_lt (tk_ BK147)) : gb147 ≠ gb148)); have NB148_147 := Aside0.mk ((by rw [hg]; exact Nat.ne_of_gt (blk_lt (tk_ BK147)) : gb148 ≠ gb147)); replace BK147 := Aside0.mk (blk_below (tk_ BK147) hb); replace HB := Aside0.mk (below_step (bw_ HB) hb); clear hb hbox hg) | ((with_reducible refine gate_dst (N := 6) rfl ?_); refine box_event ?hg (N := 6) ?hd (cs := #[.int .i64 0, .int .i64 0]) (t := 29) ?hr ?_; (case hd => rfl); (case hg => rfl); (case hr => first | (go_simp; done) | (go_simp; rfl)); intro gb149 hg w8 hbox hb; have BK149 := Aside0.mk (hbox); have GW149 := Aside0.mk ((by rw [hg]; exact (below_size (bw_ HB)) : w.heap.size ≤ gb149)); have GE149 := Aside0.mk ((by rw [hg]; exact (below_size (bw_ HB)) : w.heap.size ≤ gb149)); have NB147_149 := Aside0.mk ((by rw [hg]; exact Nat.ne_of_lt (blk_lt (tk_ BK147)) : gb147 ≠ gb149)); have NB149_147 := Aside0.mk ((by rw [hg]; exact Nat.ne_of_gt (blk_lt (tk_ BK147)) : gb149 ≠ gb147)); have NB148_149 := Aside0.mk ((by rw [hg]; exact Nat.ne_of_lt (blk_lt (tk_ BK148)) : gb148 ≠ gb149)); have NB149_148 := Aside0.mk ((by rw [hg]; exact Nat.ne_of_gt (blk_lt (tk_ BK148)) : gb149 ≠ gb148)); replace BK147 := Aside0.mk (blk_below (tk_ BK147) hb); replace BK148 := Aside0.mk (blk_below (tk_ BK148) hb); replace HB := Aside0.mk (below_step (bw_ HB) hb); clear hb hbox hg))
 replace BK147 := Aside0.mk (k_d BK147.out)
 replace BK148 := Aside0.mk (k_d BK148.out)
 replace BK149 := Aside0.mk (k_d BK149.out)
 replace HB := Aside0.mk (b_d HB.out)
 refine start_ (n := 13) (S := fun w' => w'.cell? ⟨gb147, 0, none⟩ = some (.int .i64 a0_0) ∧ w'.cell? ⟨gb147, 1, none⟩ = some (.int .i64 a0_1) ∧ w'.cell? ⟨gb147, 2, none⟩ = some (.int .i64 a0_2) ∧ w'.cell? ⟨gb147, 3, none⟩ = some (.int .i64 a0_3) ∧ w'.cell? ⟨gb147, 4, none⟩ = some (.int .i64 a0_4) ∧ w'.cell? ⟨gb147, 5, none⟩ = some (.int .i64 a0_5) ∧ w'.cell? ⟨gb148, 0, none⟩ = some (.int .i64 a1_0) ∧ w'.cell? ⟨gb148, 1, none⟩ = some (.int .i64 a1_1)) (ds := []) #[false, false, false, false, false, false, false, false, false, false, false, false, false] (by kernel_rfl) rfl rfl ⟨(blk_cell BK147.out 0).trans rfl, (blk_cell BK147.out 1).trans rfl, (blk_cell BK147.out 2).trans rfl, (blk_cell BK147.out 3).trans rfl, (blk_cell BK147.out 4).trans rfl, (blk_cell BK147.out 5).trans rfl, (blk_cell BK148.out 0).trans rfl, (blk_cell BK148.out 1).trans rfl⟩ (fun hHeld => ?_); refine with_tabW slice_Inner.tab1 slice_Inner.bits1 (fun HT_ HW_ => ?_)
 generalize w8.drew = w9 at BK147 BK148 BK149 HB hHeld ⊢
 refine pu_ (i := 3) (N := some 11) (bs_ 13 8) rfl rfl HT_ ?_
 refine pu_ (i := 4) (N := some 12) (bs_ 13 24) rfl rfl HT_ ?_
 refine pu_ (i := 6) (N := some 14) (bs_ 13 88) rfl rfl HT_ ?_
 refine take_ (i := 0) (N := some 8) (v := ?_) (a' := ?_) (bs_ 13 89) rfl rfl (take_ofW HT_.out HW_.out (by kernel_rfl)) (fun _ _ _ h => h) (Or.inl ⟨by rfl, ?_⟩) hHeld ?_ ?_
 rotate_left
 ·
  rintro w' ⟨s0, s1, s2, s3, s4, s5, s6, s7⟩
  go_simp
  with_reducible rfl
 rotate_left
 ·
  simp only [Act.put, l_1, l_2, l_3, i64_w, i32_w]
  rfl
 refine take_ (i := 1) (N := some 9) (v := ?_) (a' := ?_) (bs_ 13 91) rfl rfl (take_ofW HT_.out HW_.out (by kernel_rfl)) (fun _ _ _ h => h) (Or.inl ⟨by rfl, ?_⟩) hHeld ?_ ?_
 rotate_left
 ·
  rintro w' ⟨s0, s1, s2, s3, s4, s5, s6, s7⟩
  go_simp
  with_reducible rfl
 rotate_left
 ·
  simp only [Act.put, l_1, l_2, l_3, i64_w, i32_w]
  rfl
 refine take_ (i := 5) (N := some 13) (v := ?_) (a' := ?_) (bs_ 13 123) rfl rfl (take_ofW HT_.out HW_.out (by kernel_rfl)) (fun _ _ _ h => h) (Or.inl ⟨by rfl, ?_⟩) hHeld ?_ ?_
 rotate_left
 ·
  rintro w' ⟨s0, s1, s2, s3, s4, s5, s6, s7⟩
  go_simp
  with_reducible rfl
 rotate_left
 ·
  simp only [Act.put, l_1, l_2, l_3, i64_w, i32_w]
  rfl
 refine take_ (i := 7) (N := some 15) (v := ?_) (a' := ?_) (bs_ 13 251) rfl rfl (take_ofW HT_.out HW_.out (by kernel_rfl)) (fun _ _ _ h => h) (Or.inl ⟨by rfl, ?_⟩) hHeld ?_ ?_
 rotate_left
 ·
  rintro w' ⟨s0, s1, s2, s3, s4, s5, s6, s7⟩
  go_simp
  with_reducible rfl
 rotate_left
 ·
  simp only [Act.put, l_1, l_2, l_3, i64_w, i32_w]
  rfl
 refine one_ (i := 2) (N := some 10) (bs_ 13 255) rfl rfl (one_of HT_.out (by kernel_rfl)) (by decide) (fun K hK => ?_)
 refine goes_ Try.func9 (by kernel_rfl) rfl #[.agg #[.int .i64 a0_0, .int .i64 a0_1, .int .i64 a0_2, .int .i64 a0_3, .int .i64 a0_4, .int .i64 a0_5], .agg #[.int .i64 a1_0, .int .i64 a1_1]] (by rfl) rfl rfl (by (try simp only [l_4, l_5, l_6]); first | done | rfl | (simp only [l_7, l_8]; rfl)) ?_
 with_reducible refine (slice_Right.calls a0_0 a0_1 a0_2 a0_3 a0_4 a0_5 a1_0 a1_1 t150 _ A4.out).mono ?_
 rintro e w10 ⟨rfl, hb⟩
 refine ⟨_, rfl, ?_⟩
 replace BK147 := Aside0.mk (blk_below (tk_ BK147) hb)
 replace BK148 := Aside0.mk (blk_below (tk_ BK148) hb)
 replace BK149 := Aside0.mk (blk_below (tk_ BK149) hb)
 replace HB := Aside0.mk (below_step (bw_ HB) hb)
 (try clear hb)
 (try clear hb2)
 (try clear hk)
 (try clear hi)
 refine hK.out _ _ ⟨(blk_cell BK147.out 0).trans rfl, (blk_cell BK147.out 1).trans rfl, (blk_cell BK147.out 2).trans rfl, (blk_cell BK147.out 3).trans rfl, (blk_cell BK147.out 4).trans rfl, (blk_cell BK147.out 5).trans rfl, (blk_cell BK148.out 0).trans rfl, (blk_cell BK148.out 1).trans rfl⟩ (fun hHeld => ?_)
 clear hK K
 refine no_ (N := some 10) ?_
 refine one_ (i := 8) (N := some 16) (bs_ 13 511) rfl rfl (one_of HT_.out (by kernel_rfl)) (by decide) (fun K hK => ?_)
 refine goes_ Try.func24 (by kernel_rfl) rfl #[.bool t150, .int .i64 a2, .int .i64 a0_3, .int .i64 a1_1] (by rfl) rfl rfl (by (try simp only [l_4, l_5, l_6]); first | done | rfl | (simp only [l_7, l_8]; rfl)) ?_
 with_reducible refine (slice_span.calls t150 a2 a0_3 a1_1 t151 t152 t153 _ A5.out).mono ?_
 rintro e w11 ⟨rfl, hb⟩
 refine ⟨_, rfl, ?_⟩
 replace BK147 := Aside0.mk (blk_below (tk_ BK147) hb)
 replace BK148 := Aside0.mk (blk_below (tk_ BK148) hb)
 replace BK149 := Aside0.mk (blk_below (tk_ BK149) hb)
 replace HB := Aside0.mk (below_step (bw_ HB) hb)
 (try clear hb)
 (try clear hb2)
 (try clear hk)
 (try clear hi)
 refine hK.out _ _ ⟨(blk_cell BK147.out 0).trans rfl, (blk_cell BK147.out 1).trans rfl, (blk_cell BK147.out 2).trans rfl, (blk_cell BK147.out 3).trans rfl, (blk_cell BK147.out 4).trans rfl, (blk_cell BK147.out 5).trans rfl, (blk_cell BK148.out 0).trans rfl, (blk_cell BK148.out 1).trans rfl⟩ (fun hHeld => ?_)
 clear hK K
 refine no_ (N := some 16) ?_
 refine pu_ (i := 9) (N := some 17) (bs_ 13 1023) rfl rfl HT_ ?_
 refine pu_ (i := 10) (N := some 18) (bs_ 13 2047) rfl rfl HT_ ?_
 refine one_ (i := 11) (N := none) (bs_ 13 4095) rfl rfl (one_of HT_.out (by kernel_rfl)) (by decide) (fun K hK => ?_)
 have hs12 := bc_0 BK149
 have hfs12 := blk_frozen BK149.out 0
 have hns12_0 := NB147_149.out
 have hns12_1 := NB148_149.out
 have hms12_0 := NB149_147.out
 have hms12_1 := NB149_148.out
 have hs13 := bc_1 BK149
 have hfs13 := blk_frozen BK149.out 1
 have hns13_0 := NB147_149.out
 have hns13_1 := NB148_149.out
 have hms13_0 := NB149_147.out
 have hms13_1 := NB149_148.out
 refine skip_ (w1 := ?_) (by rfl) rfl ?_ ?_
 rotate_left
 ·
  go_simp
  rfl
 refine hK.out _ _ ⟨((cell_far (p := ⟨gb149, _, none⟩) NB147_149.out _).trans (((cell_far (p := ⟨gb149, _, none⟩) NB147_149.out _).trans (hHeld.1)))), ((cell_far (p := ⟨gb149, _, none⟩) NB147_149.out _).trans (((cell_far (p := ⟨gb149, _, none⟩) NB147_149.out _).trans (hHeld.2.1)))), ((cell_far (p := ⟨gb149, _, none⟩) NB147_149.out _).trans (((cell_far (p := ⟨gb149, _, none⟩) NB147_149.out _).trans (hHeld.2.2.1)))), ((cell_far (p := ⟨gb149, _, none⟩) NB147_149.out _).trans (((cell_far (p := ⟨gb149, _, none⟩) NB147_149.out _).trans (hHeld.2.2.2.1)))), ((cell_far (p := ⟨gb149, _, none⟩) NB147_149.out _).trans (((cell_far (p := ⟨gb149, _, none⟩) NB147_149.out _).trans (hHeld.2.2.2.2.1)))), ((cell_far (p := ⟨gb149, _, none⟩) NB147_149.out _).trans (((cell_far (p := ⟨gb149, _, none⟩) NB147_149.out _).trans (hHeld.2.2.2.2.2.1)))), ((cell_far (p := ⟨gb149, _, none⟩) NB148_149.out _).trans (((cell_far (p := ⟨gb149, _, none⟩) NB148_149.out _).trans (hHeld.2.2.2.2.2.2.1)))), ((cell_far (p := ⟨gb149, _, none⟩) NB148_149.out _).trans (((cell_far (p := ⟨gb149, _, none⟩) NB148_149.out _).trans (hHeld.2.2.2.2.2.2.2))))⟩ (fun hHeld => ?_)
 clear hK K
 refine pu_ (i := 12) (N := some 7) (bs_ 13 8191) rfl rfl HT_ ?_
 refine done_ (done_of HT_.out (by kernel_rfl)) ?_
 try go_wp2
 refine bodyPost_ret (results_ct rfl _ _ gb149 29 #[.int .i64 t151, .int .i64 t152] (0, 0) _ rfl (by (with_reducible repeat (first | refine k_n ?_ _ | refine k_d ?_ | refine k_a ?_ _)); refine blk_put (cs := #[.int .i64 t151, .int .i64 0]) ?_ 1 _ rfl; (with_reducible repeat (first | refine k_n ?_ _ | refine k_d ?_ | refine k_a ?_ _)); refine blk_put (cs := #[.int .i64 0, .int .i64 0]) ?_ 0 _ rfl; (with_reducible repeat (first | refine k_n ?_ _ | refine k_d ?_ | refine k_a ?_ _)); exact BK149.out) Try.underlying29 rfl (by kernel_rfl)) rfl ?_
 exact ⟨by first | rfl | (simp [errW_none, errW_some] <;> rfl) | (simp [*, errW_none, errW_some] <;> rfl), by repeat (first | (with_reducible first | exact HB.out | apply b_a | apply b_n | apply b_d | refine b_s ?_ GE147.out | refine b_s ?_ GE148.out | refine b_s ?_ GE149.out) | exact HB.out)⟩

/-! ### pelotonref07_rest: function 25 -/
def pelotonref07_rest.f (a0 : Int) (a1 : Int) : Option (Int) := if a1 = 0 then (none) else (some (Int.tmod (wrap64 ((Int.tmod a0 a1) + a1)) a1))
set_option maxHeartbeats 60000000 in
set_option maxRecDepth 100000 in
theorem pelotonref07_rest.calls (a0 : Int) (a1 : Int) (r : Int) (w : World) (h : pelotonref07_rest.f a0 a1 = some r) :
  Calls Try.prog 25 #[.int .i64 a0, .int .i64 a1] w fun e w' => e = .returned (.int .i64 r) ∧ Drawn0 w w' := by
 have H : (if a1 = 0 then (none) else (some (Int.tmod (wrap64 ((Int.tmod a0 a1) + a1)) a1))) = some r := h
 clear h
 by_cases c3 : a1 = 0
 ·
  rw [if_pos c3] at H
  exact absurd H (by simp)
 rw [if_neg c3] at H
 have c3b0 : (a1 == 0) = false := beq_eq_false_iff_ne.mpr c3
 have c3b1 : (a1 != 0) = true := bne_iff_ne.mpr c3
 obtain rfl := Option.some.inj H
 go_enter Try.func25, Try.ntmps25
 go_wp2
 go_ret
 exact ⟨by first | rfl | (simp; done) | (simp [*]; done), by repeat (first | exact Drawn0.refl _ | apply Drawn0.step)⟩

/-! ### pelotonref07_Tiny: function 15 -/
def pelotonref07_Tiny.f (a0_0 : Int) (a0_1 : Int) (a0_2 : Int) (a0_3 : Int) (a0_4 : Int) (a0_5 : Int) : Option (Int × Int × Int × Int × Int × Int) := (some (([1, 2, 4] : List Int) : List Int)).bind fun y156 => ((pelotonref07_rest.f a0_2 3).bind fun t159 => (if 0 ≤ t159 then (if t159 < (y156.length : Int) then ((pelotonref07_rest.f a0_0 3).bind fun t161 => ((pelotonref07_rest.f a0_1 2).bind fun t162 => ((pelotonref07_rest.f a0_3 8).bind fun t163 => ((pelotonref07_rest.f a0_4 9).bind fun t164 => ((pelotonref07_rest.f a0_5 9).bind fun t165 => (some (wrap64 (1 + t161), wrap64 ((wrap64 (2 * (rd y156 t159))) * (wrap64 (1 + t162))), rd y156 t159, wrap64 (1 + t163), wrap64 (2 + t164), wrap64 (4 + t165)))))))) else (none)) else (none)))
def pelotonref07_Tiny.T2 : Bool × List (List Nat × List Nat) := (true, [([], []), ([0], [0]), ([1], [1]), ([2], [2]), ([], []), ([], []), ([5], [5]), ([], []), ([7], [7]), ([8, 2], [8]), ([9], [9]), ([6, 10], [6, 10]), ([], []), ([12], [12]), ([13, 9], [13]), ([14], [14]), ([], []), ([16], [16]), ([17, 14], [17]), ([18], [18]), ([], []), ([20], [20]), ([21, 18], [21]), ([22], [22]), ([3, 4, 11, 15, 19, 23], [3, 4, 11, 15, 19, 23]), ([24, 22, 0, 1, 2, 3, 4, 5, 6, 7, 8, 9, 10, 11, 12, 13, 14, 15, 16, 17, 18, 19, 20, 21, 22, 23, 24], [24])])
def pelotonref07_Tiny.B2 : List Nat := [0, 1, 3, 7, 0, 0, 32, 0, 128, 391, 903, 2023, 0, 4096, 13191, 29575, 0, 65536, 226183, 488327, 0, 1048576, 3634055, 7828359, 16777215, 33554431]
theorem pelotonref07_Tiny.tab2 : rtab .any (opsOf Try.f15 2) = pelotonref07_Tiny.T2 := by kernel_rfl
theorem pelotonref07_Tiny.bits2 : waitsOk pelotonref07_Tiny.T2.2 pelotonref07_Tiny.B2 = true := by kernel_rfl
set_option maxHeartbeats 60000000 in
set_option maxRecDepth 100000 in
theorem pelotonref07_Tiny.calls (a0_0 : Int) (a0_1 : Int) (a0_2 : Int) (a0_3 : Int) (a0_4 : Int) (a0_5 : Int) (r1 : Int) (r2 : Int) (r3 : Int) (r4 : Int) (r5 : Int) (r6 : Int) (w : World) (h : pelotonref07_Tiny.f a0_0 a0_1 a0_2 a0_3 a0_4 a0_5 = some (r1, r2, r3, r4, r5, r6)) :
  Calls Try.prog 15 #[.agg #[.int .i64 a0_0, .int .i64 a0_1, .int .i64 a0_2, .int .i64 a0_3, .int .i64 a0_4, .int .i64 a0_5]] w fun e w' => e = .returned (.agg #[.int .i64 r1, .int .i64 r2, .int .i64 r3, .int .i64 r4, .int .i64 r5, .int .i64 r6]) ∧ Below w.heap.size w w' := by
 have hu35 := Try.underlying35
 have hu23 := Try.underlying23
 have HB := Aside0.mk (Below.refl w.heap.size w)
 have H : ((some (([1, 2, 4] : List Int) : List Int)).bind fun y156 => ((pelotonref07_rest.f a0_2 3).bind fun t159 => (if 0 ≤ t159 then (if t159 < (y156.length : Int) then ((pelotonref07_rest.f a0_0 3).bind fun t161 => ((pelotonref07_rest.f a0_1 2).bind fun t162 => ((pelotonref07_rest.f a0_3 8).bind fun t163 => ((pelotonref07_rest.f a0_4 9).bind fun t164 => ((pelotonref07_rest.f a0_5 9).bind fun t165 => (some (wrap64 (1 + t161), wrap64 ((wrap64 (2 * (rd y156 t159))) * (wrap64 (1 + t162))), rd y156 t159, wrap64 (1 + t163), wrap64 (2 + t164), wrap64 (4 + t165)))))))) else (none)) else (none)))) = some (r1, r2, r3, r4, r5, r6) := h
 clear h
 obtain ⟨y156, hy156⟩ : ∃ y_ : List Int, y_ = (([1, 2, 4] : List Int)) := ⟨_, rfl⟩
 replace H : ((pelotonref07_rest.f a0_2 3).bind fun t159 => (if 0 ≤ t159 then (if t159 < (y156.length : Int) then ((pelotonref07_rest.f a0_0 3).bind fun t161 => ((pelotonref07_rest.f a0_1 2).bind fun t162 => ((pelotonref07_rest.f a0_3 8).bind fun t163 => ((pelotonref07_rest.f a0_4 9).bind fun t164 => ((pelotonref07_rest.f a0_5 9).bind fun t165 => (some (wrap64 (1 + t161), wrap64 ((wrap64 (2 * (rd y156 t159))) * (wrap64 (1 + t162))), rd y156 t159, wrap64 (1 + t163), wrap64 (2 + t164), wrap64 (4 + t165)))))))) else (none)) else (none))) = some (r1, r2, r3, r4, r5, r6) := by first | (rw [hy156]; with_reducible exact H) | (have H2_ := (Option.bind_some _ _).symm.trans H; rw [hy156]; with_reducible exact H2_) | (have H2_ := (Option.bind_some _ _).symm.trans H; with_reducible exact H2_) | with_reducible exact H | (rw [hy156]; exact H) | exact H
 have Ny156 := Aside0.mk hy156
 clear hy156
 replace H := Option.bind_eq_some_iff.mp H
 obtain ⟨t159, A20, H⟩ := H
 replace H : (if 0 ≤ t159 then (if t159 < (y156.length : Int) then ((pelotonref07_rest.f a0_0 3).bind fun t161 => ((pelotonref07_rest.f a0_1 2).bind fun t162 => ((pelotonref07_rest.f a0_3 8).bind fun t163 => ((pelotonref07_rest.f a0_4 9).bind fun t164 => ((pelotonref07_rest.f a0_5 9).bind fun t165 => (some (wrap64 (1 + t161), wrap64 ((wrap64 (2 * (rd y156 t159))) * (wrap64 (1 + t162))), rd y156 t159, wrap64 (1 + t163), wrap64 (2 + t164), wrap64 (4 + t165)))))))) else (none)) else (none)) = some (r1, r2, r3, r4, r5, r6) := H
 have A2 := Aside0.mk A20
 clear A20
 by_cases c3 : 0 ≤ t159
 rotate_left
 ·
  rw [if_neg c3] at H
  exact absurd H (by simp)

 rw [if_pos c3] at H
 have c3b0 : decide (0 ≤ t159) = true := decide_eq_true c3
 clear c3
 by_cases c4 : t159 < (y156.length : Int)
 rotate_left
 ·
  rw [if_neg c4] at H
  exact absurd H (by simp)
 rw [if_pos c4] at H
 have c4b0 : decide (t159 < (y156.length : Int)) = true := decide_eq_true c4
 clear c4
 replace H := Option.bind_eq_some_iff.mp H
 obtain ⟨t161, A50, H⟩ := H
 replace H : ((pelotonref07_rest.f a0_1 2).bind fun t162 => ((pelotonref07_rest.f a0_3 8).bind fun t163 => ((pelotonref07_rest.f a0_4 9).bind fun t164 => ((pelotonref07_rest.f a0_5 9).bind fun t165 => (some (wrap64 (1 + t161), wrap64 ((wrap64 (2 * (rd y156 t159))) * (wrap64 (1 + t162))), rd y156 t159, wrap64 (1 + t163), wrap64 (2 + t164), wrap64 (4 + t165))))))) = some (r1, r2, r3, r4, r5, r6) := H
 have A5 := Aside0.mk A50
 clear A50
 replace H := Option.bind_eq_some_iff.mp H
 obtain ⟨t162, A60, H⟩ := H
 replace H : ((pelotonref07_rest.f a0_3 8).bind fun t163 => ((pelotonref07_rest.f a0_4 9).bind fun t164 => ((pelotonref07_rest.f a0_5 9).bind fun t165 => (some (wrap64 (1 + t161), wrap64 ((wrap64 (2 * (rd y156 t159))) * (wrap64 (1 + t162))), rd y156 t159, wrap64 (1 + t163), wrap64 (2 + t164), wrap64 (4 + t165)))))) = some (r1, r2, r3, r4, r5, r6) := H
 have A6 := Aside0.mk A60
 clear A60
 replace H := Option.bind_eq_some_iff.mp H
 obtain ⟨t163, A70, H⟩ := H
 replace H : ((pelotonref07_rest.f a0_4 9).bind fun t164 => ((pelotonref07_rest.f a0_5 9).bind fun t165 => (some (wrap64 (1 + t161), wrap64 ((wrap64 (2 * (rd y156 t159))) * (wrap64 (1 + t162))), rd y156 t159, wrap64 (1 + t163), wrap64 (2 + t164), wrap64 (4 + t165))))) = some (r1, r2, r3, r4, r5, r6) := H
 have A7 := Aside0.mk A70
 clear A70
 replace H := Option.bind_eq_some_iff.mp H
 obtain ⟨t164, A80, H⟩ := H
 replace H : ((pelotonref07_rest.f a0_5 9).bind fun t165 => (some (wrap64 (1 + t161), wrap64 ((wrap64 (2 * (rd y156 t159))) * (wrap64 (1 + t162))), rd y156 t159, wrap64 (1 + t163), wrap64 (2 + t164), wrap64 (4 + t165)))) = some (r1, r2, r3, r4, r5, r6) := H
 have A8 := Aside0.mk A80
 clear A80
 replace H := Option.bind_eq_some_iff.mp H
 obtain ⟨t165, A90, H⟩ := H
 replace H : (some (wrap64 (1 + t161), wrap64 ((wrap64 (2 * (rd y156 t159))) * (wrap64 (1 + t162))), rd y156 t159, wrap64 (1 + t163), wrap64 (2 + t164), wrap64 (4 + t165))) = some (r1, r2, r3, r4, r5, r6) := H
 have A9 := Aside0.mk A90
 clear A90
 simp only [Option.some.injEq, Prod.mk.injEq] at H
 obtain ⟨rfl, rfl, rfl, rfl, rfl, rfl⟩ := H
 go_enter Try.func15, Try.ntmps15
 try go_wp2_with (first | ((with_reducible refine gate_dst (N := 1) rfl ?_); refine box_event ?hg (N := 1) ?hd (cs := #[.int .i64 a0_0, .int .i64 a0_1, .int .i64 a0_2, .int .i64 a0_3, .int .i64 a0_4, .int .i64 a0_5]) (t := 35) ?hr ?_; (case hd => rfl); (case hg => rfl); (case hr => first | (go_simp; done) | (go_simp; rfl)); intro gb154 hg w10 hbox hb; have BK154 := Aside0.mk (hbox); have GW154 := Aside0.mk ((by rw [hg]; exact (below_size (bw_ HB)) : w.heap.size ≤ gb154)); have GE154 := Aside0.mk ((by rw [hg]; exact (below_size (bw_ HB)) : w.heap.size ≤ gb154)); replace HB := Aside0.mk (below_step (bw_ HB) hb); clear hb hbox hg) | ((with_reducible refine gate_dst (N := 2) rfl ?_); refine box_event ?hg (N := 2) ?hd (cs := #[.int .i64 0, .int .i64 0, .int .i64 0, .int .i64 0, .int .i64 0, .int .i64 0]) (t := 23) ?hr ?_; (case hd => rfl); (case hg => rfl); (case hr => first | (go_simp; done) | (go_simp; rfl)); intro gb155 hg w11 hbox hb; have BK155 := Aside0.mk (hbox); have GW155 := Aside0.mk ((by rw [hg]; exact (below_size (bw_ HB)) : w.heap.size ≤ gb155)); have GE155 := Aside0.mk ((by rw [hg]; exact (below_size (bw_ HB)) : w.heap.size ≤ gb155)); have NB154_155 := Aside0.mk ((by rw [hg]; exact Nat.ne_of_lt (blk_lt (tk_ BK154)) : gb154 ≠ gb155)); have NB155_154 := Aside0.mk ((by rw [hg]; exact Nat.ne_of_gt (blk_lt (tk_ BK154)) : gb155 ≠ gb154)); replace BK154 := Aside0.mk (blk_below (tk_ BK154) hb); replace HB := Aside0.mk (below_step (bw_ HB) hb); clear hb hbox hg) | ((with_reducible refine gate_dst (N := 4) rfl ?_); refine Kd.R_lit (Kd.int .i64) _ 3 ?hg (N := 4) ?hd (xs := ([1, 2, 4] : List Int)) (inner := [.int .i64 1, .int .i64 2, .int .i64 4]) (ok := fun _ => True) (okp := fun _ => True) ?hr ?hp (fun _ hk => hk) trivial (Below.refl _ _) (Nat.le_refl _) (by simp) ?_; (case hd => rfl); (case hg => rfl); (case hr => first | (go_simp; done) | (go_simp; rfl)); (case hp => exact (Reps.one (show Kd.M (Kd.int .i64) _ _ _ 1 [.int .i64 1] from rfl) (Reps.one (show Kd.M (Kd.int .i64) _ _ _ 2 [.int .i64 2] from rfl) (Reps.one (show Kd.M (Kd.int .i64) _ _ _ 4 [.int .i64 4] from rfl) (Reps.none _ _))))); intro v157 w12 ho13 hb hg_ hnew_; clear hg_ hnew_; (first | rw [← Ny156.out] at ho13 | (simp only [Int.reduceToNat] at ho13; rw [← Ny156.out] at ho13)); have HO158 := Aside0.mk (Kd.R_lower ho13 (below_size (bw_ HB))); replace BK154 := Aside0.mk (blk_below (tk_ BK154) hb); replace BK155 := Aside0.mk (blk_below (tk_ BK155) hb); replace HB := Aside0.mk (below_step (bw_ HB) hb); clear hb ho13; have hnb14 := NB154_155.out; have hnc14 := NB155_154.out; have hcz15_0 := bc_0 BK154; have hcz15_1 := bc_1 BK154; have hcz15_2 := bc_2 BK154; have hcz15_3 := bc_3 BK154; have hcz15_4 := bc_4 BK154; have hcz15_5 := bc_5 BK154; have hfz15_0 := blk_frozen BK154.out 0; have hfz15_1 := blk_frozen BK154.out 1; have hfz15_2 := blk_frozen BK154.out 2; have hfz15_3 := blk_frozen BK154.out 3; have hfz15_4 := blk_frozen BK154.out 4; have hfz15_5 := blk_frozen BK154.out 5) | ((with_reducible refine gate_callee (f := 25) rfl ?_); refine goesL_ (some 7) rfl rfl Try.func25 (by kernel_rfl) rfl #[.int .i64 a0_2, .int .i64 3] rfl (by (try simp only [l_4, l_5, l_6]); first | done | rfl | (simp only [l_7, l_8]; rfl)) ?_; (with_reducible refine (pelotonref07_rest.calls a0_2 3 t159 _ A2.out).mono ?_); rintro e w' ⟨rfl, ⟨nd, rfl⟩⟩; refine ⟨_, rfl, ?_⟩; (try (rw [drewN_self w12]; generalize hq_ : World.drewN w12 _ = w12; have n0_ : Aside0 (Kd.R (Kd.int .i64) 3 w12 w.heap.size (fun _ => True) v157 y156) := ⟨by rw [← hq_]; exact (tR_ HO158)⟩; have n1_ : Aside0 (w12.heap[gb154]? = some (.cells #[.int .i64 a0_0, .int .i64 a0_1, .int .i64 a0_2, .int .i64 a0_3, .int .i64 a0_4, .int .i64 a0_5] 35 (0, 0))) := ⟨by rw [← hq_]; exact (tk_ BK154)⟩; have n2_ : Aside0 (w12.heap[gb155]? = some (.cells #[.int .i64 0, .int .i64 0, .int .i64 0, .int .i64 0, .int .i64 0, .int .i64 0] 23 (0, 0))) := ⟨by rw [← hq_]; exact (tk_ BK155)⟩; have n3_ : Aside0 (Below w.heap.size w w12) := ⟨by rw [← hq_]; exact (bw_ HB)⟩; clear HO158 BK154 BK155 HB hq_; have HO158 := n0_; have BK154 := n1_; have BK155 := n2_; have HB := n3_; clear n0_ n1_ n2_ n3_)); obtain ⟨Ao16, co16, eo16⟩ := Kd.R_slice HO158.out; subst eo16; have p160 : 0 ≤ (t159 : Int) := of_decide_eq_true (by first | (with_reducible assumption) | assumption); have q160 : t159 < (y156.length : Int) := of_decide_eq_true (by first | (with_reducible assumption) | assumption); obtain ⟨ad160, e160, hx160_0⟩ := Kd.at_int (Kd.R_reads' HO158.out).2.2 t159 p160 q160; cases e160; replace p160 := eq_true p160; replace q160 := eq_true q160))
 replace HO158 := Aside0.mk (Kd.R_drew HO158.out)
 replace BK154 := Aside0.mk (k_d BK154.out)
 replace BK155 := Aside0.mk (k_d BK155.out)
 replace HB := Aside0.mk (b_d HB.out)
 refine start_ (n := 26) (S := fun w' => w'.cell? ⟨gb154, 0, none⟩ = some (.int .i64 a0_0) ∧ w'.cell? ⟨gb154, 1, none⟩ = some (.int .i64 a0_1) ∧ w'.cell? ⟨gb154, 2, none⟩ = some (.int .i64 a0_2) ∧ w'.cell? ⟨gb154, 3, none⟩ = some (.int .i64 a0_3) ∧ w'.cell? ⟨gb154, 4, none⟩ = some (.int .i64 a0_4) ∧ w'.cell? ⟨gb154, 5, none⟩ = some (.int .i64 a0_5)) (ds := []) #[false, false, false, false, false, false, false, false, false, false, false, false, false, false, false, false, false, false, false, false, false, false, false, false, false, false] (by kernel_rfl) rfl rfl ⟨(blk_cell BK154.out 0).trans rfl, (blk_cell BK154.out 1).trans rfl, (blk_cell BK154.out 2).trans rfl, (blk_cell BK154.out 3).trans rfl, (blk_cell BK154.out 4).trans rfl, (blk_cell BK154.out 5).trans rfl⟩ (fun hHeld => ?_); refine with_tabW pelotonref07_Tiny.tab2 pelotonref07_Tiny.bits2 (fun HT_ HW_ => ?_)
 generalize w12.drew = w17 at HO158 BK154 BK155 HB hHeld ⊢
 refine pu_ (i := 0) (N := some 10) (bs_ 26 1) rfl rfl HT_ ?_
 refine pu_ (i := 4) (N := some 14) (bs_ 26 17) rfl rfl HT_ ?_
 refine pu_ (i := 5) (N := some 15) (bs_ 26 49) rfl rfl HT_ ?_
 refine pu_ (i := 6) (N := some 16) (bs_ 26 113) rfl rfl HT_ ?_
 refine pu_ (i := 7) (N := some 17) (bs_ 26 241) rfl rfl HT_ ?_
 refine pu_ (i := 12) (N := some 22) (bs_ 26 4337) rfl rfl HT_ ?_
 refine pu_ (i := 16) (N := some 26) (bs_ 26 69873) rfl rfl HT_ ?_
 refine pu_ (i := 20) (N := some 30) (bs_ 26 1118449) rfl rfl HT_ ?_
 refine take_ (i := 1) (N := some 11) (v := ?_) (a' := ?_) (bs_ 26 1118451) rfl rfl (take_ofW HT_.out HW_.out (by kernel_rfl)) (fun _ _ _ h => h) (Or.inl ⟨by rfl, ?_⟩) hHeld ?_ ?_
 rotate_left
 ·
  rintro w' ⟨s0, s1, s2, s3, s4, s5⟩
  go_simp
  with_reducible rfl
 rotate_left
 ·
  simp only [Act.put, l_1, l_2, l_3, i64_w, i32_w]
  rfl
 refine take_ (i := 8) (N := some 18) (v := ?_) (a' := ?_) (bs_ 26 1118707) rfl rfl (take_ofW HT_.out HW_.out (by kernel_rfl)) (fun _ _ _ h => h) (Or.inl ⟨by rfl, ?_⟩) hHeld ?_ ?_
 rotate_left
 ·
  rintro w' ⟨s0, s1, s2, s3, s4, s5⟩
  go_simp
  with_reducible rfl
 rotate_left
 ·
  simp only [Act.put, l_1, l_2, l_3, i64_w, i32_w]
  rfl
 refine take_ (i := 13) (N := some 23) (v := ?_) (a' := ?_) (bs_ 26 1126899) rfl rfl (take_ofW HT_.out HW_.out (by kernel_rfl)) (fun _ _ _ h => h) (Or.inl ⟨by rfl, ?_⟩) hHeld ?_ ?_
 rotate_left
 ·
  rintro w' ⟨s0, s1, s2, s3, s4, s5⟩
  go_simp
  with_reducible rfl
 rotate_left
 ·
  simp only [Act.put, l_1, l_2, l_3, i64_w, i32_w]
  rfl
 refine take_ (i := 17) (N := some 27) (v := ?_) (a' := ?_) (bs_ 26 1257971) rfl rfl (take_ofW HT_.out HW_.out (by kernel_rfl)) (fun _ _ _ h => h) (Or.inl ⟨by rfl, ?_⟩) hHeld ?_ ?_
 rotate_left
 ·
  rintro w' ⟨s0, s1, s2, s3, s4, s5⟩
  go_simp
  with_reducible rfl
 rotate_left
 ·
  simp only [Act.put, l_1, l_2, l_3, i64_w, i32_w]
  rfl
 refine take_ (i := 21) (N := some 31) (v := ?_) (a' := ?_) (bs_ 26 3355123) rfl rfl (take_ofW HT_.out HW_.out (by kernel_rfl)) (fun _ _ _ h => h) (Or.inl ⟨by rfl, ?_⟩) hHeld ?_ ?_
 rotate_left
 ·
  rintro w' ⟨s0, s1, s2, s3, s4, s5⟩
  go_simp
  with_reducible rfl
 rotate_left
 ·
  simp only [Act.put, l_1, l_2, l_3, i64_w, i32_w]
  rfl
 refine one_ (i := 2) (N := some 12) (bs_ 26 3355127) rfl rfl (one_of HT_.out (by kernel_rfl)) (by decide) (fun K hK => ?_)
 refine goes_ Try.func25 (by kernel_rfl) rfl #[.int .i64 a0_0, .int .i64 3] (by rfl) rfl rfl (by (try simp only [l_4, l_5, l_6]); first | done | rfl | (simp only [l_7, l_8]; rfl)) ?_
 with_reducible refine (pelotonref07_rest.calls a0_0 3 t161 _ A5.out).mono ?_
 rintro e w' ⟨rfl, ⟨nd, rfl⟩⟩
 refine ⟨_, rfl, ?_⟩
 refine hK.out _ _ ⟨(blk_cell BK154.out 0).trans rfl, (blk_cell BK154.out 1).trans rfl, (blk_cell BK154.out 2).trans rfl, (blk_cell BK154.out 3).trans rfl, (blk_cell BK154.out 4).trans rfl, (blk_cell BK154.out 5).trans rfl⟩ (fun hHeld => ?_)
 clear hK K
 refine no_ (N := some 12) ?_
 refine pu_ (i := 3) (N := some 13) (bs_ 26 3355135) rfl rfl HT_ ?_
 refine one_ (i := 9) (N := some 19) (bs_ 26 3355647) rfl rfl (one_of HT_.out (by kernel_rfl)) (by decide) (fun K hK => ?_)
 refine goes_ Try.func25 (by kernel_rfl) rfl #[.int .i64 a0_1, .int .i64 2] (by rfl) rfl rfl (by (try simp only [l_4, l_5, l_6]); first | done | rfl | (simp only [l_7, l_8]; rfl)) ?_
 with_reducible refine (pelotonref07_rest.calls a0_1 2 t162 _ A6.out).mono ?_
 rintro e w' ⟨rfl, ⟨nd, rfl⟩⟩
 refine ⟨_, rfl, ?_⟩
 refine hK.out _ _ ⟨(blk_cell BK154.out 0).trans rfl, (blk_cell BK154.out 1).trans rfl, (blk_cell BK154.out 2).trans rfl, (blk_cell BK154.out 3).trans rfl, (blk_cell BK154.out 4).trans rfl, (blk_cell BK154.out 5).trans rfl⟩ (fun hHeld => ?_)
 clear hK K
 refine no_ (N := some 19) ?_
 refine pu_ (i := 10) (N := some 20) (bs_ 26 3356671) rfl rfl HT_ ?_
 refine pu_ (i := 11) (N := some 21) (bs_ 26 3358719) rfl rfl HT_ ?_
 refine one_ (i := 14) (N := some 24) (bs_ 26 3375103) rfl rfl (one_of HT_.out (by kernel_rfl)) (by decide) (fun K hK => ?_)
 refine goes_ Try.func25 (by kernel_rfl) rfl #[.int .i64 a0_3, .int .i64 8] (by rfl) rfl rfl (by (try simp only [l_4, l_5, l_6]); first | done | rfl | (simp only [l_7, l_8]; rfl)) ?_
 with_reducible refine (pelotonref07_rest.calls a0_3 8 t163 _ A7.out).mono ?_
 rintro e w' ⟨rfl, ⟨nd, rfl⟩⟩
 refine ⟨_, rfl, ?_⟩
 refine hK.out _ _ ⟨(blk_cell BK154.out 0).trans rfl, (blk_cell BK154.out 1).trans rfl, (blk_cell BK154.out 2).trans rfl, (blk_cell BK154.out 3).trans rfl, (blk_cell BK154.out 4).trans rfl, (blk_cell BK154.out 5).trans rfl⟩ (fun hHeld => ?_)
 clear hK K
 refine no_ (N := some 24) ?_
 refine pu_ (i := 15) (N := some 25) (bs_ 26 3407871) rfl rfl HT_ ?_
 refine one_ (i := 18) (N := some 28) (bs_ 26 3670015) rfl rfl (one_of HT_.out (by kernel_rfl)) (by decide) (fun K hK => ?_)
 refine goes_ Try.func25 (by kernel_rfl) rfl #[.int .i64 a0_4, .int .i64 9] (by rfl) rfl rfl (by (try simp only [l_4, l_5, l_6]); first | done | rfl | (simp only [l_7, l_8]; rfl)) ?_
 with_reducible refine (pelotonref07_rest.calls a0_4 9 t164 _ A8.out).mono ?_
 rintro e w' ⟨rfl, ⟨nd, rfl⟩⟩
 refine ⟨_, rfl, ?_⟩
 refine hK.out _ _ ⟨(blk_cell BK154.out 0).trans rfl, (blk_cell BK154.out 1).trans rfl, (blk_cell BK154.out 2).trans rfl, (blk_cell BK154.out 3).trans rfl, (blk_cell BK154.out 4).trans rfl, (blk_cell BK154.out 5).trans rfl⟩ (fun hHeld => ?_)
 clear hK K
 refine no_ (N := some 28) ?_
 refine pu_ (i := 19) (N := some 29) (bs_ 26 4194303) rfl rfl HT_ ?_
 refine one_ (i := 22) (N := some 32) (bs_ 26 8388607) rfl rfl (one_of HT_.out (by kernel_rfl)) (by decide) (fun K hK => ?_)
 refine goes_ Try.func25 (by kernel_rfl) rfl #[.int .i64 a0_5, .int .i64 9] (by rfl) rfl rfl (by (try simp only [l_4, l_5, l_6]); first | done | rfl | (simp only [l_7, l_8]; rfl)) ?_
 with_reducible refine (pelotonref07_rest.calls a0_5 9 t165 _ A9.out).mono ?_
 rintro e w' ⟨rfl, ⟨nd, rfl⟩⟩
 refine ⟨_, rfl, ?_⟩
 refine hK.out _ _ ⟨(blk_cell BK154.out 0).trans rfl, (blk_cell BK154.out 1).trans rfl, (blk_cell BK154.out 2).trans rfl, (blk_cell BK154.out 3).trans rfl, (blk_cell BK154.out 4).trans rfl, (blk_cell BK154.out 5).trans rfl⟩ (fun hHeld => ?_)
 clear hK K
 refine no_ (N := some 32) ?_
 refine pu_ (i := 23) (N := some 33) (bs_ 26 16777215) rfl rfl HT_ ?_
 refine pu_ (i := 24) (N := some 34) (bs_ 26 33554431) rfl rfl HT_ ?_
 refine one_ (i := 25) (N := none) (bs_ 26 67108863) rfl rfl (one_of HT_.out (by kernel_rfl)) (by decide) (fun K hK => ?_)
 have hs18 := bc_0 BK155
 have hfs18 := blk_frozen BK155.out 0
 have hns18_0 := NB154_155.out
 have hms18_0 := NB155_154.out
 have hs19 := bc_1 BK155
 have hfs19 := blk_frozen BK155.out 1
 have hns19_0 := NB154_155.out
 have hms19_0 := NB155_154.out
 have hs20 := bc_2 BK155
 have hfs20 := blk_frozen BK155.out 2
 have hns20_0 := NB154_155.out
 have hms20_0 := NB155_154.out
 have hs21 := bc_3 BK155
 have hfs21 := blk_frozen BK155.out 3
 have hns21_0 := NB154_155.out
 have hms21_0 := NB155_154.out
 have hs22 := bc_4 BK155
 have hfs22 := blk_frozen BK155.out 4
 have hns22_0 := NB154_155.out
 have hms22_0 := NB155_154.out
 have hs23 := bc_5 BK155
 have hfs23 := blk_frozen BK155.out 5
 have hns23_0 := NB154_155.out
 have hms23_0 := NB155_154.out
 refine skip_ (w1 := ?_) (by rfl) rfl ?_ ?_
 rotate_left
 ·
  go_simp
  rfl
 refine hK.out _ _ ⟨((cell_far (p := ⟨gb155, _, none⟩) NB154_155.out _).trans (((cell_far (p := ⟨gb155, _, none⟩) NB154_155.out _).trans (((cell_far (p := ⟨gb155, _, none⟩) NB154_155.out _).trans (((cell_far (p := ⟨gb155, _, none⟩) NB154_155.out _).trans (((cell_far (p := ⟨gb155, _, none⟩) NB154_155.out _).trans (((cell_far (p := ⟨gb155, _, none⟩) NB154_155.out _).trans (hHeld.1)))))))))))), ((cell_far (p := ⟨gb155, _, none⟩) NB154_155.out _).trans (((cell_far (p := ⟨gb155, _, none⟩) NB154_155.out _).trans (((cell_far (p := ⟨gb155, _, none⟩) NB154_155.out _).trans (((cell_far (p := ⟨gb155, _, none⟩) NB154_155.out _).trans (((cell_far (p := ⟨gb155, _, none⟩) NB154_155.out _).trans (((cell_far (p := ⟨gb155, _, none⟩) NB154_155.out _).trans (hHeld.2.1)))))))))))), ((cell_far (p := ⟨gb155, _, none⟩) NB154_155.out _).trans (((cell_far (p := ⟨gb155, _, none⟩) NB154_155.out _).trans (((cell_far (p := ⟨gb155, _, none⟩) NB154_155.out _).trans (((cell_far (p := ⟨gb155, _, none⟩) NB154_155.out _).trans (((cell_far (p := ⟨gb155, _, none⟩) NB154_155.out _).trans (((cell_far (p := ⟨gb155, _, none⟩) NB154_155.out _).trans (hHeld.2.2.1)))))))))))), ((cell_far (p := ⟨gb155, _, none⟩) NB154_155.out _).trans (((cell_far (p := ⟨gb155, _, none⟩) NB154_155.out _).trans (((cell_far (p := ⟨gb155, _, none⟩) NB154_155.out _).trans (((cell_far (p := ⟨gb155, _, none⟩) NB154_155.out _).trans (((cell_far (p := ⟨gb155, _, none⟩) NB154_155.out _).trans (((cell_far (p := ⟨gb155, _, none⟩) NB154_155.out _).trans (hHeld.2.2.2.1)))))))))))), ((cell_far (p := ⟨gb155, _, none⟩) NB154_155.out _).trans (((cell_far (p := ⟨gb155, _, none⟩) NB154_155.out _).trans (((cell_far (p := ⟨gb155, _, none⟩) NB154_155.out _).trans (((cell_far (p := ⟨gb155, _, none⟩) NB154_155.out _).trans (((cell_far (p := ⟨gb155, _, none⟩) NB154_155.out _).trans (((cell_far (p := ⟨gb155, _, none⟩) NB154_155.out _).trans (hHeld.2.2.2.2.1)))))))))))), ((cell_far (p := ⟨gb155, _, none⟩) NB154_155.out _).trans (((cell_far (p := ⟨gb155, _, none⟩) NB154_155.out _).trans (((cell_far (p := ⟨gb155, _, none⟩) NB154_155.out _).trans (((cell_far (p := ⟨gb155, _, none⟩) NB154_155.out _).trans (((cell_far (p := ⟨gb155, _, none⟩) NB154_155.out _).trans (((cell_far (p := ⟨gb155, _, none⟩) NB154_155.out _).trans (hHeld.2.2.2.2.2))))))))))))⟩ (fun hHeld => ?_)
 clear hK K
 refine done_ (done_of HT_.out (by kernel_rfl)) ?_
 try go_wp2
 refine bodyPost_ret (results_cell_row rfl _ _ gb155 23 #[.int .i64 (wrap64 (1 + t161)), .int .i64 (wrap64 ((wrap64 (2 * (rd y156 t159))) * (wrap64 (1 + t162)))), .int .i64 (rd y156 t159), .int .i64 (wrap64 (1 + t163)), .int .i64 (wrap64 (2 + t164)), .int .i64 (wrap64 (4 + t165))] (0, 0) _ rfl (by (with_reducible repeat (first | refine k_n ?_ _ | refine k_d ?_ | refine k_a ?_ _)); refine blk_put (cs := #[.int .i64 (wrap64 (1 + t161)), .int .i64 (wrap64 ((wrap64 (2 * (rd y156 t159))) * (wrap64 (1 + t162)))), .int .i64 (rd y156 t159), .int .i64 (wrap64 (1 + t163)), .int .i64 (wrap64 (2 + t164)), .int .i64 0]) ?_ 5 _ rfl; (with_reducible repeat (first | refine k_n ?_ _ | refine k_d ?_ | refine k_a ?_ _)); refine blk_put (cs := #[.int .i64 (wrap64 (1 + t161)), .int .i64 (wrap64 ((wrap64 (2 * (rd y156 t159))) * (wrap64 (1 + t162)))), .int .i64 (rd y156 t159), .int .i64 (wrap64 (1 + t163)), .int .i64 0, .int .i64 0]) ?_ 4 _ rfl; (with_reducible repeat (first | refine k_n ?_ _ | refine k_d ?_ | refine k_a ?_ _)); refine blk_put (cs := #[.int .i64 (wrap64 (1 + t161)), .int .i64 (wrap64 ((wrap64 (2 * (rd y156 t159))) * (wrap64 (1 + t162)))), .int .i64 (rd y156 t159), .int .i64 0, .int .i64 0, .int .i64 0]) ?_ 3 _ rfl; (with_reducible repeat (first | refine k_n ?_ _ | refine k_d ?_ | refine k_a ?_ _)); refine blk_put (cs := #[.int .i64 (wrap64 (1 + t161)), .int .i64 (wrap64 ((wrap64 (2 * (rd y156 t159))) * (wrap64 (1 + t162)))), .int .i64 0, .int .i64 0, .int .i64 0, .int .i64 0]) ?_ 2 _ rfl; (with_reducible repeat (first | refine k_n ?_ _ | refine k_d ?_ | refine k_a ?_ _)); refine blk_put (cs := #[.int .i64 (wrap64 (1 + t161)), .int .i64 0, .int .i64 0, .int .i64 0, .int .i64 0, .int .i64 0]) ?_ 1 _ rfl; (with_reducible repeat (first | refine k_n ?_ _ | refine k_d ?_ | refine k_a ?_ _)); refine blk_put (cs := #[.int .i64 0, .int .i64 0, .int .i64 0, .int .i64 0, .int .i64 0, .int .i64 0]) ?_ 0 _ rfl; (with_reducible repeat (first | refine k_n ?_ _ | refine k_d ?_ | refine k_a ?_ _)); exact BK155.out) Try.underlying23 rfl (by kernel_rfl)) rfl ?_
 exact ⟨by first | rfl | (simp [errW_none, errW_some] <;> rfl) | (simp [*, errW_none, errW_some] <;> rfl), by repeat (first | (with_reducible first | exact HB.out | apply b_a | apply b_n | apply b_d | refine b_s ?_ GE154.out | refine b_s ?_ GE155.out) | exact HB.out)⟩
end Go.Proofs.Ytijkcjlkfjeedaa.QSliceOwns
