-- Written by a program of this session (a turned copy of the print) out of the translation. Lean checks it.
import Derived.Test.YtggcgacndknlaaaQGridBackx0
import Derived.Test.YtggcgacndknlaaaQGridBackx1
import Derived.Test.YtggcgacndknlaaaQGridBackx2
import Derived.Test.YtggcgacndknlaaaQGridBackx3
namespace Go.Proofs.Ytggcgacndknlaaa.QGridBack
open Go.RowKit Go.Proofs.YtggcgacndknlaaaW.PrintWords Go.Proofs.YtggcgacndknlaaaW.PrintLast Go.Proofs.YtggcgacndknlaaaW.PrintMore
attribute [local go_sem] max2_int min2_int max_two min_two max_three min_three max_four min_four   -- for this text's walks alone
open Go.Proofs.YtggcgacndknlaaaW.PrintWords renaming below_alloc → b_a, pw_below_drewN → b_n, below_drew1 → b_d, below_set → b_s, blk_drewN → k_n, blk_drew → k_d, blk_alloc → k_a
open List renaming setIfInBounds_toArray → l_1, set_cons_zero → l_2, set_cons_succ → l_3, map_toArray → l_4, map_cons → l_5, map_nil → l_6, length_drop → l_7, length_take → l_8
set_option linter.unusedVariables false
set_option linter.unusedSimpArgs false

/-! ### pelotonlaw03_awake: function 10, by hand -/
def pelotonlaw03_awake.T5 : Bool × List (List Nat × List Nat) := (true, [([], []), ([0], [0]), ([1], [1]), ([2], [2]), ([2], [2]), ([4, 2], [2, 4]), ([3, 5, 2, 2], [2, 3, 5]), ([2, 6], [2, 6]), ([7, 6], [7]), ([8], [8]), ([9, 8], [8, 9]), ([8, 10], [8, 10]), ([11, 8], [11]), ([12], [12]), ([12], [12]), ([14, 12, 12], [12, 14]), ([13, 15, 15, 12], [12, 13, 15]), ([12, 16], [12, 16]), ([17, 16], [17]), ([18], [18]), ([19, 18], [18, 19]), ([18, 20], [18, 20]), ([21, 18, 0, 1, 2, 3, 4, 5, 6, 7, 8, 9, 10, 11, 12, 13, 14, 15, 16, 17, 18, 19, 20, 21], [21])])
def pelotonlaw03_awake.B5 : List Nat := [0, 1, 3, 7, 7, 23, 63, 127, 255, 511, 1023, 2047, 4095, 8191, 8191, 24575, 65535, 131071, 262143, 524287, 1048575, 2097151, 4194303]
theorem pelotonlaw03_awake.tab5 : rtab .any (opsOf Try.f10 5) = pelotonlaw03_awake.T5 := by kernel_rfl
theorem pelotonlaw03_awake.bits5 : waitsOk pelotonlaw03_awake.T5.2 pelotonlaw03_awake.B5 = true := by kernel_rfl
def pelotonlaw03_awake.f : Option Bool := some true
theorem pelotonlaw03_awake.times : grid_Times.f 50 2 2 [1, 2, 3, 4] 2 1 [1, 1] = some (2, 1, [3, 7], 0) := by decide +kernel
theorem pelotonlaw03_awake.turn : grid_Turn.f 50 2 2 [1, 2, 3, 4] = some (2, 2, [1, 3, 2, 4], 0) := by decide +kernel
theorem pelotonlaw03_awake.stack : grid_Stack.f 50 [(⟨2, 2, [1, 2, 3, 4]⟩ : S24), ⟨1, 3, [1, 2, 3]⟩] = some (0, 0, [], 30) := by decide +kernel
theorem pelotonlaw03_awake.same1 : pelotonref03_Same.f 50 2 1 [3, 7] 2 1 [3, 7] = some true := by decide +kernel
theorem pelotonlaw03_awake.same2 : pelotonref03_Same.f 50 2 2 [1, 3, 2, 4] 2 2 [1, 3, 2, 4] = some true := by decide +kernel
theorem pelotonlaw03_awake.two1 : pelotonlaw03_two.f [1, 2, 3, 4] = some (2, 2, [1, 2, 3, 4]) := by decide +kernel
theorem pelotonlaw03_awake.two2 : pelotonlaw03_two.f [1, 3, 2, 4] = some (2, 2, [1, 3, 2, 4]) := by decide +kernel
set_option maxHeartbeats 8000000 in
set_option maxRecDepth 100000 in
theorem pelotonlaw03_awake.calls (r : Bool) (w : World) (h : pelotonlaw03_awake.f = some r) :
    Calls Try.prog 10 #[] w fun e w' => e = .returned (.bool r) ∧ Below w.heap.size w w' := by
  obtain rfl := Option.some.inj h
  clear h
  have hu24 := Try.underlying24
  have HB := Aside0.mk (Below.refl w.heap.size w)
  go_enter Try.func10, Try.ntmps10
  go_upto_region 2 with (first | ((with_reducible refine gate_dst (N := 8) rfl ?_); refine Kd.R_lit (Kd.int .i32) _ 21 ?hg (N := 8) ?hd (xs := ([1, 2, 3, 4] : List Int)) (inner := [.int .i32 1, .int .i32 2, .int .i32 3, .int .i32 4]) (ok := fun _ => True) (okp := fun _ => True) ?hr ?hp (fun _ hk => hk) trivial (Below.refl _ _) (Nat.le_refl _) (by simp) ?_; (case hd => rfl); (case hg => rfl); (case hr => first | (go_simp; done) | (go_simp; rfl)); (case hp => exact (Reps.one (show Kd.M (Kd.int .i32) _ _ _ 1 [.int .i32 1] from rfl) (Reps.one (show Kd.M (Kd.int .i32) _ _ _ 2 [.int .i32 2] from rfl) (Reps.one (show Kd.M (Kd.int .i32) _ _ _ 3 [.int .i32 3] from rfl) (Reps.one (show Kd.M (Kd.int .i32) _ _ _ 4 [.int .i32 4] from rfl) (Reps.none _ _)))))); intro v1 w1 ho hb hg_ hnew_; clear hg_ hnew_; have HO1 := Aside0.mk ho; have HB1 := Aside0.mk hb; clear ho hb) | (go_at_call 18; (refine (pelotonlaw03_two.calls (fun _ => True) v1 [1, 2, 3, 4] 2 2 [1, 2, 3, 4] w _ HB1.out HO1.out pelotonlaw03_awake.two1).mono ?_); rintro e w2 ⟨v2, rfl, ho, hb, _⟩; obtain ⟨A1, c1, e_⟩ := Kd.R_slice ho; (have e1_ : v2 = .slice A1 4 c1 := e_); clear e_; subst e1_; have CG0 := Aside0.mk (Kd.R_reads' ho).2.2; have LG := Aside0.mk (show 4 ≤ c1 from (Kd.R_reads' ho).2.1); have HB2 := Aside0.mk hb; clear ho hb) | ((with_reducible refine gate_dst (N := 1) rfl ?_); refine box_event ?hg (N := 1) ?hd (cs := #[.int .i64 0, .int .i64 0, .slice none 0 0]) (t := 24) ?hr ?_; (case hd => rfl); (case hg => rfl); (case hr => first | (go_simp; done) | (go_simp; rfl)); intro g1 hg_ wb hbox hbb; have BZ := Aside0.mk (fun u v x => below3 (u := u) (v := v) (x := x) hbb (Nat.le_of_eq hg_.symm)); have KZ := Aside0.mk (fun u v x => put3 (u := u) (v := v) (x := x) hbox); obtain ⟨b1, b2, b3, b4, b5, b6⟩ := cell3 hbox; clear hg_ hbox hbb))
  have BX := Aside0.mk (BZ.out (.int .i64 2) (.int .i64 2) (.slice A1 4 c1))
  have K1 := Aside0.mk (KZ.out (.int .i64 2) (.int .i64 2) (.slice A1 4 c1))
  generalize hW : ((wb.setCell ⟨g1, 0, none⟩ (.int .i64 2)).setCell ⟨g1, 1, none⟩ (.int .i64 2)).setCell ⟨g1, 2, none⟩ (.slice A1 4 c1) = W1 at *
  clear hW BZ KZ b1 b2 b3 b4 b5 b6
  have n_ := Aside0.mk (Kd.C_below CG0.out BX.out)
  have CG := n_
  clear n_
  have n_ := Aside0.mk (below_step HB2.out BX.out)
  have B := n_
  clear n_
  clear CG0 HB1 HB2 HO1 BX
  obtain ⟨x1, y1, z1, _, _, _⟩ := cell3 K1.out
  go_upto_region 3 with (first | ((with_reducible refine gate_dst (N := 12) rfl ?_); refine Kd.R_lit (Kd.int .i32) _ 21 ?hg (N := 12) ?hd (xs := ([1, 1] : List Int)) (inner := [.int .i32 1, .int .i32 1]) (ok := fun _ => True) (okp := fun _ => True) ?hr ?hp (fun _ hk => hk) trivial (Below.refl _ _) (Nat.le_refl _) (by simp) ?_; (case hd => rfl); (case hg => rfl); (case hr => first | (go_simp; done) | (go_simp; rfl)); (case hp => exact (Reps.one (show Kd.M (Kd.int .i32) _ _ _ 1 [.int .i32 1] from rfl) (Reps.one (show Kd.M (Kd.int .i32) _ _ _ 1 [.int .i32 1] from rfl) (Reps.none _ _)))); intro v4 w4 ho hb hg_ hnew_; clear hg_ hnew_; obtain ⟨A4, c4, e_⟩ := Kd.R_slice ho; (have e1_ : v4 = .slice A4 2 c4 := e_); clear e_; subst e1_; have C4 := Aside0.mk (Kd.R_reads' ho).2.2; have L4 := Aside0.mk (show 2 ≤ c4 from (Kd.R_reads' ho).2.1); have HB4 := Aside0.mk hb; clear ho hb) | (go_at_call 12; (refine (grid_Times.calls 50 2 2 A1 c1 [1, 2, 3, 4] 2 1 A4 c4 [1, 1] 2 1 [3, 7] 0 _ (Kd.C_below CG.out HB4.out) LG.out C4.out L4.out pelotonlaw03_awake.times).mono ?_); rintro e w5 ⟨v5, rfl, ho, hb⟩; obtain ⟨A5, c5, e_⟩ := Kd.R_slice ho; (have e1_ : v5 = .slice A5 2 c5 := e_); clear e_; subst e1_; have C5 := Aside0.mk (Kd.R_reads' ho).2.2; have L5 := Aside0.mk (show 2 ≤ c5 from (Kd.R_reads' ho).2.1); have HB5 := Aside0.mk (below_step HB4.out hb); clear ho hb) | ((with_reducible refine gate_dst (N := 2) rfl ?_); refine box_event ?hg (N := 2) ?hd (cs := #[.int .i64 0, .int .i64 0, .slice none 0 0]) (t := 24) ?hr ?_; (case hd => rfl); (case hg => rfl); (case hr => first | (go_simp; done) | (go_simp; rfl)); intro g2 hg_ wb hbox hbb; have BZ := Aside0.mk (fun u v x => below3 (u := u) (v := v) (x := x) hbb (Nat.le_of_eq hg_.symm)); have KZ := Aside0.mk (fun u v x => put3 (u := u) (v := v) (x := x) hbox); obtain ⟨b1, b2, b3, b4, b5, b6⟩ := cell3 hbox; clear hg_ hbox hbb))
  have BX := Aside0.mk (BZ.out (.int .i64 2) (.int .i64 1) (.slice A5 2 c5))
  have K2 := Aside0.mk (KZ.out (.int .i64 2) (.int .i64 1) (.slice A5 2 c5))
  generalize hW : ((wb.setCell ⟨g2, 0, none⟩ (.int .i64 2)).setCell ⟨g2, 1, none⟩ (.int .i64 1)).setCell ⟨g2, 2, none⟩ (.slice A5 2 c5) = W2 at *
  clear hW BZ KZ b1 b2 b3 b4 b5 b6
  have n_ := Aside0.mk (below_step HB5.out BX.out)
  have BB := n_
  clear n_
  have n_ := Aside0.mk (Kd.C_below CG.out BB.out)
  clear CG
  have CG := n_
  clear n_
  have n_ := Aside0.mk (blk_below K1.out BB.out)
  have K1 := n_
  clear n_
  have n_ := Aside0.mk (below_step B.out BB.out)
  clear B
  have B := n_
  clear n_
  have n_ := Aside0.mk (Kd.C_below C5.out BX.out)
  have CA := n_
  clear n_
  clear C4 L4 HB4 C5 HB5 BX BB x1 y1 z1
  obtain ⟨x1, y1, z1, _, _, _⟩ := cell3 K1.out
  go_upto_region 4 with (first | (go_at_call 22; (refine (grid_Turn.calls 50 2 2 A1 c1 [1, 2, 3, 4] 2 2 [1, 3, 2, 4] 0 _ CG.out LG.out pelotonlaw03_awake.turn).mono ?_); rintro e w6 ⟨v6, rfl, ho, hb⟩; obtain ⟨A6, c6, e_⟩ := Kd.R_slice ho; (have e1_ : v6 = .slice A6 4 c6 := e_); clear e_; subst e1_; have C6 := Aside0.mk (Kd.R_reads' ho).2.2; have L6 := Aside0.mk (show 4 ≤ c6 from (Kd.R_reads' ho).2.1); have HB6 := Aside0.mk hb; clear ho hb) | ((with_reducible refine gate_dst (N := 4) rfl ?_); refine box_event ?hg (N := 4) ?hd (cs := #[.int .i64 0, .int .i64 0, .slice none 0 0]) (t := 24) ?hr ?_; (case hd => rfl); (case hg => rfl); (case hr => first | (go_simp; done) | (go_simp; rfl)); intro g4 hg_ wb hbox hbb; have BZ := Aside0.mk (fun u v x => below3 (u := u) (v := v) (x := x) hbb (Nat.le_of_eq hg_.symm)); have KZ := Aside0.mk (fun u v x => put3 (u := u) (v := v) (x := x) hbox); obtain ⟨b1, b2, b3, b4, b5, b6⟩ := cell3 hbox; clear hg_ hbox hbb))
  have BX := Aside0.mk (BZ.out (.int .i64 2) (.int .i64 2) (.slice A6 4 c6))
  have K4 := Aside0.mk (KZ.out (.int .i64 2) (.int .i64 2) (.slice A6 4 c6))
  generalize hW : ((wb.setCell ⟨g4, 0, none⟩ (.int .i64 2)).setCell ⟨g4, 1, none⟩ (.int .i64 2)).setCell ⟨g4, 2, none⟩ (.slice A6 4 c6) = W3 at *
  clear hW BZ KZ b1 b2 b3 b4 b5 b6
  have n_ := Aside0.mk (below_step HB6.out BX.out)
  have BB := n_
  clear n_
  have n_ := Aside0.mk (Kd.C_below CG.out BB.out)
  clear CG
  have CG := n_
  clear n_
  have n_ := Aside0.mk (Kd.C_below CA.out BB.out)
  clear CA
  have CA := n_
  clear n_
  have n_ := Aside0.mk (blk_below K1.out BB.out)
  clear K1
  have K1 := n_
  clear n_
  have n_ := Aside0.mk (blk_below K2.out BB.out)
  have K2 := n_
  clear n_
  have n_ := Aside0.mk (below_step B.out BB.out)
  clear B
  have B := n_
  clear n_
  have n_ := Aside0.mk (Kd.C_below C6.out BX.out)
  have CT := n_
  clear n_
  clear C6 HB6 BX BB x1 y1 z1
  obtain ⟨x1, y1, z1, _, _, _⟩ := cell3 K1.out
  go_upto_region 5 with (first | ((with_reducible refine gate_dst (N := 24) rfl ?_); refine Kd.R_lit (Kd.int .i32) _ 21 ?hg (N := 24) ?hd (xs := ([1, 2, 3] : List Int)) (inner := [.int .i32 1, .int .i32 2, .int .i32 3]) (ok := fun _ => True) (okp := fun _ => True) ?hr ?hp (fun _ hk => hk) trivial (Below.refl _ _) (Nat.le_refl _) (by simp) ?_; (case hd => rfl); (case hg => rfl); (case hr => first | (go_simp; done) | (go_simp; rfl)); (case hp => exact (Reps.one (show Kd.M (Kd.int .i32) _ _ _ 1 [.int .i32 1] from rfl) (Reps.one (show Kd.M (Kd.int .i32) _ _ _ 2 [.int .i32 2] from rfl) (Reps.one (show Kd.M (Kd.int .i32) _ _ _ 3 [.int .i32 3] from rfl) (Reps.none _ _))))); intro v7 w7 ho hb hg_ hnew_; clear hg_ hnew_; obtain ⟨A7, c7, e_⟩ := Kd.R_slice ho; (have e1_ : v7 = .slice A7 3 c7 := e_); clear e_; subst e1_; have C7 := Aside0.mk (Kd.R_reads' ho).2.2; have L7 := Aside0.mk (show 3 ≤ c7 from (Kd.R_reads' ho).2.1); have HB7 := Aside0.mk hb; clear ho hb) | ((with_reducible refine gate_dst (N := 26) rfl ?_); refine Kd.N_lit k24 _ 24 ?hg (N' := 26) ?hd (xs := ([(⟨2, 2, [1, 2, 3, 4]⟩ : S24), ⟨1, 3, [1, 2, 3]⟩] : List S24)) (inner := [.int .i64 2, .int .i64 2, .slice A1 4 c1, .int .i64 1, .int .i64 3, .slice A7 3 c7]) (ok := fun _ => True) (okp := fun _ => True) ?hr ?hp (fun _ hk => hk) trivial (Below.refl _ _) (Nat.le_refl _) (by simp) ?_; (case hd => rfl); (case hg => rfl); (case hr => first | (go_simp; done) | (go_simp; rfl)); (case hp => exact (Reps.c3 (fk24 (⟨2, 2, [1, 2, 3, 4]⟩ : S24) LG.out (Kd.C_below CG.out HB7.out)) (Reps.c3 (fk24 (⟨1, 3, [1, 2, 3]⟩ : S24) L7.out C7.out) (Reps.none _ _)))); intro v8 w8 ho hb hg_ hnew_; clear hg_ hnew_; obtain ⟨A8, c8, e_⟩ := Kd.N_slice ho; (have e1_ : v8 = .slice A8 2 c8 := e_); clear e_; subst e1_; have HO8 := Aside0.mk ho; have HB8 := Aside0.mk (below_step HB7.out hb); clear ho hb) | (go_at_call 24; (refine (grid_Stack.calls 50 A8 c8 [(⟨2, 2, [1, 2, 3, 4]⟩ : S24), ⟨1, 3, [1, 2, 3]⟩] 0 0 [] 30 _ (Kd.N_reads' HO8.out).2.2 (Kd.N_reads' HO8.out).2.1 pelotonlaw03_awake.stack).mono ?_); rintro e w9 ⟨v9, rfl, ho, hb⟩; obtain ⟨A9, c9, e_⟩ := Kd.R_slice ho; (have e1_ : v9 = .slice A9 0 c9 := e_); clear e_; subst e1_; have HB9 := Aside0.mk (below_step HB8.out hb); clear ho hb) | ((with_reducible refine gate_dst (N := 6) rfl ?_); refine box_event ?hg (N := 6) ?hd (cs := #[.int .i64 0, .int .i64 0, .slice none 0 0]) (t := 24) ?hr ?_; (case hd => rfl); (case hg => rfl); (case hr => first | (go_simp; done) | (go_simp; rfl)); intro g6 hg_ wb hbox hbb; have BZ := Aside0.mk (fun u v x => below3 (u := u) (v := v) (x := x) hbb (Nat.le_of_eq hg_.symm)); have KZ := Aside0.mk (fun u v x => put3 (u := u) (v := v) (x := x) hbox); obtain ⟨b1, b2, b3, b4, b5, b6⟩ := cell3 hbox; clear hg_ hbox hbb))
  have BX := Aside0.mk (BZ.out (.int .i64 0) (.int .i64 0) (.slice A9 0 c9))
  have K6 := Aside0.mk (KZ.out (.int .i64 0) (.int .i64 0) (.slice A9 0 c9))
  generalize hW : ((wb.setCell ⟨g6, 0, none⟩ (.int .i64 0)).setCell ⟨g6, 1, none⟩ (.int .i64 0)).setCell ⟨g6, 2, none⟩ (.slice A9 0 c9) = W4 at *
  clear hW BZ KZ b1 b2 b3 b4 b5 b6
  have n_ := Aside0.mk (below_step HB9.out BX.out)
  have BB := n_
  clear n_
  have n_ := Aside0.mk (Kd.C_below CA.out BB.out)
  clear CA
  have CA := n_
  clear n_
  have n_ := Aside0.mk (Kd.C_below CT.out BB.out)
  clear CT
  have CT := n_
  clear n_
  have n_ := Aside0.mk (blk_below K2.out BB.out)
  clear K2
  have K2 := n_
  clear n_
  have n_ := Aside0.mk (blk_below K4.out BB.out)
  have K4 := n_
  clear n_
  have n_ := Aside0.mk (below_step B.out BB.out)
  clear B
  have B := n_
  clear n_
  clear C7 L7 HB7 HB8 HB9 HO8 BX BB x1 y1 z1 K1 K6 CG LG
  have n1_ := Aside0.mk (k_d K2.out)
  have n2_ := Aside0.mk (k_d K4.out)
  have n3_ := Aside0.mk (b_d B.out)
  have n4_ := Aside0.mk (Kd.C_drew CA.out)
  have n5_ := Aside0.mk (Kd.C_drew CT.out)
  clear K2 K4 B CA CT
  have K2 := n1_
  have K4 := n2_
  have B := n3_
  have CA := n4_
  have CT := n5_
  clear n1_ n2_ n3_ n4_ n5_
  refine start_ (n := 23) (S := fun W_ => (W_.cell? ⟨g2, 0, none⟩ = some (.int .i64 2) ∧ W_.cell? ⟨g2, 1, none⟩ = some (.int .i64 1) ∧ W_.cell? ⟨g2, 2, none⟩ = some (.slice A5 2 c5)) ∧ W_.cell? ⟨g4, 0, none⟩ = some (.int .i64 2) ∧ W_.cell? ⟨g4, 1, none⟩ = some (.int .i64 2) ∧ W_.cell? ⟨g4, 2, none⟩ = some (.slice A6 4 c6)) (ds := []) #[false, false, false, false, false, false, false, false, false, false, false, false, false, false, false, false, false, false, false, false, false, false, false] (by kernel_rfl) rfl rfl ⟨⟨(cell3 K2.out).1, (cell3 K2.out).2.1, (cell3 K2.out).2.2.1⟩, (cell3 K4.out).1, (cell3 K4.out).2.1, (cell3 K4.out).2.2.1⟩ (fun hHeld => ?_); refine with_tabW pelotonlaw03_awake.tab5 pelotonlaw03_awake.bits5 (fun HT_ HW_ => ?_)
  generalize W4.drew = w10 at K2 K4 B CA CT hHeld ⊢
  refine pure_ (i := 0) (N := some 30) (v := ?_) (a' := ?_) #[true, false, false, false, false, false, false, false, false, false, false, false, false, false, false, false, false, false, false, false, false, false, false] rfl rfl (any_of HT_.out (by kernel_rfl)) (fun _ _ _ h => h) (Or.inl ⟨by rfl, ?_⟩) ?_ ?_
  rotate_left
  ·
    intro w'
    go_simp
    with_reducible rfl
  rotate_left
  ·
    simp only [Act.put, l_1, l_2, l_3, i64_w, i32_w]
    rfl
  refine pure_ (i := 1) (N := some 31) (v := ?_) (a' := ?_) #[true, true, false, false, false, false, false, false, false, false, false, false, false, false, false, false, false, false, false, false, false, false, false] rfl rfl (any_of HT_.out (by kernel_rfl)) (fun _ _ _ h => h) (Or.inl ⟨by rfl, ?_⟩) ?_ ?_
  rotate_left
  ·
    intro w'
    go_simp
    with_reducible rfl
  rotate_left
  ·
    simp only [Act.put, l_1, l_2, l_3, i64_w, i32_w]
    rfl
  refine pure_ (i := 2) (N := some 32) (v := ?_) (a' := ?_) #[true, true, true, false, false, false, false, false, false, false, false, false, false, false, false, false, false, false, false, false, false, false, false] rfl rfl (any_of HT_.out (by kernel_rfl)) (fun _ _ _ h => h) (Or.inl ⟨by rfl, ?_⟩) ?_ ?_
  rotate_left
  ·
    intro w'
    go_simp
    with_reducible rfl
  rotate_left
  ·
    simp only [Act.put, l_1, l_2, l_3, i64_w, i32_w]
    rfl
  refine take_ (i := 3) (N := some 33) (v := ?_) (a' := ?_) #[true, true, true, true, false, false, false, false, false, false, false, false, false, false, false, false, false, false, false, false, false, false, false] rfl rfl (take_ofW HT_.out HW_.out (by kernel_rfl)) (fun _ _ _ h => h) (Or.inl ⟨by rfl, ?_⟩) hHeld ?_ ?_
  rotate_left
  ·
    rintro w' ⟨⟨s0, s1, s2⟩, s3, s4, s5⟩
    go_simp
    with_reducible rfl
  rotate_left
  ·
    simp only [Act.put, l_1, l_2, l_3, i64_w, i32_w]
    rfl
  refine one_ (i := 4) (N := some 34) #[true, true, true, true, true, false, false, false, false, false, false, false, false, false, false, false, false, false, false, false, false, false, false] rfl rfl (one_of HT_.out (by kernel_rfl)) (by decide) (fun K hK => ?_)
  refine Kd.R_lit_step (Kd.int .i32) _ 21 ?hg (N := 34) ?hd (xs := ([3, 7] : List Int)) (inner := [.int .i32 3, .int .i32 7]) (ok := fun _ => True) (okp := fun _ => True) ?hr ?hp (fun _ hk => hk) trivial (Below.refl _ _) (Nat.le_refl _) (by simp) ?_; (case hd => rfl); (case hg => rfl); (case hr => first | (go_simp; done) | (go_simp; rfl)); (case hp => exact (Reps.one (show Kd.M (Kd.int .i32) _ _ _ 3 [.int .i32 3] from rfl) (Reps.one (show Kd.M (Kd.int .i32) _ _ _ 7 [.int .i32 7] from rfl) (Reps.none _ _)))); intro v11 w11 ho hb hg_ hnew_
  clear hg_ hnew_
  obtain ⟨A11, c11, e_⟩ := Kd.R_slice ho; (have e1_ : v11 = .slice A11 2 c11 := e_); clear e_; subst e1_
  have C11 := Aside0.mk (Kd.R_reads' ho).2.2
  have L11 := Aside0.mk (show 2 ≤ c11 from (Kd.R_reads' ho).2.1)
  have n1_ := Aside0.mk (blk_below K2.out hb)
  have n2_ := Aside0.mk (blk_below K4.out hb)
  have n3_ := Aside0.mk (below_step B.out hb)
  have n4_ := Aside0.mk (Kd.C_below CA.out hb)
  have n5_ := Aside0.mk (Kd.C_below CT.out hb)
  clear K2 K4 B CA CT
  have K2 := n1_
  have K4 := n2_
  have B := n3_
  have CA := n4_
  have CT := n5_
  clear n1_ n2_ n3_ n4_ n5_
  clear ho hb
  refine hK.out _ _ ⟨⟨(cell3 K2.out).1, (cell3 K2.out).2.1, (cell3 K2.out).2.2.1⟩, (cell3 K4.out).1, (cell3 K4.out).2.1, (cell3 K4.out).2.2.1⟩ (fun hHeld => ?_)
  clear hK K
  refine norm_ (a' := ?_) ?_ ?_
  rotate_left
  ·
    show Act.put _ (some 34) _ = _
    simp only [Act.put, l_1, l_2, l_3, i64_w, i32_w]
    rfl
  refine pure_ (i := 5) (N := some 35) (v := ?_) (a' := ?_) #[true, true, true, true, true, true, false, false, false, false, false, false, false, false, false, false, false, false, false, false, false, false, false] rfl rfl (any_of HT_.out (by kernel_rfl)) (fun _ _ _ h => h) (Or.inl ⟨by rfl, ?_⟩) ?_ ?_
  rotate_left
  ·
    intro w'
    go_simp
    with_reducible rfl
  rotate_left
  ·
    simp only [Act.put, l_1, l_2, l_3, i64_w, i32_w]
    rfl
  refine one_ (i := 6) (N := some 36) #[true, true, true, true, true, true, true, false, false, false, false, false, false, false, false, false, false, false, false, false, false, false, false] rfl rfl (one_of HT_.out (by kernel_rfl)) (by decide) (fun K hK => ?_)
  refine goes_ Try.func26 (by kernel_rfl) rfl #[.agg #[.int .i64 2, .int .i64 1, .slice A5 2 c5], .agg #[.int .i64 2, .int .i64 1, .slice A11 2 c11]] (by rfl) rfl rfl (by (try simp only [l_4, l_5, l_6]); first | done | rfl) ?_
  refine (pelotonref03_Same.calls 50 2 1 A5 c5 [3, 7] 2 1 A11 c11 [3, 7] true _ CA.out L5.out C11.out L11.out pelotonlaw03_awake.same1).mono ?_
  rintro e w12 ⟨rfl, hb⟩
  refine ⟨_, rfl, ?_⟩
  have n1_ := Aside0.mk (blk_below K2.out hb)
  have n2_ := Aside0.mk (blk_below K4.out hb)
  have n3_ := Aside0.mk (below_step B.out hb)
  have n4_ := Aside0.mk (Kd.C_below CA.out hb)
  have n5_ := Aside0.mk (Kd.C_below CT.out hb)
  clear K2 K4 B CA CT
  have K2 := n1_
  have K4 := n2_
  have B := n3_
  have CA := n4_
  have CT := n5_
  clear n1_ n2_ n3_ n4_ n5_
  clear hb
  refine hK.out _ _ ⟨⟨(cell3 K2.out).1, (cell3 K2.out).2.1, (cell3 K2.out).2.2.1⟩, (cell3 K4.out).1, (cell3 K4.out).2.1, (cell3 K4.out).2.2.1⟩ (fun hHeld => ?_)
  clear hK K
  refine norm_ (a' := ?_) ?_ ?_
  rotate_left
  ·
    show Act.put _ (some 36) _ = _
    simp only [Act.put, l_1, l_2, l_3, i64_w, i32_w]
    rfl
  refine pure_ (i := 7) (N := some 37) (v := ?_) (a' := ?_) #[true, true, true, true, true, true, true, true, false, false, false, false, false, false, false, false, false, false, false, false, false, false, false] rfl rfl (any_of HT_.out (by kernel_rfl)) (fun _ _ _ h => h) (Or.inl ⟨by rfl, ?_⟩) ?_ ?_
  rotate_left
  ·
    intro w'
    go_simp
    with_reducible rfl
  rotate_left
  ·
    simp only [Act.put, l_1, l_2, l_3, i64_w, i32_w]
    rfl
  refine pure_ (i := 8) (N := some 38) (v := ?_) (a' := ?_) #[true, true, true, true, true, true, true, true, true, false, false, false, false, false, false, false, false, false, false, false, false, false, false] rfl rfl (any_of HT_.out (by kernel_rfl)) (fun _ _ _ h => h) (Or.inl ⟨by rfl, ?_⟩) ?_ ?_
  rotate_left
  ·
    intro w'
    go_simp
    with_reducible rfl
  rotate_left
  ·
    simp only [Act.put, l_1, l_2, l_3, i64_w, i32_w]
    rfl
  refine pure_ (i := 9) (N := some 39) (v := ?_) (a' := ?_) #[true, true, true, true, true, true, true, true, true, true, false, false, false, false, false, false, false, false, false, false, false, false, false] rfl rfl (any_of HT_.out (by kernel_rfl)) (fun _ _ _ h => h) (Or.inl ⟨by rfl, ?_⟩) ?_ ?_
  rotate_left
  ·
    intro w'
    go_simp
    with_reducible rfl
  rotate_left
  ·
    simp only [Act.put, l_1, l_2, l_3, i64_w, i32_w]
    rfl
  refine pure_ (i := 10) (N := some 40) (v := ?_) (a' := ?_) #[true, true, true, true, true, true, true, true, true, true, true, false, false, false, false, false, false, false, false, false, false, false, false] rfl rfl (any_of HT_.out (by kernel_rfl)) (fun _ _ _ h => h) (Or.inl ⟨by rfl, ?_⟩) ?_ ?_
  rotate_left
  ·
    intro w'
    go_simp
    with_reducible rfl
  rotate_left
  ·
    simp only [Act.put, l_1, l_2, l_3, i64_w, i32_w]
    rfl
  refine pure_ (i := 11) (N := some 41) (v := ?_) (a' := ?_) #[true, true, true, true, true, true, true, true, true, true, true, true, false, false, false, false, false, false, false, false, false, false, false] rfl rfl (any_of HT_.out (by kernel_rfl)) (fun _ _ _ h => h) (Or.inl ⟨by rfl, ?_⟩) ?_ ?_
  rotate_left
  ·
    intro w'
    go_simp
    with_reducible rfl
  rotate_left
  ·
    simp only [Act.put, l_1, l_2, l_3, i64_w, i32_w]
    rfl
  refine pure_ (i := 12) (N := some 42) (v := ?_) (a' := ?_) #[true, true, true, true, true, true, true, true, true, true, true, true, true, false, false, false, false, false, false, false, false, false, false] rfl rfl (any_of HT_.out (by kernel_rfl)) (fun _ _ _ h => h) (Or.inl ⟨by rfl, ?_⟩) ?_ ?_
  rotate_left
  ·
    intro w'
    go_simp
    with_reducible rfl
  rotate_left
  ·
    simp only [Act.put, l_1, l_2, l_3, i64_w, i32_w]
    rfl
  refine take_ (i := 13) (N := some 43) (v := ?_) (a' := ?_) #[true, true, true, true, true, true, true, true, true, true, true, true, true, true, false, false, false, false, false, false, false, false, false] rfl rfl (take_ofW HT_.out HW_.out (by kernel_rfl)) (fun _ _ _ h => h) (Or.inl ⟨by rfl, ?_⟩) hHeld ?_ ?_
  rotate_left
  ·
    rintro w' ⟨⟨s0, s1, s2⟩, s3, s4, s5⟩
    go_simp
    with_reducible rfl
  rotate_left
  ·
    simp only [Act.put, l_1, l_2, l_3, i64_w, i32_w]
    rfl
  refine one_ (i := 14) (N := some 44) #[true, true, true, true, true, true, true, true, true, true, true, true, true, true, true, false, false, false, false, false, false, false, false] rfl rfl (one_of HT_.out (by kernel_rfl)) (by decide) (fun K hK => ?_)
  refine Kd.R_lit_step (Kd.int .i32) _ 21 ?hg (N := 44) ?hd (xs := ([1, 3, 2, 4] : List Int)) (inner := [.int .i32 1, .int .i32 3, .int .i32 2, .int .i32 4]) (ok := fun _ => True) (okp := fun _ => True) ?hr ?hp (fun _ hk => hk) trivial (Below.refl _ _) (Nat.le_refl _) (by simp) ?_; (case hd => rfl); (case hg => rfl); (case hr => first | (go_simp; done) | (go_simp; rfl)); (case hp => exact (Reps.one (show Kd.M (Kd.int .i32) _ _ _ 1 [.int .i32 1] from rfl) (Reps.one (show Kd.M (Kd.int .i32) _ _ _ 3 [.int .i32 3] from rfl) (Reps.one (show Kd.M (Kd.int .i32) _ _ _ 2 [.int .i32 2] from rfl) (Reps.one (show Kd.M (Kd.int .i32) _ _ _ 4 [.int .i32 4] from rfl) (Reps.none _ _)))))); intro v13 w13 ho hb hg_ hnew_
  clear hg_ hnew_
  have HO13 := Aside0.mk ho
  have HB13 := Aside0.mk hb
  have K2o := K2
  have K4o := K4
  have Bo := B
  have CAo := CA
  have CTo := CT
  have n1_ := Aside0.mk (blk_below K2.out hb)
  have n2_ := Aside0.mk (blk_below K4.out hb)
  have n3_ := Aside0.mk (below_step B.out hb)
  have n4_ := Aside0.mk (Kd.C_below CA.out hb)
  have n5_ := Aside0.mk (Kd.C_below CT.out hb)
  clear K2 K4 B CA CT
  have K2 := n1_
  have K4 := n2_
  have B := n3_
  have CA := n4_
  have CT := n5_
  clear n1_ n2_ n3_ n4_ n5_
  clear ho hb
  refine hK.out _ _ ⟨⟨(cell3 K2.out).1, (cell3 K2.out).2.1, (cell3 K2.out).2.2.1⟩, (cell3 K4.out).1, (cell3 K4.out).2.1, (cell3 K4.out).2.2.1⟩ (fun hHeld => ?_)
  clear hK K
  refine norm_ (a' := ?_) ?_ ?_
  rotate_left
  ·
    show Act.put _ (some 44) _ = _
    simp only [Act.put, l_1, l_2, l_3, i64_w, i32_w]
    rfl
  refine one_ (i := 15) (N := some 45) #[true, true, true, true, true, true, true, true, true, true, true, true, true, true, true, true, false, false, false, false, false, false, false] rfl rfl (one_of HT_.out (by kernel_rfl)) (by decide) (fun K hK => ?_)
  refine goes_ Try.func18 (by kernel_rfl) rfl #[v13] (by rfl) rfl rfl (by (try simp only [l_4, l_5, l_6]); first | done | rfl) ?_
  refine (pelotonlaw03_two.calls (fun _ => True) v13 [1, 3, 2, 4] 2 2 [1, 3, 2, 4] w12 _ HB13.out HO13.out pelotonlaw03_awake.two2).mono ?_
  rintro e w14 ⟨v14, rfl, ho, hb, _⟩
  obtain ⟨A14, c14, e_⟩ := Kd.R_slice ho; (have e1_ : v14 = .slice A14 4 c14 := e_); clear e_; subst e1_
  have C14 := Aside0.mk (Kd.R_reads' ho).2.2
  have L14 := Aside0.mk (show 4 ≤ c14 from (Kd.R_reads' ho).2.1)
  refine ⟨_, rfl, ?_⟩
  clear K2 K4 B CA CT
  have K2 := K2o
  have K4 := K4o
  have B := Bo
  have CA := CAo
  have CT := CTo
  clear K2o K4o Bo CAo CTo
  have n1_ := Aside0.mk (blk_below K2.out hb)
  have n2_ := Aside0.mk (blk_below K4.out hb)
  have n3_ := Aside0.mk (below_step B.out hb)
  have n4_ := Aside0.mk (Kd.C_below CA.out hb)
  have n5_ := Aside0.mk (Kd.C_below CT.out hb)
  clear K2 K4 B CA CT
  have K2 := n1_
  have K4 := n2_
  have B := n3_
  have CA := n4_
  have CT := n5_
  clear n1_ n2_ n3_ n4_ n5_
  clear ho hb
  refine hK.out _ _ ⟨⟨(cell3 K2.out).1, (cell3 K2.out).2.1, (cell3 K2.out).2.2.1⟩, (cell3 K4.out).1, (cell3 K4.out).2.1, (cell3 K4.out).2.2.1⟩ (fun hHeld => ?_)
  clear hK K
  refine norm_ (a' := ?_) ?_ ?_
  rotate_left
  ·
    show Act.put _ (some 45) _ = _
    simp only [Act.put, l_1, l_2, l_3, i64_w, i32_w]
    rfl
  refine one_ (i := 16) (N := some 46) #[true, true, true, true, true, true, true, true, true, true, true, true, true, true, true, true, true, false, false, false, false, false, false] rfl rfl (one_of HT_.out (by kernel_rfl)) (by decide) (fun K hK => ?_)
  refine goes_ Try.func26 (by kernel_rfl) rfl #[.agg #[.int .i64 2, .int .i64 2, .slice A6 4 c6], .agg #[.int .i64 2, .int .i64 2, .slice A14 4 c14]] (by rfl) rfl rfl (by (try simp only [l_4, l_5, l_6]); first | done | rfl) ?_
  refine (pelotonref03_Same.calls 50 2 2 A6 c6 [1, 3, 2, 4] 2 2 A14 c14 [1, 3, 2, 4] true _ CT.out L6.out C14.out L14.out pelotonlaw03_awake.same2).mono ?_
  rintro e w15 ⟨rfl, hb⟩
  refine ⟨_, rfl, ?_⟩
  have n1_ := Aside0.mk (blk_below K2.out hb)
  have n2_ := Aside0.mk (blk_below K4.out hb)
  have n3_ := Aside0.mk (below_step B.out hb)
  have n4_ := Aside0.mk (Kd.C_below CA.out hb)
  have n5_ := Aside0.mk (Kd.C_below CT.out hb)
  clear K2 K4 B CA CT
  have K2 := n1_
  have K4 := n2_
  have B := n3_
  have CA := n4_
  have CT := n5_
  clear n1_ n2_ n3_ n4_ n5_
  clear hb
  refine hK.out _ _ ⟨⟨(cell3 K2.out).1, (cell3 K2.out).2.1, (cell3 K2.out).2.2.1⟩, (cell3 K4.out).1, (cell3 K4.out).2.1, (cell3 K4.out).2.2.1⟩ (fun hHeld => ?_)
  clear hK K
  refine norm_ (a' := ?_) ?_ ?_
  rotate_left
  ·
    show Act.put _ (some 46) _ = _
    simp only [Act.put, l_1, l_2, l_3, i64_w, i32_w]
    rfl
  refine pure_ (i := 17) (N := some 47) (v := ?_) (a' := ?_) #[true, true, true, true, true, true, true, true, true, true, true, true, true, true, true, true, true, true, false, false, false, false, false] rfl rfl (any_of HT_.out (by kernel_rfl)) (fun _ _ _ h => h) (Or.inl ⟨by rfl, ?_⟩) ?_ ?_
  rotate_left
  ·
    intro w'
    go_simp
    with_reducible rfl
  rotate_left
  ·
    simp only [Act.put, l_1, l_2, l_3, i64_w, i32_w]
    rfl
  refine pure_ (i := 18) (N := some 48) (v := ?_) (a' := ?_) #[true, true, true, true, true, true, true, true, true, true, true, true, true, true, true, true, true, true, true, false, false, false, false] rfl rfl (any_of HT_.out (by kernel_rfl)) (fun _ _ _ h => h) (Or.inl ⟨by rfl, ?_⟩) ?_ ?_
  rotate_left
  ·
    intro w'
    go_simp
    with_reducible rfl
  rotate_left
  ·
    simp only [Act.put, l_1, l_2, l_3, i64_w, i32_w]
    rfl
  refine pure_ (i := 19) (N := some 49) (v := ?_) (a' := ?_) #[true, true, true, true, true, true, true, true, true, true, true, true, true, true, true, true, true, true, true, true, false, false, false] rfl rfl (any_of HT_.out (by kernel_rfl)) (fun _ _ _ h => h) (Or.inl ⟨by rfl, ?_⟩) ?_ ?_
  rotate_left
  ·
    intro w'
    go_simp
    with_reducible rfl
  rotate_left
  ·
    simp only [Act.put, l_1, l_2, l_3, i64_w, i32_w]
    rfl
  refine pure_ (i := 20) (N := some 50) (v := ?_) (a' := ?_) #[true, true, true, true, true, true, true, true, true, true, true, true, true, true, true, true, true, true, true, true, true, false, false] rfl rfl (any_of HT_.out (by kernel_rfl)) (fun _ _ _ h => h) (Or.inl ⟨by rfl, ?_⟩) ?_ ?_
  rotate_left
  ·
    intro w'
    go_simp
    with_reducible rfl
  rotate_left
  ·
    simp only [Act.put, l_1, l_2, l_3, i64_w, i32_w]
    rfl
  refine pure_ (i := 21) (N := some 51) (v := ?_) (a' := ?_) #[true, true, true, true, true, true, true, true, true, true, true, true, true, true, true, true, true, true, true, true, true, true, false] rfl rfl (any_of HT_.out (by kernel_rfl)) (fun _ _ _ h => h) (Or.inl ⟨by rfl, ?_⟩) ?_ ?_
  rotate_left
  ·
    intro w'
    go_simp
    with_reducible rfl
  rotate_left
  ·
    simp only [Act.put, l_1, l_2, l_3, i64_w, i32_w]
    rfl
  refine pure_ (i := 22) (N := some 0) (v := ?_) (a' := ?_) #[true, true, true, true, true, true, true, true, true, true, true, true, true, true, true, true, true, true, true, true, true, true, true] rfl rfl (any_of HT_.out (by kernel_rfl)) (fun _ _ _ h => h) (Or.inl ⟨by rfl, ?_⟩) ?_ ?_
  rotate_left
  ·
    intro w'
    go_simp
    with_reducible rfl
  rotate_left
  ·
    simp only [Act.put, l_1, l_2, l_3, i64_w, i32_w]
    rfl
  refine done_ (done_of HT_.out (by kernel_rfl)) ?_
  go_wp2
  go_ret
  exact ⟨rfl, B.out⟩
/-! ### pelotonlaw03_small: function 11 -/
def pelotonlaw03_small.l0 : Nat → List (S24) → Int → Option (Bool)
 | 0, _, _ => none
 | k + 1, x0, x3 => if x3 < (x0.length : Int) then (if x3 ≥ 12 then (some false) else (if 0 ≤ x3 then (if (((rd_T24 x0 x3).f2).length : Int) > 400 then (some false) else (pelotonlaw03_small.l0 k x0 (wrap64 (x3 + 1)))) else (none))) else (some true)
def pelotonlaw03_small.f (k : Nat) (l0 : List (S24)) : Option (Bool) := pelotonlaw03_small.l0 k l0 0
theorem pelotonlaw03_small.mono_l : ∀ k, (∀ y0 y1, LeO (pelotonlaw03_small.l0 k y0 y1) (pelotonlaw03_small.l0 (k + 1) y0 y1))
 | 0 => fun _ _ r h => by simp [pelotonlaw03_small.l0] at h
 | k + 1 => by
  have ih0 := pelotonlaw03_small.mono_l k
  ·
   intro y0 y1
   unfold pelotonlaw03_small.l0
   repeat' first
   | (with_reducible exact ih0 _ _)
   | (with_reducible exact LeO.refl _)
   | (with_reducible exact LeO.none _)
   | (with_reducible refine LeO.ite ?_ ?_)
   | (with_reducible refine LeO.bind ?_ (fun _ => ?_))
   | exact ih0 _ _
   | exact LeO.none _
   | refine LeO.ite ?_ ?_
   | refine LeO.bind ?_ (fun _ => ?_)
theorem pelotonlaw03_small.mono : ∀ a0 k, LeO (pelotonlaw03_small.f k a0) (pelotonlaw03_small.f (k + 1) a0) := by
 intro a0 k
 have ih0 := pelotonlaw03_small.mono_l k
 unfold pelotonlaw03_small.f
 repeat' first
   | (with_reducible exact ih0 _ _)
   | (with_reducible exact LeO.refl _)
   | (with_reducible exact LeO.none _)
   | (with_reducible refine LeO.ite ?_ ?_)
   | (with_reducible refine LeO.bind ?_ (fun _ => ?_))
   | exact ih0 _ _
   | exact LeO.none _
   | refine LeO.ite ?_ ?_
   | refine LeO.bind ?_ (fun _ => ?_)
set_option maxHeartbeats 60000000 in
set_option maxRecDepth 100000 in
theorem pelotonlaw03_small.calls (k : Nat) (A0 : Option Addr) (c0 : Nat) (l0 : List (S24)) (r : Bool) (w : World) (hr0 : Kd.C k24 w A0 l0.length l0) (hc0 : l0.length ≤ c0) (h : pelotonlaw03_small.f k l0 = some r) :
  Calls Try.prog 11 #[.slice A0 l0.length c0] w fun e w' => e = .returned (.bool r) ∧ Drawn0 w w' := by
 have HR0 := Aside0.mk hr0
 have HC0 := Aside0.mk hc0
 clear hr0 hc0
 have H : (pelotonlaw03_small.l0 k l0 0) = some r := h
 clear h
 have H' := Aside0.mk H
 clear H
 go_enter Try.func11, Try.ntmps11
 go_wp2
 go_loopg [3] k (fun kq v3 w' => ∃ (x3_1 : Int), v3 = .int .i64 x3_1 ∧ Aside0 (pelotonlaw03_small.l0 kq l0 x3_1 = some r) ∧ Aside0 (kq ≤ k) ∧ Drawn0 w w')
 case atStart => exact ⟨(0), (by first | rfl | (simp; done) | (simp [*]; done)), H', ⟨Nat.le_refl _⟩, by repeat (first | exact Drawn0.refl _ | apply Drawn0.step)⟩
 case round =>
  clear H'
  try clear c1
  obtain ⟨x3_1, rfl, HA, HK1, ⟨m1, rfl⟩⟩ := hrel
  cases gk with
  | zero => exact absurd HA.out (by simp [pelotonlaw03_small.l0])
  | succ k1 =>
   have H := HA.out
   clear HA
   simp only [pelotonlaw03_small.l0] at H
   by_cases c2 : x3_1 < (l0.length : Int)
   rotate_left
   ·
    rw [if_neg c2] at H
    have c2b0 : decide (x3_1 < (l0.length : Int)) = false := decide_eq_false c2
    clear c2
    obtain rfl := Option.some.inj H
    go_wp2
    go_ret
    exact ⟨by first | rfl | (simp; done) | (simp [*]; done), by repeat (first | exact Drawn0.refl _ | apply Drawn0.step)⟩

   rw [if_pos c2] at H
   have c2b0 : decide (x3_1 < (l0.length : Int)) = true := decide_eq_true c2
   clear c2
   by_cases c3 : x3_1 ≥ 12
   ·
    rw [if_pos c3] at H
    have c3b0 : decide (12 ≤ x3_1) = true := decide_eq_true c3
    clear c3
    obtain rfl := Option.some.inj H
    go_wp2
    go_ret
    exact ⟨by first | rfl | (simp; done) | (simp [*]; done), by repeat (first | exact Drawn0.refl _ | apply Drawn0.step)⟩
   rw [if_neg c3] at H
   have c3b0 : decide (12 ≤ x3_1) = false := decide_eq_false c3
   clear c3
   by_cases c4 : 0 ≤ x3_1
   rotate_left
   ·
    rw [if_neg c4] at H
    exact absurd H (by simp)
   rw [if_pos c4] at H
   have c4b0 : decide (0 ≤ x3_1) = true := decide_eq_true c4
   clear c4
   by_cases c5 : (((rd_T24 l0 x3_1).f2).length : Int) > 400
   ·
    rw [if_pos c5] at H
    have c5b0 : decide (400 < (((rd_T24 l0 x3_1).f2).length : Int)) = true := decide_eq_true c5
    have c5b1 : decide (400 < ((rd_T24 l0 x3_1).f2).length) = true := decide_eq_true (by omega)
    clear c5
    obtain rfl := Option.some.inj H
    have p125 : 0 ≤ (x3_1 : Int) := of_decide_eq_true (by first | (with_reducible assumption) | assumption)
    have q125 : x3_1 < (l0.length : Int) := of_decide_eq_true (by first | (with_reducible assumption) | assumption)
    obtain ⟨ad125, A125_2, c125_2, e125, hx125_0, hx125_1, hx125_2, hl125_2, hi125_2⟩ := at_T24 HR0.out x3_1 p125 q125
    cases e125
    have HR125_2 := Aside0.mk hi125_2
    have HC125_2 := Aside0.mk hl125_2
    clear hi125_2 hl125_2
    replace p125 := eq_true p125
    replace q125 := eq_true q125
    go_wp2
    go_ret
    exact ⟨by first | rfl | (simp; done) | (simp [*]; done), by repeat (first | exact Drawn0.refl _ | apply Drawn0.step)⟩
   rw [if_neg c5] at H
   have c5b0 : decide (400 < (((rd_T24 l0 x3_1).f2).length : Int)) = false := decide_eq_false c5
   have c5b1 : decide (400 < ((rd_T24 l0 x3_1).f2).length) = false := decide_eq_false (by omega)
   clear c5
   have H' := Aside0.mk H
   clear H
   have p125 : 0 ≤ (x3_1 : Int) := of_decide_eq_true (by first | (with_reducible assumption) | assumption)
   have q125 : x3_1 < (l0.length : Int) := of_decide_eq_true (by first | (with_reducible assumption) | assumption)
   obtain ⟨ad125, A125_2, c125_2, e125, hx125_0, hx125_1, hx125_2, hl125_2, hi125_2⟩ := at_T24 HR0.out x3_1 p125 q125
   cases e125
   have HR125_2 := Aside0.mk hi125_2
   have HC125_2 := Aside0.mk hl125_2
   clear hi125_2 hl125_2
   replace p125 := eq_true p125
   replace q125 := eq_true q125
   go_wp2
   go_roundg k1
   case measure => have := HK1.out; omega
   case rel => exact ⟨(wrap64 (x3_1 + 1)), (by first | rfl | (simp; done) | (simp [*]; done)), H', ⟨by have := HK1.out; omega⟩, by repeat (first | exact Drawn0.refl _ | apply Drawn0.step)⟩
/-! ### pelotonlaw03_held: function 14 -/
def pelotonlaw03_held.f (k : Nat) (a0_0 : Int) (a0_1 : Int) (l0_2 : List Int) (a1 : Int) (a2_0 : Int) (a2_1 : Int) (l2_2 : List Int) (a3 : Bool) : Option (Bool) := if a3 = true then (if a1 = 0 then ((pelotonref03_Same.f k a0_0 a0_1 l0_2 a2_0 a2_1 l2_2).bind fun t128 => (some t128)) else (some false)) else (if a1 = 30 then ((pelotonref03_Same.f k a0_0 a0_1 l0_2 0 0 ([] : List Int)).bind fun t129 => (some t129)) else (some false))
theorem pelotonlaw03_held.mono : ∀ a0 a1 a2 a3 a4 a5 a6 a7 k, LeO (pelotonlaw03_held.f k a0 a1 a2 a3 a4 a5 a6 a7) (pelotonlaw03_held.f (k + 1) a0 a1 a2 a3 a4 a5 a6 a7) := by
 intro a0 a1 a2 a3 a4 a5 a6 a7 k
 unfold pelotonlaw03_held.f
 repeat' first
   | (with_reducible exact pelotonref03_Same.mono _ _ _ _ _ _ _)
   | (with_reducible exact LeO.refl _)
   | (with_reducible exact LeO.none _)
   | (with_reducible refine LeO.ite ?_ ?_)
   | (with_reducible refine LeO.bind ?_ (fun _ => ?_))
   | exact pelotonref03_Same.mono _ _ _ _ _ _ _
   | exact LeO.none _
   | refine LeO.ite ?_ ?_
   | refine LeO.bind ?_ (fun _ => ?_)
set_option maxHeartbeats 60000000 in
set_option maxRecDepth 100000 in
theorem pelotonlaw03_held.calls (k : Nat) (a0_0 : Int) (a0_1 : Int) (A0_2 : Option Addr) (c0_2 : Nat) (l0_2 : List Int) (a1 : Int) (a2_0 : Int) (a2_1 : Int) (A2_2 : Option Addr) (c2_2 : Nat) (l2_2 : List Int) (a3 : Bool) (r : Bool) (w : World) (hr0_2 : Kd.C (Kd.int .i32) w A0_2 l0_2.length l0_2) (hc0_2 : l0_2.length ≤ c0_2) (hr2_2 : Kd.C (Kd.int .i32) w A2_2 l2_2.length l2_2) (hc2_2 : l2_2.length ≤ c2_2) (h : pelotonlaw03_held.f k a0_0 a0_1 l0_2 a1 a2_0 a2_1 l2_2 a3 = some r) :
  Calls Try.prog 14 #[.agg #[.int .i64 a0_0, .int .i64 a0_1, .slice A0_2 l0_2.length c0_2], .int .i64 a1, .agg #[.int .i64 a2_0, .int .i64 a2_1, .slice A2_2 l2_2.length c2_2], .bool a3] w fun e w' => e = .returned (.bool r) ∧ Below w.heap.size w w' := by
 have hu24 := Try.underlying24
 have HR0_2 := Aside0.mk hr0_2
 have HC0_2 := Aside0.mk hc0_2
 clear hr0_2 hc0_2
 have HR2_2 := Aside0.mk hr2_2
 have HC2_2 := Aside0.mk hc2_2
 clear hr2_2 hc2_2
 have HB := Aside0.mk (Below.refl w.heap.size w)
 have H : (if a3 = true then (if a1 = 0 then ((pelotonref03_Same.f k a0_0 a0_1 l0_2 a2_0 a2_1 l2_2).bind fun t128 => (some t128)) else (some false)) else (if a1 = 30 then ((pelotonref03_Same.f k a0_0 a0_1 l0_2 0 0 ([] : List Int)).bind fun t129 => (some t129)) else (some false))) = some r := h
 clear h
 by_cases c5 : a3 = true
 rotate_left
 ·
  replace c5 := Bool.eq_false_iff.mpr c5
  subst c5
  have H1 : (if a1 = 30 then ((pelotonref03_Same.f k a0_0 a0_1 l0_2 0 0 ([] : List Int)).bind fun t129 => (some t129)) else (some false)) = some r := by rw [if_neg (show ¬ (false = true) by decide)] at H; exact H
  clear H
  have H := H1
  clear H1
  by_cases c16 : a1 = 30
  rotate_left
  ·
   rw [if_neg c16] at H
   have c16b0 : (a1 == 30) = false := beq_eq_false_iff_ne.mpr c16
   have c16b1 : (a1 != 30) = true := bne_iff_ne.mpr c16
   obtain rfl := Option.some.inj H
   go_enter Try.func14, Try.ntmps14
   go_wp2_with (first | ((with_reducible refine gate_dst (N := 4) rfl ?_); refine box_event ?hg (N := 4) ?hd (cs := #[.int .i64 a0_0, .int .i64 a0_1, .slice A0_2 l0_2.length c0_2]) (t := 24) ?hr ?_; (case hd => rfl); (case hg => rfl); (case hr => first | (go_simp; done) | (go_simp; rfl)); intro gb126 hg w23 hbox hb; have BK126 := Aside0.mk (hbox); have GW126 := Aside0.mk ((by rw [hg]; exact (below_size (bw_ HB)) : w.heap.size ≤ gb126)); have GE126 := Aside0.mk ((by rw [hg]; exact (below_size (bw_ HB)) : w.heap.size ≤ gb126)); replace HB := Aside0.mk (below_step (bw_ HB) hb); clear hb hbox hg) | ((with_reducible refine gate_dst (N := 6) rfl ?_); refine box_event ?hg (N := 6) ?hd (cs := #[.int .i64 a2_0, .int .i64 a2_1, .slice A2_2 l2_2.length c2_2]) (t := 24) ?hr ?_; (case hd => rfl); (case hg => rfl); (case hr => first | (go_simp; done) | (go_simp; rfl)); intro gb127 hg w24 hbox hb; have BK127 := Aside0.mk (hbox); have GW127 := Aside0.mk ((by rw [hg]; exact (below_size (bw_ HB)) : w.heap.size ≤ gb127)); have GE127 := Aside0.mk ((by rw [hg]; exact (below_size (bw_ HB)) : w.heap.size ≤ gb127)); have NB126_127 := Aside0.mk ((by rw [hg]; exact Nat.ne_of_lt (blk_lt (tk_ BK126)) : gb126 ≠ gb127)); have NB127_126 := Aside0.mk ((by rw [hg]; exact Nat.ne_of_gt (blk_lt (tk_ BK126)) : gb127 ≠ gb126)); replace BK126 := Aside0.mk (blk_below (tk_ BK126) hb); replace HB := Aside0.mk (below_step (bw_ HB) hb); clear hb hbox hg))
   go_ret
   exact ⟨by first | rfl | (simp [errW_none, errW_some] <;> rfl) | (simp [*, errW_none, errW_some] <;> rfl), by repeat (first | (with_reducible first | exact HB.out | apply b_a | apply b_n | apply b_d | refine b_s ?_ GE126.out | refine b_s ?_ GE127.out) | exact HB.out)⟩

  rw [if_pos c16] at H
  have c16b0 : (a1 == 30) = true := beq_iff_eq.mpr c16
  have c16b1 : (a1 != 30) = false := bne_eq_false_iff_eq.mpr c16
  clear c16
  replace H := Option.bind_eq_some_iff.mp H
  obtain ⟨t129, A170, H⟩ := H
  replace H : (some t129) = some r := H
  have A17 := Aside0.mk A170
  clear A170
  obtain rfl := Option.some.inj H
  go_enter Try.func14, Try.ntmps14
  go_wp2_with (first | ((with_reducible refine gate_dst (N := 4) rfl ?_); refine box_event ?hg (N := 4) ?hd (cs := #[.int .i64 a0_0, .int .i64 a0_1, .slice A0_2 l0_2.length c0_2]) (t := 24) ?hr ?_; (case hd => rfl); (case hg => rfl); (case hr => first | (go_simp; done) | (go_simp; rfl)); intro gb126 hg w18 hbox hb; have BK126 := Aside0.mk (hbox); have GW126 := Aside0.mk ((by rw [hg]; exact (below_size (bw_ HB)) : w.heap.size ≤ gb126)); have GE126 := Aside0.mk ((by rw [hg]; exact (below_size (bw_ HB)) : w.heap.size ≤ gb126)); replace HB := Aside0.mk (below_step (bw_ HB) hb); clear hb hbox hg) | ((with_reducible refine gate_dst (N := 6) rfl ?_); refine box_event ?hg (N := 6) ?hd (cs := #[.int .i64 a2_0, .int .i64 a2_1, .slice A2_2 l2_2.length c2_2]) (t := 24) ?hr ?_; (case hd => rfl); (case hg => rfl); (case hr => first | (go_simp; done) | (go_simp; rfl)); intro gb127 hg w19 hbox hb; have BK127 := Aside0.mk (hbox); have GW127 := Aside0.mk ((by rw [hg]; exact (below_size (bw_ HB)) : w.heap.size ≤ gb127)); have GE127 := Aside0.mk ((by rw [hg]; exact (below_size (bw_ HB)) : w.heap.size ≤ gb127)); have NB126_127 := Aside0.mk ((by rw [hg]; exact Nat.ne_of_lt (blk_lt (tk_ BK126)) : gb126 ≠ gb127)); have NB127_126 := Aside0.mk ((by rw [hg]; exact Nat.ne_of_gt (blk_lt (tk_ BK126)) : gb127 ≠ gb126)); replace BK126 := Aside0.mk (blk_below (tk_ BK126) hb); replace HB := Aside0.mk (below_step (bw_ HB) hb); clear hb hbox hg; have hnb20 := NB126_127.out; have hnc20 := NB127_126.out; have hcz21_0 := bc_0 BK126; have hcz21_1 := bc_1 BK126; have hcz21_2 := bc_2 BK126; have hfz21_0 := blk_frozen BK126.out 0; have hfz21_1 := blk_frozen BK126.out 1; have hfz21_2 := blk_frozen BK126.out 2) | (go_at_call 26; (refine (pelotonref03_Same.calls k a0_0 a0_1 _ _ l0_2 0 0 _ _ ([] : List Int) t129 _ ?side1 ?side2 ?side3 ?side4 A17.out).mono ?_); (case side1 => repeat (first | exact (Kd.C_below HR0_2.out HB.out) | (with_reducible refine Kd.C_alloc ?_ _) | (with_reducible refine Kd.C_drewN ?_ _) | (with_reducible refine Kd.C_drew ?_))); (case side2 => exact HC0_2.out); (case side3 => exact Kd.C_nil _ _); (case side4 => exact Nat.le_refl _); rintro e w22 ⟨rfl, hb⟩; (try clear A17); replace BK126 := Aside0.mk (blk_below (tk_ BK126) hb); replace BK127 := Aside0.mk (blk_below (tk_ BK127) hb); replace HB := Aside0.mk (below_step (bw_ HB) hb); (try clear hb); (try clear hb2); (try clear hk); (try clear hi)))
  go_ret
  exact ⟨by first | rfl | (simp [errW_none, errW_some] <;> rfl) | (simp [*, errW_none, errW_some] <;> rfl), by repeat (first | (with_reducible first | exact HB.out | apply b_a | apply b_n | apply b_d | refine b_s ?_ GE126.out | refine b_s ?_ GE127.out) | exact HB.out)⟩
 subst c5
 have H1 : (if a1 = 0 then ((pelotonref03_Same.f k a0_0 a0_1 l0_2 a2_0 a2_1 l2_2).bind fun t128 => (some t128)) else (some false)) = some r := by rw [if_pos rfl] at H; exact H
 clear H
 have H := H1
 clear H1
 by_cases c6 : a1 = 0
 rotate_left
 ·
  rw [if_neg c6] at H
  have c6b0 : (a1 == 0) = false := beq_eq_false_iff_ne.mpr c6
  have c6b1 : (a1 != 0) = true := bne_iff_ne.mpr c6
  obtain rfl := Option.some.inj H
  go_enter Try.func14, Try.ntmps14
  go_wp2_with (first | ((with_reducible refine gate_dst (N := 4) rfl ?_); refine box_event ?hg (N := 4) ?hd (cs := #[.int .i64 a0_0, .int .i64 a0_1, .slice A0_2 l0_2.length c0_2]) (t := 24) ?hr ?_; (case hd => rfl); (case hg => rfl); (case hr => first | (go_simp; done) | (go_simp; rfl)); intro gb126 hg w14 hbox hb; have BK126 := Aside0.mk (hbox); have GW126 := Aside0.mk ((by rw [hg]; exact (below_size (bw_ HB)) : w.heap.size ≤ gb126)); have GE126 := Aside0.mk ((by rw [hg]; exact (below_size (bw_ HB)) : w.heap.size ≤ gb126)); replace HB := Aside0.mk (below_step (bw_ HB) hb); clear hb hbox hg) | ((with_reducible refine gate_dst (N := 6) rfl ?_); refine box_event ?hg (N := 6) ?hd (cs := #[.int .i64 a2_0, .int .i64 a2_1, .slice A2_2 l2_2.length c2_2]) (t := 24) ?hr ?_; (case hd => rfl); (case hg => rfl); (case hr => first | (go_simp; done) | (go_simp; rfl)); intro gb127 hg w15 hbox hb; have BK127 := Aside0.mk (hbox); have GW127 := Aside0.mk ((by rw [hg]; exact (below_size (bw_ HB)) : w.heap.size ≤ gb127)); have GE127 := Aside0.mk ((by rw [hg]; exact (below_size (bw_ HB)) : w.heap.size ≤ gb127)); have NB126_127 := Aside0.mk ((by rw [hg]; exact Nat.ne_of_lt (blk_lt (tk_ BK126)) : gb126 ≠ gb127)); have NB127_126 := Aside0.mk ((by rw [hg]; exact Nat.ne_of_gt (blk_lt (tk_ BK126)) : gb127 ≠ gb126)); replace BK126 := Aside0.mk (blk_below (tk_ BK126) hb); replace HB := Aside0.mk (below_step (bw_ HB) hb); clear hb hbox hg))
  go_ret
  exact ⟨by first | rfl | (simp [errW_none, errW_some] <;> rfl) | (simp [*, errW_none, errW_some] <;> rfl), by repeat (first | (with_reducible first | exact HB.out | apply b_a | apply b_n | apply b_d | refine b_s ?_ GE126.out | refine b_s ?_ GE127.out) | exact HB.out)⟩
 rw [if_pos c6] at H
 have c6b0 : (a1 == 0) = true := beq_iff_eq.mpr c6
 have c6b1 : (a1 != 0) = false := bne_eq_false_iff_eq.mpr c6
 clear c6
 replace H := Option.bind_eq_some_iff.mp H
 obtain ⟨t128, A70, H⟩ := H
 replace H : (some t128) = some r := H
 have A7 := Aside0.mk A70
 clear A70
 obtain rfl := Option.some.inj H
 go_enter Try.func14, Try.ntmps14
 go_wp2_with (first | ((with_reducible refine gate_dst (N := 4) rfl ?_); refine box_event ?hg (N := 4) ?hd (cs := #[.int .i64 a0_0, .int .i64 a0_1, .slice A0_2 l0_2.length c0_2]) (t := 24) ?hr ?_; (case hd => rfl); (case hg => rfl); (case hr => first | (go_simp; done) | (go_simp; rfl)); intro gb126 hg w8 hbox hb; have BK126 := Aside0.mk (hbox); have GW126 := Aside0.mk ((by rw [hg]; exact (below_size (bw_ HB)) : w.heap.size ≤ gb126)); have GE126 := Aside0.mk ((by rw [hg]; exact (below_size (bw_ HB)) : w.heap.size ≤ gb126)); replace HB := Aside0.mk (below_step (bw_ HB) hb); clear hb hbox hg) | ((with_reducible refine gate_dst (N := 6) rfl ?_); refine box_event ?hg (N := 6) ?hd (cs := #[.int .i64 a2_0, .int .i64 a2_1, .slice A2_2 l2_2.length c2_2]) (t := 24) ?hr ?_; (case hd => rfl); (case hg => rfl); (case hr => first | (go_simp; done) | (go_simp; rfl)); intro gb127 hg w9 hbox hb; have BK127 := Aside0.mk (hbox); have GW127 := Aside0.mk ((by rw [hg]; exact (below_size (bw_ HB)) : w.heap.size ≤ gb127)); have GE127 := Aside0.mk ((by rw [hg]; exact (below_size (bw_ HB)) : w.heap.size ≤ gb127)); have NB126_127 := Aside0.mk ((by rw [hg]; exact Nat.ne_of_lt (blk_lt (tk_ BK126)) : gb126 ≠ gb127)); have NB127_126 := Aside0.mk ((by rw [hg]; exact Nat.ne_of_gt (blk_lt (tk_ BK126)) : gb127 ≠ gb126)); replace BK126 := Aside0.mk (blk_below (tk_ BK126) hb); replace HB := Aside0.mk (below_step (bw_ HB) hb); clear hb hbox hg; have hnb10 := NB126_127.out; have hnc10 := NB127_126.out; have hcz11_0 := bc_0 BK126; have hcz11_1 := bc_1 BK126; have hcz11_2 := bc_2 BK126; have hfz11_0 := blk_frozen BK126.out 0; have hfz11_1 := blk_frozen BK126.out 1; have hfz11_2 := blk_frozen BK126.out 2; have hcz12_0 := bc_0 BK127; have hcz12_1 := bc_1 BK127; have hcz12_2 := bc_2 BK127; have hfz12_0 := blk_frozen BK127.out 0; have hfz12_1 := blk_frozen BK127.out 1; have hfz12_2 := blk_frozen BK127.out 2) | (go_at_call 26; (with_reducible refine (pelotonref03_Same.calls k a0_0 a0_1 _ _ l0_2 a2_0 a2_1 _ _ l2_2 t128 _ ?side1 ?side2 ?side3 ?side4 A7.out).mono ?_); (case side1 => repeat (first | exact (Kd.C_below HR0_2.out HB.out) | (with_reducible refine Kd.C_alloc ?_ _) | (with_reducible refine Kd.C_drewN ?_ _) | (with_reducible refine Kd.C_drew ?_))); (case side2 => exact HC0_2.out); (case side3 => repeat (first | exact (Kd.C_below HR2_2.out HB.out) | (with_reducible refine Kd.C_alloc ?_ _) | (with_reducible refine Kd.C_drewN ?_ _) | (with_reducible refine Kd.C_drew ?_))); (case side4 => exact HC2_2.out); rintro e w13 ⟨rfl, hb⟩; (try clear A7); replace BK126 := Aside0.mk (blk_below (tk_ BK126) hb); replace BK127 := Aside0.mk (blk_below (tk_ BK127) hb); replace HB := Aside0.mk (below_step (bw_ HB) hb); (try clear hb); (try clear hb2); (try clear hk); (try clear hi)))
 go_ret
 exact ⟨by first | rfl | (simp [errW_none, errW_some] <;> rfl) | (simp [*, errW_none, errW_some] <;> rfl), by repeat (first | (with_reducible first | exact HB.out | apply b_a | apply b_n | apply b_d | refine b_s ?_ GE126.out | refine b_s ?_ GE127.out) | exact HB.out)⟩
/-! ### grid_Beside: function 25 -/
def grid_Beside.l0 : Nat → List (S24) → List (S24) → Int → Int → Option (Int × Int × List Int × Int)
 | 0, _, _, _, _ => none
 | k + 1, x4, x13, x14, x15 => if x15 < x14 then (if 0 ≤ x15 then (if x15 < (x13.length : Int) then ((grid_Turn.f k ((rd_T24 x13 x15).f0) ((rd_T24 x13 x15).f1) ((rd_T24 x13 x15).f2)).bind fun bt136 => (if x15 < (x4.length : Int) then (if bt136.2.2.2 = 0 then (grid_Beside.l0 k (x4.set (x15 : Int).toNat (⟨bt136.1, bt136.2.1, bt136.2.2.1⟩ : S24)) x13 x14 (wrap64 (x15 + 1))) else (some (0, 0, ([] : List Int), bt136.2.2.2))) else (none))) else (none)) else (none)) else ((grid_Stack.f k x4).bind fun bt143 => (if bt143.2.2.2 = 0 then ((grid_Turn.f k bt143.1 bt143.2.1 bt143.2.2.1).bind fun bt150 => (some (bt150.1, bt150.2.1, bt150.2.2.1, bt150.2.2.2))) else (some (0, 0, ([] : List Int), bt143.2.2.2))))
def grid_Beside.f (k : Nat) (l0 : List (S24)) : Option (Int × Int × List Int × Int) := if 0 ≤ (l0.length : Int) then (if ((l0.length : Int) : Int).toNat ≤ 7036874417766 then (grid_Beside.l0 k (List.replicate ((l0.length : Int) : Int).toNat z24) l0 (l0.length : Int) 0) else (none)) else (none)
theorem grid_Beside.mono_l : ∀ k, (∀ y0 y1 y2 y3, LeO (grid_Beside.l0 k y0 y1 y2 y3) (grid_Beside.l0 (k + 1) y0 y1 y2 y3))
 | 0 => fun _ _ _ _ r h => by simp [grid_Beside.l0] at h
 | k + 1 => by
  have ih0 := grid_Beside.mono_l k
  ·
   intro y0 y1 y2 y3
   unfold grid_Beside.l0
   repeat' first
   | (with_reducible exact ih0 _ _ _ _)
   | (with_reducible exact grid_Stack.mono _ _)
   | (with_reducible exact grid_Turn.mono _ _ _ _)
   | (with_reducible exact LeO.refl _)
   | (with_reducible exact LeO.none _)
   | (with_reducible refine LeO.ite ?_ ?_)
   | (with_reducible refine LeO.bind ?_ (fun _ => ?_))
   | exact ih0 _ _ _ _
   | exact grid_Stack.mono _ _
   | exact grid_Turn.mono _ _ _ _
   | exact LeO.none _
   | refine LeO.ite ?_ ?_
   | refine LeO.bind ?_ (fun _ => ?_)
theorem grid_Beside.mono : ∀ a0 k, LeO (grid_Beside.f k a0) (grid_Beside.f (k + 1) a0) := by
 intro a0 k
 have ih0 := grid_Beside.mono_l k
 unfold grid_Beside.f
 repeat' first
   | (with_reducible exact ih0 _ _ _ _)
   | (with_reducible exact grid_Stack.mono _ _)
   | (with_reducible exact grid_Turn.mono _ _ _ _)
   | (with_reducible exact LeO.refl _)
   | (with_reducible exact LeO.none _)
   | (with_reducible refine LeO.ite ?_ ?_)
   | (with_reducible refine LeO.bind ?_ (fun _ => ?_))
   | exact ih0 _ _ _ _
   | exact grid_Stack.mono _ _
   | exact grid_Turn.mono _ _ _ _
   | exact LeO.none _
   | refine LeO.ite ?_ ?_
   | refine LeO.bind ?_ (fun _ => ?_)
set_option maxHeartbeats 60000000 in
set_option maxRecDepth 100000 in
theorem grid_Beside.calls (k : Nat) (A0 : Option Addr) (c0 : Nat) (l0 : List (S24)) (r1 : Int) (r2 : Int) (r3 : List Int) (r4 : Int) (w : World) (hr0 : Kd.C k24 w A0 l0.length l0) (hc0 : l0.length ≤ c0) (h : grid_Beside.f k l0 = some (r1, r2, r3, r4)) :
  Calls Try.prog 25 #[.slice A0 l0.length c0] w fun e w' => ∃ v2_ : Value, e = .returned (.tuple #[.agg #[.int .i64 r1, .int .i64 r2, v2_], .int .i64 r4]) ∧ Kd.R (Kd.int .i32) 21 w' w.heap.size (fun _ => True) v2_ r3 ∧ Below w.heap.size w w' := by
 have hu24 := Try.underlying24
 have HR0 := Aside0.mk hr0
 have HC0 := Aside0.mk hc0
 clear hr0 hc0
 have HB := Aside0.mk (Below.refl w.heap.size w)
 have H : (if 0 ≤ (l0.length : Int) then (if ((l0.length : Int) : Int).toNat ≤ 7036874417766 then (grid_Beside.l0 k (List.replicate ((l0.length : Int) : Int).toNat z24) l0 (l0.length : Int) 0) else (none)) else (none)) = some (r1, r2, r3, r4) := h
 clear h
 by_cases c2 : 0 ≤ (l0.length : Int)
 rotate_left
 ·
  rw [if_neg c2] at H
  exact absurd H (by simp)

 rw [if_pos c2] at H
 have c2b0 := eq_true c2
 have c2b1 : decide (0 ≤ (l0.length : Int)) = true := decide_eq_true c2
 clear c2
 by_cases c3 : ((l0.length : Int) : Int).toNat ≤ 7036874417766
 rotate_left
 ·
  rw [if_neg c3] at H
  exact absurd H (by simp)
 rw [if_pos c3] at H
 have c3b0 := eq_true c3
 have c3b1 : decide (((l0.length : Int) : Int).toNat ≤ 7036874417766) = true := decide_eq_true c3
 clear c3
 obtain ⟨y131, hy131⟩ : ∃ y_ : List (S24), y_ = (List.replicate ((l0.length : Int) : Int).toNat z24) := ⟨_, rfl⟩
 replace H : (grid_Beside.l0 k y131 l0 (l0.length : Int) 0) = some (r1, r2, r3, r4) := by first | (rw [hy131]; with_reducible exact H) | (have H2_ := (Option.bind_some _ _).symm.trans H; rw [hy131]; with_reducible exact H2_) | (have H2_ := (Option.bind_some _ _).symm.trans H; with_reducible exact H2_) | with_reducible exact H | (rw [hy131]; exact H) | exact H
 have Ny131 := Aside0.mk hy131
 clear hy131
 have H' := Aside0.mk H
 clear H
 go_enter Try.func25, Try.ntmps25
 go_wp2_with (first | ((with_reducible refine gate_dst (N := 2) rfl ?_); refine box_event ?hg (N := 2) ?hd (cs := #[.int .i64 0, .int .i64 0, .slice none 0 0]) (t := 24) ?hr ?_; (case hd => rfl); (case hg => rfl); (case hr => first | (go_simp; done) | (go_simp; rfl)); intro gb130 hg w4 hbox hb; have BK130 := Aside0.mk (hbox); have GW130 := Aside0.mk ((by rw [hg]; exact (below_size (bw_ HB)) : w.heap.size ≤ gb130)); have GE130 := Aside0.mk ((by rw [hg]; exact (below_size (bw_ HB)) : w.heap.size ≤ gb130)); replace HB := Aside0.mk (below_step (bw_ HB) hb); clear hb hbox hg) | ((with_reducible refine gate_dst (N := 12) rfl ?_); refine Kd.S_make k24 _ 24 rfl (N := 12) rfl 44 _ _ rfl (l0.length : Int) rfl rfl Try.underlying44 (.agg #[(.int .i64 0), (.int .i64 0), (.slice none 0 0)]) 40 info24 rfl (by decide) (by omega) z24 (ok := fun _ => True) (okp := fun _ => True) (k24_mkM _ _ _ z24 (Kd.R_nil _ _ _ _ _)) (fun _ hk => hk) trivial (of_decide_eq_true (by first | (with_reducible assumption) | assumption)) (Nat.le_trans (Nat.mul_le_mul_right _ (of_decide_eq_true (by first | (with_reducible assumption) | assumption) : (l0.length : Int).toNat ≤ 7036874417766)) (by omega)) (Below.refl _ _) (Nat.le_refl _) ?_; intro v132 w5 ho6 hb hg_ hnew_; clear hg_ hnew_; (first | rw [← Ny131.out] at ho6 | (simp only [Int.reduceToNat] at ho6; rw [← Ny131.out] at ho6)); have HO133 := Aside0.mk (Kd.S_lower (Kd.S_newB ho6 (tk_ BK130)) (below_size (bw_ HB))); replace BK130 := Aside0.mk (blk_below (tk_ BK130) hb); replace HB := Aside0.mk (below_step (bw_ HB) hb); clear hb ho6))
 go_loopg [15] k (fun kq v15 w' => ∃ (x4_1 : List (S24)) (x15_1 : Int) (x131000_1 : Int) (x131001_1 : Int), v15 = .int .i64 x15_1 ∧ Aside0 (grid_Beside.l0 kq x4_1 l0 (l0.length : Int) x15_1 = some (r1, r2, r3, r4)) ∧ Aside0 (kq ≤ k) ∧ Aside0 (Kd.S k24 24 w' w.heap.size (fun k_ => k_ ≠ gb130) v132 x4_1) ∧ Aside0 (w'.heap[gb130]? = some (.cells #[.int .i64 x131000_1, .int .i64 x131001_1, (.slice none 0 0)] 24 (0, 0))) ∧ Aside0 (Below w.heap.size w w'))
 case atStart => exact ⟨(y131), (0), (0), (0), (by first | rfl | (simp; done) | (simp [*]; done)), H', ⟨Nat.le_refl _⟩, ⟨by (with_reducible repeat (first | apply Kd.S_alloc | apply Kd.S_drewN | apply Kd.S_drew)); exact Kd.S_mono HO133.out (fun _ hk => hk.2)⟩, ⟨tk_ BK130⟩, ⟨by repeat (first | (with_reducible first | exact HB.out | apply b_a | apply b_n | apply b_d | refine b_s ?_ GE130.out) | exact HB.out)⟩⟩
 case round =>
  clear H'
  try clear c2
  try clear c2b0
  try clear c2b1
  try clear p2
  try clear c3
  try clear c3b0
  try clear c3b1
  obtain ⟨x4_1, x15_1, x131000_1, x131001_1, rfl, HA, HK1, HO_4, BK130, HB⟩ := hrel
  cases gk with
  | zero => exact absurd HA.out (by simp [grid_Beside.l0])
  | succ k1 =>
   have H := HA.out
   clear HA
   simp only [grid_Beside.l0] at H
   by_cases c7 : x15_1 < (l0.length : Int)
   rotate_left
   ·
    rw [if_neg c7] at H
    have c7b0 : decide (x15_1 < (l0.length : Int)) = false := decide_eq_false c7
    clear c7
    replace H := Option.bind_eq_some_iff.mp H
    obtain ⟨⟨t143, t144, t145, t148⟩, A270, H⟩ := H
    replace H : (if t148 = 0 then ((grid_Turn.f k1 t143 t144 t145).bind fun bt150 => (some (bt150.1, bt150.2.1, bt150.2.2.1, bt150.2.2.2))) else (some (0, 0, ([] : List Int), t148))) = some (r1, r2, r3, r4) := H
    have A27 := Aside0.mk A270
    clear A270
    by_cases c28 : t148 = 0
    rotate_left
    ·
     rw [if_neg c28] at H
     have c28b0 : (t148 == 0) = false := beq_eq_false_iff_ne.mpr c28
     have c28b1 : (t148 != 0) = true := bne_iff_ne.mpr c28
     simp only [Option.some.injEq, Prod.mk.injEq] at H
     obtain ⟨rfl, rfl, rfl, rfl⟩ := H
     obtain ⟨Ao39, co39, eo39⟩ := Kd.S_slice HO_4.out
     subst eo39
     go_wp2_with (first | ((with_reducible refine gate_callee (f := 24) rfl ?_); refine goesL_ (some 35) rfl rfl Try.func24 (by kernel_rfl) rfl #[.slice Ao39 x4_1.length co39] rfl (by (try simp only [l_4, l_5, l_6]); first | done | rfl | (simp only [l_7, l_8]; rfl)) ?_; (with_reducible refine (grid_Stack.calls k1 _ _ x4_1 t143 t144 t145 t148 _ ?side1 ?side2 A27.out).mono ?_); (case side1 => repeat (first | exact (Kd.S_reads' HO_4.out).2.2 | (with_reducible refine Kd.C_alloc ?_ _) | (with_reducible refine Kd.C_drewN ?_ _) | (with_reducible refine Kd.C_drew ?_))); (case side2 => exact (Kd.S_reads' HO_4.out).2.1); rintro e w40 ⟨v146, rfl, ho0, hb⟩; (try clear A27); refine ⟨_, rfl, ?_⟩; have HO147 := Aside0.mk (Kd.R_lower ho0 (below_size (bw_ HB))); replace HO_4 := Aside0.mk (Kd.S_elder' (tS_ HO_4) (Kd.R_base ho0) hb); replace BK130 := Aside0.mk (blk_below (tk_ BK130) hb); replace HB := Aside0.mk (below_step (bw_ HB) hb); (try clear hb); (try clear hb2); (try clear hk); (try clear hi); (try clear ho0)) | ((with_reducible refine gate_dst (N := 8) rfl ?_); refine box_event ?hg (N := 8) ?hd (cs := #[.int .i64 0, .int .i64 0, .slice none 0 0]) (t := 24) ?hr ?_; (case hd => rfl); (case hg => rfl); (case hr => first | (go_simp; done) | (go_simp; rfl)); intro gb149 hg w41 hbox hb; have BK149 := Aside0.mk (hbox); have GW149 := Aside0.mk ((by rw [hg]; exact (below_size (bw_ HB)) : w.heap.size ≤ gb149)); have GE149 := Aside0.mk ((by rw [hg]; exact (below_size (bw_ HB)) : w.heap.size ≤ gb149)); have NB130_149 := Aside0.mk ((by rw [hg]; exact Nat.ne_of_lt (blk_lt (tk_ BK130)) : gb130 ≠ gb149)); have NB149_130 := Aside0.mk ((by rw [hg]; exact Nat.ne_of_gt (blk_lt (tk_ BK130)) : gb149 ≠ gb130)); replace HO_4 := Aside0.mk (Kd.S_below (Kd.S_elderB (tS_ HO_4) gb149 (Nat.le_of_eq hg.symm)) hb); replace HO147 := Aside0.mk (Kd.R_below (tR_ HO147) hb); replace BK130 := Aside0.mk (blk_below (tk_ BK130) hb); replace HB := Aside0.mk (below_step (bw_ HB) hb); clear hb hbox hg; have hnb42 := NB149_130.out; have hnc42 := NB130_149.out; have hcz43_0 := bc_0 BK149; have hcz43_1 := bc_1 BK149; have hcz43_2 := bc_2 BK149; have hfz43_0 := blk_frozen BK149.out 0; have hfz43_1 := blk_frozen BK149.out 1; have hfz43_2 := blk_frozen BK149.out 2; obtain ⟨Ao44, co44, eo44⟩ := Kd.R_slice HO147.out; subst eo44; have hcz45_0 := bc_0 BK130; have hcz45_1 := bc_1 BK130; have hcz45_2 := bc_2 BK130; have hfz45_0 := blk_frozen BK130.out 0; have hfz45_1 := blk_frozen BK130.out 1; have hfz45_2 := blk_frozen BK130.out 2))
     refine bodyPost_ret (results_ct rfl _ _ gb130 24 #[.int .i64 0, .int .i64 0, .slice none 0 0] (0, 0) _ rfl (by (with_reducible repeat (first | refine k_n ?_ _ | refine k_d ?_ | refine k_a ?_ _)); refine blk_put (cs := #[.int .i64 0, .int .i64 0, .slice none 0 0]) ?_ 2 _ rfl; (with_reducible repeat (first | refine k_n ?_ _ | refine k_d ?_ | refine k_a ?_ _)); refine blk_put (cs := #[.int .i64 0, .int .i64 x131001_1, .slice none 0 0]) ?_ 1 _ rfl; (with_reducible repeat (first | refine k_n ?_ _ | refine k_d ?_ | refine k_a ?_ _)); refine blk_put (cs := #[.int .i64 x131000_1, .int .i64 x131001_1, .slice none 0 0]) ?_ 0 _ rfl; (with_reducible repeat (first | refine k_n ?_ _ | refine k_d ?_ | refine k_a ?_ _)); refine blk_far ?_ NB130_149.out _; (with_reducible repeat (first | refine k_n ?_ _ | refine k_d ?_ | refine k_a ?_ _)); refine blk_far ?_ NB130_149.out _; (with_reducible repeat (first | refine k_n ?_ _ | refine k_d ?_ | refine k_a ?_ _)); refine blk_far ?_ NB130_149.out _; (with_reducible repeat (first | refine k_n ?_ _ | refine k_d ?_ | refine k_a ?_ _)); exact BK130.out) Try.underlying24 rfl (by kernel_rfl)) rfl ?_
     exact ⟨_, by first | rfl | (simp [errW_none, errW_some] <;> rfl) | (simp [*, errW_none, errW_some] <;> rfl), by first | exact Kd.R_nil _ _ _ _ _ | exact Kd.N_nil _ _ _ _ _ | exact Kd.V_nil _ _ _ _ _ | exact Kd.Q_nil _ _ _ _ _ | exact Kd.S_nil _ _ _ _ _, by repeat (first | (with_reducible first | exact HB.out | apply b_a | apply b_n | apply b_d | refine b_s ?_ GE130.out | refine b_s ?_ GE149.out) | exact HB.out)⟩
    rw [if_pos c28] at H
    have c28b0 : (t148 == 0) = true := beq_iff_eq.mpr c28
    have c28b1 : (t148 != 0) = false := bne_eq_false_iff_eq.mpr c28
    clear c28
    replace H := Option.bind_eq_some_iff.mp H
    obtain ⟨⟨t150, t151, t152, t155⟩, A290, H⟩ := H
    replace H : (some (t150, t151, t152, t155)) = some (r1, r2, r3, r4) := H
    have A29 := Aside0.mk A290
    clear A290
    simp only [Option.some.injEq, Prod.mk.injEq] at H
    obtain ⟨rfl, rfl, rfl, rfl⟩ := H
    obtain ⟨Ao30, co30, eo30⟩ := Kd.S_slice HO_4.out
    subst eo30
    go_wp2_with (first | ((with_reducible refine gate_callee (f := 24) rfl ?_); refine goesL_ (some 35) rfl rfl Try.func24 (by kernel_rfl) rfl #[.slice Ao30 x4_1.length co30] rfl (by (try simp only [l_4, l_5, l_6]); first | done | rfl | (simp only [l_7, l_8]; rfl)) ?_; (with_reducible refine (grid_Stack.calls k1 _ _ x4_1 t143 t144 t145 t148 _ ?side1 ?side2 A27.out).mono ?_); (case side1 => repeat (first | exact (Kd.S_reads' HO_4.out).2.2 | (with_reducible refine Kd.C_alloc ?_ _) | (with_reducible refine Kd.C_drewN ?_ _) | (with_reducible refine Kd.C_drew ?_))); (case side2 => exact (Kd.S_reads' HO_4.out).2.1); rintro e w31 ⟨v146, rfl, ho0, hb⟩; (try clear A27); refine ⟨_, rfl, ?_⟩; have HO147 := Aside0.mk (Kd.R_lower ho0 (below_size (bw_ HB))); replace HO_4 := Aside0.mk (Kd.S_elder' (tS_ HO_4) (Kd.R_base ho0) hb); replace BK130 := Aside0.mk (blk_below (tk_ BK130) hb); replace HB := Aside0.mk (below_step (bw_ HB) hb); (try clear hb); (try clear hb2); (try clear hk); (try clear hi); (try clear ho0)) | ((with_reducible refine gate_dst (N := 8) rfl ?_); refine box_event ?hg (N := 8) ?hd (cs := #[.int .i64 0, .int .i64 0, .slice none 0 0]) (t := 24) ?hr ?_; (case hd => rfl); (case hg => rfl); (case hr => first | (go_simp; done) | (go_simp; rfl)); intro gb149 hg w32 hbox hb; have BK149 := Aside0.mk (hbox); have GW149 := Aside0.mk ((by rw [hg]; exact (below_size (bw_ HB)) : w.heap.size ≤ gb149)); have GE149 := Aside0.mk ((by rw [hg]; exact (below_size (bw_ HB)) : w.heap.size ≤ gb149)); have NB130_149 := Aside0.mk ((by rw [hg]; exact Nat.ne_of_lt (blk_lt (tk_ BK130)) : gb130 ≠ gb149)); have NB149_130 := Aside0.mk ((by rw [hg]; exact Nat.ne_of_gt (blk_lt (tk_ BK130)) : gb149 ≠ gb130)); replace HO_4 := Aside0.mk (Kd.S_below (Kd.S_elderB (tS_ HO_4) gb149 (Nat.le_of_eq hg.symm)) hb); replace HO147 := Aside0.mk (Kd.R_below (tR_ HO147) hb); replace BK130 := Aside0.mk (blk_below (tk_ BK130) hb); replace HB := Aside0.mk (below_step (bw_ HB) hb); clear hb hbox hg; have hnb33 := NB149_130.out; have hnc33 := NB130_149.out; have hcz34_0 := bc_0 BK149; have hcz34_1 := bc_1 BK149; have hcz34_2 := bc_2 BK149; have hfz34_0 := blk_frozen BK149.out 0; have hfz34_1 := blk_frozen BK149.out 1; have hfz34_2 := blk_frozen BK149.out 2; obtain ⟨Ao35, co35, eo35⟩ := Kd.R_slice HO147.out; subst eo35) | ((with_reducible refine gate_callee (f := 22) rfl ?_); refine goesL_ (some 43) rfl rfl Try.func22 (by kernel_rfl) rfl #[.agg #[.int .i64 t143, .int .i64 t144, .slice Ao35 t145.length co35]] rfl (by (try simp only [l_4, l_5, l_6]); first | done | rfl | (simp only [l_7, l_8]; rfl)) ?_; (with_reducible refine (grid_Turn.calls k1 t143 t144 _ _ t145 t150 t151 t152 t155 _ ?side1 ?side2 A29.out).mono ?_); (case side1 => refine (Kd.R_reads' (e := 21) (base := w.heap.size) (ok := fun k_ => True) (n := t145.length) (c := co35) ?_).2.2; exact (by (with_reducible repeat (first | apply Kd.R_alloc | apply Kd.R_drewN | apply Kd.R_drew)); exact (Kd.R_mono (Kd.R_far (p := ⟨gb149, 2, none⟩) (Kd.R_far (p := ⟨gb149, 1, none⟩) (Kd.R_far (p := ⟨gb149, 0, none⟩) (Kd.R_types HO147.out BK149.out (by decide)) (fun _ hk => hk.2) (.int .i64 t143)) (fun _ hk => hk.2) (.int .i64 t144)) (fun _ hk => hk.2) (.slice Ao35 t145.length co35)) (fun _ h_ => h_.1)))); (case side2 => exact (Kd.R_reads' HO147.out).2.1); rintro e w36 ⟨v153, rfl, ho0, hb⟩; (try clear A29); refine ⟨_, rfl, ?_⟩; have HO154 := Aside0.mk (Kd.R_lower (Kd.R_new' ho0 (Kd.R_lt (by (with_reducible repeat (first | apply Kd.R_alloc | apply Kd.R_drewN | apply Kd.R_drew)); exact (Kd.R_mono (Kd.R_far (p := ⟨gb149, 2, none⟩) (Kd.R_far (p := ⟨gb149, 1, none⟩) (Kd.R_far (p := ⟨gb149, 0, none⟩) (Kd.R_types HO147.out BK149.out (by decide)) (fun _ hk => hk.2) (.int .i64 t143)) (fun _ hk => hk.2) (.int .i64 t144)) (fun _ hk => hk.2) (.slice Ao35 t145.length co35)) (fun _ h_ => h_.1))))) (below_size (bw_ HB))); replace HO_4 := Aside0.mk (Kd.S_elder' (by (with_reducible repeat (first | apply Kd.S_alloc | apply Kd.S_drewN | apply Kd.S_drew)); exact (Kd.S_mono (Kd.S_far (p := ⟨gb149, 2, none⟩) (Kd.S_far (p := ⟨gb149, 1, none⟩) (Kd.S_far (p := ⟨gb149, 0, none⟩) (Kd.S_mono HO_4.out (fun k_ hk => (⟨hk, hk.2⟩ : _ ∧ k_ ≠ gb149))) (fun _ hk => hk.2) (.int .i64 t143)) (fun _ hk => hk.2) (.int .i64 t144)) (fun _ hk => hk.2) (.slice Ao35 t145.length co35)) (fun _ h_ => h_.1))) (Kd.R_base ho0) hb); replace HO147 := Aside0.mk (Kd.R_elder' (by (with_reducible repeat (first | apply Kd.R_alloc | apply Kd.R_drewN | apply Kd.R_drew)); exact (Kd.R_mono (Kd.R_far (p := ⟨gb149, 2, none⟩) (Kd.R_far (p := ⟨gb149, 1, none⟩) (Kd.R_far (p := ⟨gb149, 0, none⟩) (Kd.R_types HO147.out BK149.out (by decide)) (fun _ hk => hk.2) (.int .i64 t143)) (fun _ hk => hk.2) (.int .i64 t144)) (fun _ hk => hk.2) (.slice Ao35 t145.length co35)) (fun _ h_ => h_.1))) (Kd.R_base ho0) hb); replace BK130 := Aside0.mk (blk_below (g := gb130) (o := .cells #[.int .i64 x131000_1, .int .i64 x131001_1, .slice none 0 0] 24 (0, 0)) (by (with_reducible repeat (first | refine k_n ?_ _ | refine k_d ?_ | refine k_a ?_ _)); refine blk_far ?_ NB130_149.out _; (with_reducible repeat (first | refine k_n ?_ _ | refine k_d ?_ | refine k_a ?_ _)); refine blk_far ?_ NB130_149.out _; (with_reducible repeat (first | refine k_n ?_ _ | refine k_d ?_ | refine k_a ?_ _)); refine blk_far ?_ NB130_149.out _; (with_reducible repeat (first | refine k_n ?_ _ | refine k_d ?_ | refine k_a ?_ _)); exact BK130.out) hb); replace BK149 := Aside0.mk (blk_below (g := gb149) (o := .cells #[.int .i64 t143, .int .i64 t144, .slice Ao35 t145.length co35] 24 (0, 0)) (by (with_reducible repeat (first | refine k_n ?_ _ | refine k_d ?_ | refine k_a ?_ _)); refine blk_put (cs := #[.int .i64 t143, .int .i64 t144, .slice none 0 0]) ?_ 2 _ rfl; (with_reducible repeat (first | refine k_n ?_ _ | refine k_d ?_ | refine k_a ?_ _)); refine blk_put (cs := #[.int .i64 t143, .int .i64 0, .slice none 0 0]) ?_ 1 _ rfl; (with_reducible repeat (first | refine k_n ?_ _ | refine k_d ?_ | refine k_a ?_ _)); refine blk_put (cs := #[.int .i64 0, .int .i64 0, .slice none 0 0]) ?_ 0 _ rfl; (with_reducible repeat (first | refine k_n ?_ _ | refine k_d ?_ | refine k_a ?_ _)); exact BK149.out) hb); replace HB := Aside0.mk (below_step (bw_ HB) hb); (try clear hb); (try clear hb2); (try clear hk); (try clear hi); (try clear ho0); have hcz37_0 := bc_0 BK130; have hcz37_1 := bc_1 BK130; have hcz37_2 := bc_2 BK130; have hfz37_0 := blk_frozen BK130.out 0; have hfz37_1 := blk_frozen BK130.out 1; have hfz37_2 := blk_frozen BK130.out 2; obtain ⟨Ao38, co38, eo38⟩ := Kd.R_slice HO154.out; subst eo38))
    refine bodyPost_ret (results_ct rfl _ _ gb130 24 #[.int .i64 t150, .int .i64 t151, .slice Ao38 t152.length co38] (0, 0) _ rfl (by (with_reducible repeat (first | refine k_n ?_ _ | refine k_d ?_ | refine k_a ?_ _)); refine blk_put (cs := #[.int .i64 t150, .int .i64 t151, .slice none 0 0]) ?_ 2 _ rfl; (with_reducible repeat (first | refine k_n ?_ _ | refine k_d ?_ | refine k_a ?_ _)); refine blk_put (cs := #[.int .i64 t150, .int .i64 x131001_1, .slice none 0 0]) ?_ 1 _ rfl; (with_reducible repeat (first | refine k_n ?_ _ | refine k_d ?_ | refine k_a ?_ _)); refine blk_put (cs := #[.int .i64 x131000_1, .int .i64 x131001_1, .slice none 0 0]) ?_ 0 _ rfl; (with_reducible repeat (first | refine k_n ?_ _ | refine k_d ?_ | refine k_a ?_ _)); exact BK130.out) Try.underlying24 rfl (by kernel_rfl)) rfl ?_
    exact ⟨_, by first | rfl | (simp [errW_none, errW_some] <;> rfl) | (simp [*, errW_none, errW_some] <;> rfl), by (with_reducible repeat (first | apply Kd.R_alloc | apply Kd.R_drewN | apply Kd.R_drew)); exact Kd.R_mono (Kd.R_far (p := ⟨gb130, 2, none⟩) (Kd.R_far (p := ⟨gb130, 1, none⟩) (Kd.R_far (p := ⟨gb130, 0, none⟩) (Kd.R_types HO154.out BK130.out (by decide)) (fun _ hk => hk.2) (.int .i64 t150)) (fun _ hk => hk.2) (.int .i64 t151)) (fun _ hk => hk.2) (.slice Ao38 t152.length co38)) (fun _ hk => trivial), by repeat (first | (with_reducible first | exact HB.out | apply b_a | apply b_n | apply b_d | refine b_s ?_ GE130.out | refine b_s ?_ GE149.out) | exact HB.out)⟩
   rw [if_pos c7] at H
   have c7b0 : decide (x15_1 < (l0.length : Int)) = true := decide_eq_true c7
   clear c7
   by_cases c8 : 0 ≤ x15_1
   rotate_left
   ·
    rw [if_neg c8] at H
    exact absurd H (by simp)
   rw [if_pos c8] at H
   have c8b0 : decide (0 ≤ x15_1) = true := decide_eq_true c8
   clear c8
   by_cases c9 : x15_1 < (l0.length : Int)
   rotate_left
   ·
    rw [if_neg c9] at H
    exact absurd H (by simp)
   rw [if_pos c9] at H
   have c9b0 : decide (x15_1 < (l0.length : Int)) = true := decide_eq_true c9
   clear c9
   replace H := Option.bind_eq_some_iff.mp H
   obtain ⟨⟨t136, t137, t138, t141⟩, A100, H⟩ := H
   replace H : (if x15_1 < (x4_1.length : Int) then (if t141 = 0 then (grid_Beside.l0 k1 (x4_1.set (x15_1 : Int).toNat (⟨t136, t137, t138⟩ : S24)) l0 (l0.length : Int) (wrap64 (x15_1 + 1))) else (some (0, 0, ([] : List Int), t141))) else (none)) = some (r1, r2, r3, r4) := H
   have A10 := Aside0.mk A100
   clear A100
   by_cases c11 : x15_1 < (x4_1.length : Int)
   rotate_left
   ·
    rw [if_neg c11] at H
    exact absurd H (by simp)
   rw [if_pos c11] at H
   have c11b0 : decide (x15_1 < (x4_1.length : Int)) = true := decide_eq_true c11
   clear c11
   obtain ⟨y142, hy142⟩ : ∃ y_ : List (S24), y_ = (x4_1.set (x15_1 : Int).toNat (⟨t136, t137, t138⟩ : S24)) := ⟨_, rfl⟩
   replace H : (if t141 = 0 then (grid_Beside.l0 k1 y142 l0 (l0.length : Int) (wrap64 (x15_1 + 1))) else (some (0, 0, ([] : List Int), t141))) = some (r1, r2, r3, r4) := by first | (rw [hy142]; with_reducible exact H) | (have H2_ := (Option.bind_some _ _).symm.trans H; rw [hy142]; with_reducible exact H2_) | (have H2_ := (Option.bind_some _ _).symm.trans H; with_reducible exact H2_) | with_reducible exact H | (rw [hy142]; exact H) | exact H
   have Ny142 := Aside0.mk hy142
   clear hy142
   by_cases c13 : t141 = 0
   ·
    rw [if_pos c13] at H
    have c13b0 : (t141 == 0) = true := beq_iff_eq.mpr c13
    have c13b1 : (t141 != 0) = false := bne_eq_false_iff_eq.mpr c13
    clear c13
    have H' := Aside0.mk H
    clear H
    have p134 : 0 ≤ (x15_1 : Int) := of_decide_eq_true (by first | (with_reducible assumption) | assumption)
    have q134 : x15_1 < (l0.length : Int) := of_decide_eq_true (by first | (with_reducible assumption) | assumption)
    obtain ⟨ad134, A134_2, c134_2, e134, hx134_0, hx134_1, hx134_2, hl134_2, hi134_2⟩ := at_T24 HR0.out x15_1 p134 q134
    cases e134
    replace hx134_0 := cb_ HB hx134_0
    replace hx134_1 := cb_ HB hx134_1
    replace hx134_2 := cb_ HB hx134_2
    have HR134_2 := Aside0.mk hi134_2
    have HC134_2 := Aside0.mk hl134_2
    clear hi134_2 hl134_2
    replace p134 := eq_true p134
    replace q134 := eq_true q134
    go_wp2_with (first | ((with_reducible refine gate_dst (N := 6) rfl ?_); refine box_event ?hg (N := 6) ?hd (cs := #[.int .i64 0, .int .i64 0, .slice none 0 0]) (t := 24) ?hr ?_; (case hd => rfl); (case hg => rfl); (case hr => first | (go_simp; done) | (go_simp; rfl)); intro gb135 hg w14 hbox hb; have BK135 := Aside0.mk (hbox); have GW135 := Aside0.mk ((by rw [hg]; exact (below_size (bw_ HB)) : w.heap.size ≤ gb135)); have GE135 := Aside0.mk ((by rw [hg]; exact (below_size (bw_ HB)) : w.heap.size ≤ gb135)); have NB130_135 := Aside0.mk ((by rw [hg]; exact Nat.ne_of_lt (blk_lt (tk_ BK130)) : gb130 ≠ gb135)); have NB135_130 := Aside0.mk ((by rw [hg]; exact Nat.ne_of_gt (blk_lt (tk_ BK130)) : gb135 ≠ gb130)); replace HO_4 := Aside0.mk (Kd.S_below (Kd.S_elderB (tS_ HO_4) gb135 (Nat.le_of_eq hg.symm)) hb); replace BK130 := Aside0.mk (blk_below (tk_ BK130) hb); replace HB := Aside0.mk (below_step (bw_ HB) hb); clear hb hbox hg; have hnb15 := NB135_130.out; have hnc15 := NB130_135.out; have hcz16_0 := bc_0 BK135; have hcz16_1 := bc_1 BK135; have hcz16_2 := bc_2 BK135; have hfz16_0 := blk_frozen BK135.out 0; have hfz16_1 := blk_frozen BK135.out 1; have hfz16_2 := blk_frozen BK135.out 2) | ((with_reducible refine gate_callee (f := 22) rfl ?_); refine goesL_ (some 24) rfl rfl Try.func22 (by kernel_rfl) rfl #[.agg #[.int .i64 ((rd_T24 l0 x15_1).f0), .int .i64 ((rd_T24 l0 x15_1).f1), .slice A134_2 ((rd_T24 l0 x15_1).f2).length c134_2]] rfl (by (try simp only [l_4, l_5, l_6]); first | done | rfl | (simp only [l_7, l_8]; rfl)) ?_; (with_reducible refine (grid_Turn.calls k1 ((rd_T24 l0 x15_1).f0) ((rd_T24 l0 x15_1).f1) _ _ ((rd_T24 l0 x15_1).f2) t136 t137 t138 t141 _ ?side1 ?side2 A10.out).mono ?_); (case side1 => exact Kd.C_below HR134_2.out (bw_ HB)); (case side2 => exact HC134_2.out); rintro e w17 ⟨v139, rfl, ho0, hb⟩; (try clear A10); refine ⟨_, rfl, ?_⟩; have HO140 := Aside0.mk (Kd.R_lower ho0 (below_size (bw_ HB))); replace HO_4 := Aside0.mk (Kd.S_elder' (by (with_reducible repeat (first | apply Kd.S_alloc | apply Kd.S_drewN | apply Kd.S_drew)); exact (Kd.S_mono (Kd.S_far (p := ⟨gb135, 2, none⟩) (Kd.S_far (p := ⟨gb135, 1, none⟩) (Kd.S_far (p := ⟨gb135, 0, none⟩) (Kd.S_mono HO_4.out (fun k_ hk => (⟨hk, hk.2⟩ : _ ∧ k_ ≠ gb135))) (fun _ hk => hk.2) (.int .i64 ((rd_T24 l0 x15_1).f0))) (fun _ hk => hk.2) (.int .i64 ((rd_T24 l0 x15_1).f1))) (fun _ hk => hk.2) (.slice A134_2 ((rd_T24 l0 x15_1).f2).length c134_2)) (fun _ h_ => h_.1))) (Kd.R_base ho0) hb); replace BK130 := Aside0.mk (blk_below (g := gb130) (o := .cells #[.int .i64 x131000_1, .int .i64 x131001_1, .slice none 0 0] 24 (0, 0)) (by (with_reducible repeat (first | refine k_n ?_ _ | refine k_d ?_ | refine k_a ?_ _)); refine blk_far ?_ NB130_135.out _; (with_reducible repeat (first | refine k_n ?_ _ | refine k_d ?_ | refine k_a ?_ _)); refine blk_far ?_ NB130_135.out _; (with_reducible repeat (first | refine k_n ?_ _ | refine k_d ?_ | refine k_a ?_ _)); refine blk_far ?_ NB130_135.out _; (with_reducible repeat (first | refine k_n ?_ _ | refine k_d ?_ | refine k_a ?_ _)); exact BK130.out) hb); replace BK135 := Aside0.mk (blk_below (g := gb135) (o := .cells #[.int .i64 ((rd_T24 l0 x15_1).f0), .int .i64 ((rd_T24 l0 x15_1).f1), .slice A134_2 ((rd_T24 l0 x15_1).f2).length c134_2] 24 (0, 0)) (by (with_reducible repeat (first | refine k_n ?_ _ | refine k_d ?_ | refine k_a ?_ _)); refine blk_put (cs := #[.int .i64 ((rd_T24 l0 x15_1).f0), .int .i64 ((rd_T24 l0 x15_1).f1), .slice none 0 0]) ?_ 2 _ rfl; (with_reducible repeat (first | refine k_n ?_ _ | refine k_d ?_ | refine k_a ?_ _)); refine blk_put (cs := #[.int .i64 ((rd_T24 l0 x15_1).f0), .int .i64 0, .slice none 0 0]) ?_ 1 _ rfl; (with_reducible repeat (first | refine k_n ?_ _ | refine k_d ?_ | refine k_a ?_ _)); refine blk_put (cs := #[.int .i64 0, .int .i64 0, .slice none 0 0]) ?_ 0 _ rfl; (with_reducible repeat (first | refine k_n ?_ _ | refine k_d ?_ | refine k_a ?_ _)); exact BK135.out) hb); replace HB := Aside0.mk (below_step (bw_ HB) hb); (try clear hb); (try clear hb2); (try clear hk); (try clear hi); (try clear ho0); have p12 : 0 ≤ (x15_1 : Int) := of_decide_eq_true (by first | (with_reducible assumption) | assumption); have q12 : (x15_1 : Int) < ((x4_1.length : Int) : Int) := of_decide_eq_true (by first | (with_reducible assumption) | assumption); obtain ⟨go12, co12, eo12, gb12, gl12, cl12, HG12⟩ := Kd.S_form HO_4.out (by omega); (first | cases eo12 | (injection eo12 with ea_ en_ ec_; (first | subst ea_ | (injection ea_ with ea_; subst ea_)); subst ec_; clear en_)); have GB12 := Aside0.mk gb12; have GG12 := Aside0.mk HG12; clear gb12 gl12 HG12; obtain ⟨_, ce12, hcl12, hM12, hcc12, hfr12, _, _⟩ := Kd.S_elem HO_4.out z24 (x15_1 : Int) p12 q12; obtain ⟨ve12_2, rfl, ge12_2⟩ := k24_openM hM12; have hx12_0 : w17.cell? ⟨go12, (x15_1 : Int).toNat * 3, none⟩ = some (.int .i64 ((rd_T24 x4_1 x15_1).f0)) := hcc12 0 _ rfl; have hx12_1 : w17.cell? ⟨go12, (x15_1 : Int).toNat * 3 + 1, none⟩ = some (.int .i64 ((rd_T24 x4_1 x15_1).f1)) := hcc12 1 _ rfl; have hx12_2 : w17.cell? ⟨go12, (x15_1 : Int).toNat * 3 + 2, none⟩ = some (ve12_2) := hcc12 2 _ rfl; have hf12_0 : w17.frozen? ⟨go12, (x15_1 : Int).toNat * 3, none⟩ = false := hfr12 0; have hf12_1 : w17.frozen? ⟨go12, (x15_1 : Int).toNat * 3 + 1, none⟩ = false := hfr12 1; have hf12_2 : w17.frozen? ⟨go12, (x15_1 : Int).toNat * 3 + 2, none⟩ = false := hfr12 2; clear hcl12 hcc12 hfr12 hM12; replace p12 := eq_true p12; replace q12 := eq_true q12; have n_ := Aside0.mk (Kd.S_mono (ok' := (fun k_ => some k_ ≠ (v139 : Value).ownBlock ∧ k_ ≠ gb130 ∧ k_ ≠ gb135)) HO_4.out (fun k_ hk => ⟨hk.2, ⟨hk.1.1, hk.1.2⟩⟩)); clear HO_4; have HO_4 := n_; clear n_; have HX18 := Aside0.mk (show Kd.S k24 24 w17 w.heap.size (fun k_ => ((fun k_ => k_ ≠ gb130 ∧ k_ ≠ gb135)) k_ ∧ ¬ ((fun k_ => some k_ = (v139 : Value).ownBlock)) k_) (.slice (some ⟨go12, 0, none⟩) x4_1.length co12) x4_1 from (by (with_reducible repeat (first | apply Kd.S_alloc | apply Kd.S_drewN | apply Kd.S_drew)); exact Kd.S_mono HO_4.out (fun k_ hk => ⟨⟨hk.2.1, hk.2.2⟩, fun e_ => hk.1 e_⟩))); obtain ⟨oki18, ce18, hcl18, hM18, hcc18, hfr18, hoki18, hH18⟩ := Kd.S_elem HX18.out z24 (x15_1 : Int) (of_decide_eq_true (by first | (with_reducible assumption) | assumption)) (by have h_ : (x15_1 : Int) < ((x4_1.length : Int) : Int) := of_decide_eq_true (by first | (with_reducible assumption) | assumption); first | exact h_ | (have e_ := (Kd.S_reads' HO_4.out).1; omega) | simpa using h_); obtain ⟨ve18_2, rfl, ge18_2⟩ := k24_openM hM18; have HP18 := Kd.S_seg hH18 (of_decide_eq_true (by first | (with_reducible assumption) | assumption)) (by have h_ : (x15_1 : Int) < ((x4_1.length : Int) : Int) := of_decide_eq_true (by first | (with_reducible assumption) | assumption); first | exact h_ | (have e_ := (Kd.S_reads' HO_4.out).1; omega) | simpa using h_) (seg := [.int .i64 t136, .int .i64 t137, v139]) (j := 0) (show 3 ≤ 3 from by decide) (x' := (⟨t136, t137, t138⟩ : S24)) (k24_mkM _ _ _ (⟨t136, t137, t138⟩ : S24) (Kd.R_mono (Kd.R_tight rfl (Kd.R_mono (ok' := fun k_ => ((fun k_ => k_ ≠ gb130 ∧ k_ ≠ gb135)) k_ ∧ k_ ≠ go12) (Kd.R_types (Kd.R_types (Kd.R_apart' (HO140.out) (Kd.S_typed HO_4.out) (by decide)) BK130.out (by decide)) BK135.out (by decide)) (fun k_ hk => ⟨⟨hk.1.2, hk.2⟩, fun e_ => (hk.1.1.2) (by rw [e_]; rfl)⟩))) (fun _ h_ => Or.inr (h_)))) (fun _ hk => hk) (fun k_ hk_ => ((Kd.R_mono (ok' := fun k_ => ((fun k_ => k_ ≠ gb130 ∧ k_ ≠ gb135)) k_ ∧ k_ ≠ go12) (Kd.R_types (Kd.R_types (Kd.R_apart' (HO140.out) (Kd.S_typed HO_4.out) (by decide)) BK130.out (by decide)) BK135.out (by decide)) (fun k_ hk => ⟨⟨hk.1.2, hk.2⟩, fun e_ => (hk.1.1.2) (by rw [e_]; rfl)⟩))).1 k_ hk_.symm); have hx18_0 := hcc18 0 _ rfl; (try simp only [show (k24).sz = 3 from rfl, Nat.mul_one, Nat.add_zero] at hx18_0); have hf18_0 := hfr18 0; (try simp only [show (k24).sz = 3 from rfl, Nat.mul_one, Nat.add_zero] at hf18_0); have hx18_1 := hcc18 1 _ rfl; (try simp only [show (k24).sz = 3 from rfl, Nat.mul_one, Nat.add_zero] at hx18_1); have hf18_1 := hfr18 1; (try simp only [show (k24).sz = 3 from rfl, Nat.mul_one, Nat.add_zero] at hf18_1); have hx18_2 := hcc18 2 _ rfl; (try simp only [show (k24).sz = 3 from rfl, Nat.mul_one, Nat.add_zero] at hx18_2); have hf18_2 := hfr18 2; (try simp only [show (k24).sz = 3 from rfl, Nat.mul_one, Nat.add_zero] at hf18_2); clear hcl18 hcc18 hfr18 hM18 hoki18 hH18) | ((with_reducible refine gate_store (t := 24) (p := 27) rfl ?_); refine store_event (t := 24) (p := 27) (v := ?vo_w19) (w1 := (((w17.setCell ⟨go12, (x15_1 : Int).toNat * 3, none⟩ (.int .i64 t136)).setCell ⟨go12, (x15_1 : Int).toNat * 3 + 1, none⟩ (.int .i64 t137)).setCell ⟨go12, (x15_1 : Int).toNat * 3 + 2, none⟩ (v139))) ?hg ?ho ?hn ?hr ?_; (case ho => rfl); (case hg => rfl); (case hn => rfl); (case hr => first | (go_simp; done) | (obtain ⟨_, _, eo_⟩ := Kd.R_slice HO140.out; subst eo_; first | (go_simp; done) | (go_simp; rfl)) | (go_simp; rfl)); intro w19 hw; have hg : w17.grownBy w19 (some go12) := (by rw [hw]; exact HP18.2); have hp_ : Kd.S k24 24 w19 w.heap.size (fun k_ => k_ ≠ gb130 ∧ k_ ≠ gb135) (.slice (some ⟨go12, 0, none⟩) x4_1.length co12) y142 := (by rw [hw, Ny142.out]; exact HP18.1); clear HP18; have n0_ := Aside0.mk (hp_); have n1_ := Aside0.mk (blk_grown (tk_ BK130) hg (Kd.S_away HO_4.out (fun _ hk => hk.2.1))); have n2_ := Aside0.mk (blk_grown (tk_ BK135) hg (Kd.S_away HO_4.out (fun _ hk => hk.2.2))); have n3_ := Aside0.mk ((by rw [hw]; exact b_s (b_s (b_s (HB.out) GB12.out) GB12.out) GB12.out : Below w.heap.size w w19)); clear HO_4; clear BK130; clear BK135; clear HB; clear HO140; have HO_4 := n0_; have BK130 := n1_; have BK135 := n2_; have HB := n3_; clear n0_ n1_ n2_ n3_; clear hg hw hp_))
    go_roundg k1
    case measure => have := HK1.out; omega
    case rel => exact ⟨(y142), (wrap64 (x15_1 + 1)), (x131000_1), (x131001_1), (by first | rfl | (simp; done) | (simp [*]; done)), H', ⟨by have := HK1.out; omega⟩, ⟨by (with_reducible repeat (first | apply Kd.S_alloc | apply Kd.S_drewN | apply Kd.S_drew)); exact Kd.S_mono HO_4.out (fun _ hk => hk.1)⟩, ⟨tk_ BK130⟩, ⟨by repeat (first | (with_reducible first | exact HB.out | apply b_a | apply b_n | apply b_d | refine b_s ?_ GE130.out | refine b_s ?_ GE135.out) | exact HB.out)⟩⟩
   rw [if_neg c13] at H
   have c13b0 : (t141 == 0) = false := beq_eq_false_iff_ne.mpr c13
   have c13b1 : (t141 != 0) = true := bne_iff_ne.mpr c13
   simp only [Option.some.injEq, Prod.mk.injEq] at H
   obtain ⟨rfl, rfl, rfl, rfl⟩ := H
   have p134 : 0 ≤ (x15_1 : Int) := of_decide_eq_true (by first | (with_reducible assumption) | assumption)
   have q134 : x15_1 < (l0.length : Int) := of_decide_eq_true (by first | (with_reducible assumption) | assumption)
   obtain ⟨ad134, A134_2, c134_2, e134, hx134_0, hx134_1, hx134_2, hl134_2, hi134_2⟩ := at_T24 HR0.out x15_1 p134 q134
   cases e134
   replace hx134_0 := cb_ HB hx134_0
   replace hx134_1 := cb_ HB hx134_1
   replace hx134_2 := cb_ HB hx134_2
   have HR134_2 := Aside0.mk hi134_2
   have HC134_2 := Aside0.mk hl134_2
   clear hi134_2 hl134_2
   replace p134 := eq_true p134
   replace q134 := eq_true q134
   go_wp2_with (first | ((with_reducible refine gate_dst (N := 6) rfl ?_); refine box_event ?hg (N := 6) ?hd (cs := #[.int .i64 0, .int .i64 0, .slice none 0 0]) (t := 24) ?hr ?_; (case hd => rfl); (case hg => rfl); (case hr => first | (go_simp; done) | (go_simp; rfl)); intro gb135 hg w20 hbox hb; have BK135 := Aside0.mk (hbox); have GW135 := Aside0.mk ((by rw [hg]; exact (below_size (bw_ HB)) : w.heap.size ≤ gb135)); have GE135 := Aside0.mk ((by rw [hg]; exact (below_size (bw_ HB)) : w.heap.size ≤ gb135)); have NB130_135 := Aside0.mk ((by rw [hg]; exact Nat.ne_of_lt (blk_lt (tk_ BK130)) : gb130 ≠ gb135)); have NB135_130 := Aside0.mk ((by rw [hg]; exact Nat.ne_of_gt (blk_lt (tk_ BK130)) : gb135 ≠ gb130)); replace HO_4 := Aside0.mk (Kd.S_below (Kd.S_elderB (tS_ HO_4) gb135 (Nat.le_of_eq hg.symm)) hb); replace BK130 := Aside0.mk (blk_below (tk_ BK130) hb); replace HB := Aside0.mk (below_step (bw_ HB) hb); clear hb hbox hg; have hnb21 := NB135_130.out; have hnc21 := NB130_135.out; have hcz22_0 := bc_0 BK135; have hcz22_1 := bc_1 BK135; have hcz22_2 := bc_2 BK135; have hfz22_0 := blk_frozen BK135.out 0; have hfz22_1 := blk_frozen BK135.out 1; have hfz22_2 := blk_frozen BK135.out 2) | ((with_reducible refine gate_callee (f := 22) rfl ?_); refine goesL_ (some 24) rfl rfl Try.func22 (by kernel_rfl) rfl #[.agg #[.int .i64 ((rd_T24 l0 x15_1).f0), .int .i64 ((rd_T24 l0 x15_1).f1), .slice A134_2 ((rd_T24 l0 x15_1).f2).length c134_2]] rfl (by (try simp only [l_4, l_5, l_6]); first | done | rfl | (simp only [l_7, l_8]; rfl)) ?_; (with_reducible refine (grid_Turn.calls k1 ((rd_T24 l0 x15_1).f0) ((rd_T24 l0 x15_1).f1) _ _ ((rd_T24 l0 x15_1).f2) t136 t137 t138 t141 _ ?side1 ?side2 A10.out).mono ?_); (case side1 => exact Kd.C_below HR134_2.out (bw_ HB)); (case side2 => exact HC134_2.out); rintro e w23 ⟨v139, rfl, ho0, hb⟩; (try clear A10); refine ⟨_, rfl, ?_⟩; have HO140 := Aside0.mk (Kd.R_lower ho0 (below_size (bw_ HB))); replace HO_4 := Aside0.mk (Kd.S_elder' (by (with_reducible repeat (first | apply Kd.S_alloc | apply Kd.S_drewN | apply Kd.S_drew)); exact (Kd.S_mono (Kd.S_far (p := ⟨gb135, 2, none⟩) (Kd.S_far (p := ⟨gb135, 1, none⟩) (Kd.S_far (p := ⟨gb135, 0, none⟩) (Kd.S_mono HO_4.out (fun k_ hk => (⟨hk, hk.2⟩ : _ ∧ k_ ≠ gb135))) (fun _ hk => hk.2) (.int .i64 ((rd_T24 l0 x15_1).f0))) (fun _ hk => hk.2) (.int .i64 ((rd_T24 l0 x15_1).f1))) (fun _ hk => hk.2) (.slice A134_2 ((rd_T24 l0 x15_1).f2).length c134_2)) (fun _ h_ => h_.1))) (Kd.R_base ho0) hb); replace BK130 := Aside0.mk (blk_below (g := gb130) (o := .cells #[.int .i64 x131000_1, .int .i64 x131001_1, .slice none 0 0] 24 (0, 0)) (by (with_reducible repeat (first | refine k_n ?_ _ | refine k_d ?_ | refine k_a ?_ _)); refine blk_far ?_ NB130_135.out _; (with_reducible repeat (first | refine k_n ?_ _ | refine k_d ?_ | refine k_a ?_ _)); refine blk_far ?_ NB130_135.out _; (with_reducible repeat (first | refine k_n ?_ _ | refine k_d ?_ | refine k_a ?_ _)); refine blk_far ?_ NB130_135.out _; (with_reducible repeat (first | refine k_n ?_ _ | refine k_d ?_ | refine k_a ?_ _)); exact BK130.out) hb); replace BK135 := Aside0.mk (blk_below (g := gb135) (o := .cells #[.int .i64 ((rd_T24 l0 x15_1).f0), .int .i64 ((rd_T24 l0 x15_1).f1), .slice A134_2 ((rd_T24 l0 x15_1).f2).length c134_2] 24 (0, 0)) (by (with_reducible repeat (first | refine k_n ?_ _ | refine k_d ?_ | refine k_a ?_ _)); refine blk_put (cs := #[.int .i64 ((rd_T24 l0 x15_1).f0), .int .i64 ((rd_T24 l0 x15_1).f1), .slice none 0 0]) ?_ 2 _ rfl; (with_reducible repeat (first | refine k_n ?_ _ | refine k_d ?_ | refine k_a ?_ _)); refine blk_put (cs := #[.int .i64 ((rd_T24 l0 x15_1).f0), .int .i64 0, .slice none 0 0]) ?_ 1 _ rfl; (with_reducible repeat (first | refine k_n ?_ _ | refine k_d ?_ | refine k_a ?_ _)); refine blk_put (cs := #[.int .i64 0, .int .i64 0, .slice none 0 0]) ?_ 0 _ rfl; (with_reducible repeat (first | refine k_n ?_ _ | refine k_d ?_ | refine k_a ?_ _)); exact BK135.out) hb); replace HB := Aside0.mk (below_step (bw_ HB) hb); (try clear hb); (try clear hb2); (try clear hk); (try clear hi); (try clear ho0); have p12 : 0 ≤ (x15_1 : Int) := of_decide_eq_true (by first | (with_reducible assumption) | assumption); have q12 : (x15_1 : Int) < ((x4_1.length : Int) : Int) := of_decide_eq_true (by first | (with_reducible assumption) | assumption); obtain ⟨go12, co12, eo12, gb12, gl12, cl12, HG12⟩ := Kd.S_form HO_4.out (by omega); (first | cases eo12 | (injection eo12 with ea_ en_ ec_; (first | subst ea_ | (injection ea_ with ea_; subst ea_)); subst ec_; clear en_)); have GB12 := Aside0.mk gb12; have GG12 := Aside0.mk HG12; clear gb12 gl12 HG12; obtain ⟨_, ce12, hcl12, hM12, hcc12, hfr12, _, _⟩ := Kd.S_elem HO_4.out z24 (x15_1 : Int) p12 q12; obtain ⟨ve12_2, rfl, ge12_2⟩ := k24_openM hM12; have hx12_0 : w23.cell? ⟨go12, (x15_1 : Int).toNat * 3, none⟩ = some (.int .i64 ((rd_T24 x4_1 x15_1).f0)) := hcc12 0 _ rfl; have hx12_1 : w23.cell? ⟨go12, (x15_1 : Int).toNat * 3 + 1, none⟩ = some (.int .i64 ((rd_T24 x4_1 x15_1).f1)) := hcc12 1 _ rfl; have hx12_2 : w23.cell? ⟨go12, (x15_1 : Int).toNat * 3 + 2, none⟩ = some (ve12_2) := hcc12 2 _ rfl; have hf12_0 : w23.frozen? ⟨go12, (x15_1 : Int).toNat * 3, none⟩ = false := hfr12 0; have hf12_1 : w23.frozen? ⟨go12, (x15_1 : Int).toNat * 3 + 1, none⟩ = false := hfr12 1; have hf12_2 : w23.frozen? ⟨go12, (x15_1 : Int).toNat * 3 + 2, none⟩ = false := hfr12 2; clear hcl12 hcc12 hfr12 hM12; replace p12 := eq_true p12; replace q12 := eq_true q12; have n_ := Aside0.mk (Kd.S_mono (ok' := (fun k_ => some k_ ≠ (v139 : Value).ownBlock ∧ k_ ≠ gb130 ∧ k_ ≠ gb135)) HO_4.out (fun k_ hk => ⟨hk.2, ⟨hk.1.1, hk.1.2⟩⟩)); clear HO_4; have HO_4 := n_; clear n_; have HX24 := Aside0.mk (show Kd.S k24 24 w23 w.heap.size (fun k_ => ((fun k_ => k_ ≠ gb130 ∧ k_ ≠ gb135)) k_ ∧ ¬ ((fun k_ => some k_ = (v139 : Value).ownBlock)) k_) (.slice (some ⟨go12, 0, none⟩) x4_1.length co12) x4_1 from (by (with_reducible repeat (first | apply Kd.S_alloc | apply Kd.S_drewN | apply Kd.S_drew)); exact Kd.S_mono HO_4.out (fun k_ hk => ⟨⟨hk.2.1, hk.2.2⟩, fun e_ => hk.1 e_⟩))); obtain ⟨oki24, ce24, hcl24, hM24, hcc24, hfr24, hoki24, hH24⟩ := Kd.S_elem HX24.out z24 (x15_1 : Int) (of_decide_eq_true (by first | (with_reducible assumption) | assumption)) (by have h_ : (x15_1 : Int) < ((x4_1.length : Int) : Int) := of_decide_eq_true (by first | (with_reducible assumption) | assumption); first | exact h_ | (have e_ := (Kd.S_reads' HO_4.out).1; omega) | simpa using h_); obtain ⟨ve24_2, rfl, ge24_2⟩ := k24_openM hM24; have HP24 := Kd.S_seg hH24 (of_decide_eq_true (by first | (with_reducible assumption) | assumption)) (by have h_ : (x15_1 : Int) < ((x4_1.length : Int) : Int) := of_decide_eq_true (by first | (with_reducible assumption) | assumption); first | exact h_ | (have e_ := (Kd.S_reads' HO_4.out).1; omega) | simpa using h_) (seg := [.int .i64 t136, .int .i64 t137, v139]) (j := 0) (show 3 ≤ 3 from by decide) (x' := (⟨t136, t137, t138⟩ : S24)) (k24_mkM _ _ _ (⟨t136, t137, t138⟩ : S24) (Kd.R_mono (Kd.R_tight rfl (Kd.R_mono (ok' := fun k_ => ((fun k_ => k_ ≠ gb130 ∧ k_ ≠ gb135)) k_ ∧ k_ ≠ go12) (Kd.R_types (Kd.R_types (Kd.R_apart' (HO140.out) (Kd.S_typed HO_4.out) (by decide)) BK130.out (by decide)) BK135.out (by decide)) (fun k_ hk => ⟨⟨hk.1.2, hk.2⟩, fun e_ => (hk.1.1.2) (by rw [e_]; rfl)⟩))) (fun _ h_ => Or.inr (h_)))) (fun _ hk => hk) (fun k_ hk_ => ((Kd.R_mono (ok' := fun k_ => ((fun k_ => k_ ≠ gb130 ∧ k_ ≠ gb135)) k_ ∧ k_ ≠ go12) (Kd.R_types (Kd.R_types (Kd.R_apart' (HO140.out) (Kd.S_typed HO_4.out) (by decide)) BK130.out (by decide)) BK135.out (by decide)) (fun k_ hk => ⟨⟨hk.1.2, hk.2⟩, fun e_ => (hk.1.1.2) (by rw [e_]; rfl)⟩))).1 k_ hk_.symm); have hx24_0 := hcc24 0 _ rfl; (try simp only [show (k24).sz = 3 from rfl, Nat.mul_one, Nat.add_zero] at hx24_0); have hf24_0 := hfr24 0; (try simp only [show (k24).sz = 3 from rfl, Nat.mul_one, Nat.add_zero] at hf24_0); have hx24_1 := hcc24 1 _ rfl; (try simp only [show (k24).sz = 3 from rfl, Nat.mul_one, Nat.add_zero] at hx24_1); have hf24_1 := hfr24 1; (try simp only [show (k24).sz = 3 from rfl, Nat.mul_one, Nat.add_zero] at hf24_1); have hx24_2 := hcc24 2 _ rfl; (try simp only [show (k24).sz = 3 from rfl, Nat.mul_one, Nat.add_zero] at hx24_2); have hf24_2 := hfr24 2; (try simp only [show (k24).sz = 3 from rfl, Nat.mul_one, Nat.add_zero] at hf24_2); clear hcl24 hcc24 hfr24 hM24 hoki24 hH24) | ((with_reducible refine gate_store (t := 24) (p := 27) rfl ?_); refine store_event (t := 24) (p := 27) (v := ?vo_w25) (w1 := (((w23.setCell ⟨go12, (x15_1 : Int).toNat * 3, none⟩ (.int .i64 t136)).setCell ⟨go12, (x15_1 : Int).toNat * 3 + 1, none⟩ (.int .i64 t137)).setCell ⟨go12, (x15_1 : Int).toNat * 3 + 2, none⟩ (v139))) ?hg ?ho ?hn ?hr ?_; (case ho => rfl); (case hg => rfl); (case hn => rfl); (case hr => first | (go_simp; done) | (obtain ⟨_, _, eo_⟩ := Kd.R_slice HO140.out; subst eo_; first | (go_simp; done) | (go_simp; rfl)) | (go_simp; rfl)); intro w25 hw; have hg : w23.grownBy w25 (some go12) := (by rw [hw]; exact HP24.2); have hp_ : Kd.S k24 24 w25 w.heap.size (fun k_ => k_ ≠ gb130 ∧ k_ ≠ gb135) (.slice (some ⟨go12, 0, none⟩) x4_1.length co12) y142 := (by rw [hw, Ny142.out]; exact HP24.1); clear HP24; have n0_ := Aside0.mk (hp_); have n1_ := Aside0.mk (blk_grown (tk_ BK130) hg (Kd.S_away HO_4.out (fun _ hk => hk.2.1))); have n2_ := Aside0.mk (blk_grown (tk_ BK135) hg (Kd.S_away HO_4.out (fun _ hk => hk.2.2))); have n3_ := Aside0.mk ((by rw [hw]; exact b_s (b_s (b_s (HB.out) GB12.out) GB12.out) GB12.out : Below w.heap.size w w25)); clear HO_4; clear BK130; clear BK135; clear HB; clear HO140; have HO_4 := n0_; have BK130 := n1_; have BK135 := n2_; have HB := n3_; clear n0_ n1_ n2_ n3_; clear hg hw hp_; have hcz26_0 := bc_0 BK130; have hcz26_1 := bc_1 BK130; have hcz26_2 := bc_2 BK130; have hfz26_0 := blk_frozen BK130.out 0; have hfz26_1 := blk_frozen BK130.out 1; have hfz26_2 := blk_frozen BK130.out 2))
   refine bodyPost_ret (results_ct rfl _ _ gb130 24 #[.int .i64 0, .int .i64 0, .slice none 0 0] (0, 0) _ rfl (by (with_reducible repeat (first | refine k_n ?_ _ | refine k_d ?_ | refine k_a ?_ _)); refine blk_put (cs := #[.int .i64 0, .int .i64 0, .slice none 0 0]) ?_ 2 _ rfl; (with_reducible repeat (first | refine k_n ?_ _ | refine k_d ?_ | refine k_a ?_ _)); refine blk_put (cs := #[.int .i64 0, .int .i64 x131001_1, .slice none 0 0]) ?_ 1 _ rfl; (with_reducible repeat (first | refine k_n ?_ _ | refine k_d ?_ | refine k_a ?_ _)); refine blk_put (cs := #[.int .i64 x131000_1, .int .i64 x131001_1, .slice none 0 0]) ?_ 0 _ rfl; (with_reducible repeat (first | refine k_n ?_ _ | refine k_d ?_ | refine k_a ?_ _)); exact BK130.out) Try.underlying24 rfl (by kernel_rfl)) rfl ?_
   exact ⟨_, by first | rfl | (simp [errW_none, errW_some] <;> rfl) | (simp [*, errW_none, errW_some] <;> rfl), by first | exact Kd.R_nil _ _ _ _ _ | exact Kd.N_nil _ _ _ _ _ | exact Kd.V_nil _ _ _ _ _ | exact Kd.Q_nil _ _ _ _ _ | exact Kd.S_nil _ _ _ _ _, by repeat (first | (with_reducible first | exact HB.out | apply b_a | apply b_n | apply b_d | refine b_s ?_ GE130.out | refine b_s ?_ GE135.out) | exact HB.out)⟩
end Go.Proofs.Ytggcgacndknlaaa.QGridBack
