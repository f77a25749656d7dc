-- Written by a program of this session (a turned copy of the print) out of the translation. Lean checks it.
import Derived.Test.YtggcgacndknlaaaQGridPartsx0
import Derived.Test.YtggcgacndknlaaaQGridPartsx1
import Derived.Test.YtggcgacndknlaaaQGridPartsx2
import Derived.Test.YtggcgacndknlaaaQGridPartsx3
namespace Go.Proofs.Ytggcgacndknlaaa.QGridParts
open Go.RowKit Go.Proofs.YtggcgacndknlaaaW.PrintWords Go.Proofs.YtggcgacndknlaaaW.PrintLast Go.Proofs.YtggcgacndknlaaaW.PrintMore
attribute [local go_sem] max2_int min2_int max_two min_two max_three min_three max_four min_four   -- for this text's walks alone
open Go.Proofs.YtggcgacndknlaaaW.PrintWords renaming below_alloc → b_a, pw_below_drewN → b_n, below_drew1 → b_d, below_set → b_s, blk_drewN → k_n, blk_drew → k_d, blk_alloc → k_a
open List renaming setIfInBounds_toArray → l_1, set_cons_zero → l_2, set_cons_succ → l_3, map_toArray → l_4, map_cons → l_5, map_nil → l_6, length_drop → l_7, length_take → l_8
set_option linter.unusedVariables false
set_option linter.unusedSimpArgs false

/-! ### pelotonlaw03_awake: function 10, by hand -/
def pelotonlaw03_awake.T5 : Bool × List (List Nat × List Nat) := (true, [([], []), ([0], [0]), ([1], [1]), ([2], [2]), ([2], [2]), ([4, 2], [2, 4]), ([3, 5, 2, 2], [2, 3, 5]), ([2, 6], [2, 6]), ([7, 6], [7]), ([8], [8]), ([9, 8], [8, 9]), ([8, 10], [8, 10]), ([11, 8], [11]), ([12], [12]), ([12], [12]), ([14, 12, 12], [12, 14]), ([13, 15, 15, 12], [12, 13, 15]), ([12, 16], [12, 16]), ([17, 16], [17]), ([18], [18]), ([19, 18], [18, 19]), ([18, 20], [18, 20]), ([21, 18, 0, 1, 2, 3, 4, 5, 6, 7, 8, 9, 10, 11, 12, 13, 14, 15, 16, 17, 18, 19, 20, 21], [21])])
def pelotonlaw03_awake.B5 : List Nat := [0, 1, 3, 7, 7, 23, 63, 127, 255, 511, 1023, 2047, 4095, 8191, 8191, 24575, 65535, 131071, 262143, 524287, 1048575, 2097151, 4194303]
theorem pelotonlaw03_awake.tab5 : rtab .any (opsOf Try.f10 5) = pelotonlaw03_awake.T5 := by kernel_rfl
theorem pelotonlaw03_awake.bits5 : waitsOk pelotonlaw03_awake.T5.2 pelotonlaw03_awake.B5 = true := by kernel_rfl
def pelotonlaw03_awake.f : Option Bool := some true
theorem pelotonlaw03_awake.times : grid_Times.f 50 2 2 [1, 2, 3, 4] 2 1 [1, 1] = some (2, 1, [3, 7], 0) := by decide +kernel
theorem pelotonlaw03_awake.turn : grid_Turn.f 50 2 2 [1, 2, 3, 4] = some (2, 2, [1, 3, 2, 4], 0) := by decide +kernel
theorem pelotonlaw03_awake.stack : grid_Stack.f 50 [(⟨2, 2, [1, 2, 3, 4]⟩ : S24), ⟨1, 3, [1, 2, 3]⟩] = some (0, 0, [], 30) := by decide +kernel
theorem pelotonlaw03_awake.same1 : pelotonref03_Same.f 50 2 1 [3, 7] 2 1 [3, 7] = some true := by decide +kernel
theorem pelotonlaw03_awake.same2 : pelotonref03_Same.f 50 2 2 [1, 3, 2, 4] 2 2 [1, 3, 2, 4] = some true := by decide +kernel
theorem pelotonlaw03_awake.two1 : pelotonlaw03_two.f [1, 2, 3, 4] = some (2, 2, [1, 2, 3, 4]) := by decide +kernel
theorem pelotonlaw03_awake.two2 : pelotonlaw03_two.f [1, 3, 2, 4] = some (2, 2, [1, 3, 2, 4]) := by decide +kernel
set_option maxHeartbeats 8000000 in
set_option maxRecDepth 100000 in
theorem pelotonlaw03_awake.calls (r : Bool) (w : World) (h : pelotonlaw03_awake.f = some r) :
    Calls Try.prog 10 #[] w fun e w' => e = .returned (.bool r) ∧ Below w.heap.size w w' := by
  obtain rfl := Option.some.inj h
  clear h
  have hu24 := Try.underlying24
  have HB := Aside0.mk (Below.refl w.heap.size w)
  go_enter Try.func10, Try.ntmps10
  go_upto_region 2 with (first | ((with_reducible refine gate_dst (N := 8) rfl ?_); refine Kd.R_lit (Kd.int .i32) _ 21 ?hg (N := 8) ?hd (xs := ([1, 2, 3, 4] : List Int)) (inner := [.int .i32 1, .int .i32 2, .int .i32 3, .int .i32 4]) (ok := fun _ => True) (okp := fun _ => True) ?hr ?hp (fun _ hk => hk) trivial (Below.refl _ _) (Nat.le_refl _) (by simp) ?_; (case hd => rfl); (case hg => rfl); (case hr => first | (go_simp; done) | (go_simp; rfl)); (case hp => exact (Reps.one (show Kd.M (Kd.int .i32) _ _ _ 1 [.int .i32 1] from rfl) (Reps.one (show Kd.M (Kd.int .i32) _ _ _ 2 [.int .i32 2] from rfl) (Reps.one (show Kd.M (Kd.int .i32) _ _ _ 3 [.int .i32 3] from rfl) (Reps.one (show Kd.M (Kd.int .i32) _ _ _ 4 [.int .i32 4] from rfl) (Reps.none _ _)))))); intro v1 w1 ho hb hg_ hnew_; clear hg_ hnew_; have HO1 := Aside0.mk ho; have HB1 := Aside0.mk hb; clear ho hb) | (go_at_call 18; (refine (pelotonlaw03_two.calls (fun _ => True) v1 [1, 2, 3, 4] 2 2 [1, 2, 3, 4] w _ HB1.out HO1.out pelotonlaw03_awake.two1).mono ?_); rintro e w2 ⟨v2, rfl, ho, hb, _⟩; obtain ⟨A1, c1, e_⟩ := Kd.R_slice ho; (have e1_ : v2 = .slice A1 4 c1 := e_); clear e_; subst e1_; have CG0 := Aside0.mk (Kd.R_reads' ho).2.2; have LG := Aside0.mk (show 4 ≤ c1 from (Kd.R_reads' ho).2.1); have HB2 := Aside0.mk hb; clear ho hb) | ((with_reducible refine gate_dst (N := 1) rfl ?_); refine box_event ?hg (N := 1) ?hd (cs := #[.int .i64 0, .int .i64 0, .slice none 0 0]) (t := 24) ?hr ?_; (case hd => rfl); (case hg => rfl); (case hr => first | (go_simp; done) | (go_simp; rfl)); intro g1 hg_ wb hbox hbb; have BZ := Aside0.mk (fun u v x => below3 (u := u) (v := v) (x := x) hbb (Nat.le_of_eq hg_.symm)); have KZ := Aside0.mk (fun u v x => put3 (u := u) (v := v) (x := x) hbox); obtain ⟨b1, b2, b3, b4, b5, b6⟩ := cell3 hbox; clear hg_ hbox hbb))
  have BX := Aside0.mk (BZ.out (.int .i64 2) (.int .i64 2) (.slice A1 4 c1))
  have K1 := Aside0.mk (KZ.out (.int .i64 2) (.int .i64 2) (.slice A1 4 c1))
  generalize hW : ((wb.setCell ⟨g1, 0, none⟩ (.int .i64 2)).setCell ⟨g1, 1, none⟩ (.int .i64 2)).setCell ⟨g1, 2, none⟩ (.slice A1 4 c1) = W1 at *
  clear hW BZ KZ b1 b2 b3 b4 b5 b6
  have n_ := Aside0.mk (Kd.C_below CG0.out BX.out)
  have CG := n_
  clear n_
  have n_ := Aside0.mk (below_step HB2.out BX.out)
  have B := n_
  clear n_
  clear CG0 HB1 HB2 HO1 BX
  obtain ⟨x1, y1, z1, _, _, _⟩ := cell3 K1.out
  go_upto_region 3 with (first | ((with_reducible refine gate_dst (N := 12) rfl ?_); refine Kd.R_lit (Kd.int .i32) _ 21 ?hg (N := 12) ?hd (xs := ([1, 1] : List Int)) (inner := [.int .i32 1, .int .i32 1]) (ok := fun _ => True) (okp := fun _ => True) ?hr ?hp (fun _ hk => hk) trivial (Below.refl _ _) (Nat.le_refl _) (by simp) ?_; (case hd => rfl); (case hg => rfl); (case hr => first | (go_simp; done) | (go_simp; rfl)); (case hp => exact (Reps.one (show Kd.M (Kd.int .i32) _ _ _ 1 [.int .i32 1] from rfl) (Reps.one (show Kd.M (Kd.int .i32) _ _ _ 1 [.int .i32 1] from rfl) (Reps.none _ _)))); intro v4 w4 ho hb hg_ hnew_; clear hg_ hnew_; obtain ⟨A4, c4, e_⟩ := Kd.R_slice ho; (have e1_ : v4 = .slice A4 2 c4 := e_); clear e_; subst e1_; have C4 := Aside0.mk (Kd.R_reads' ho).2.2; have L4 := Aside0.mk (show 2 ≤ c4 from (Kd.R_reads' ho).2.1); have HB4 := Aside0.mk hb; clear ho hb) | (go_at_call 12; (refine (grid_Times.calls 50 2 2 A1 c1 [1, 2, 3, 4] 2 1 A4 c4 [1, 1] 2 1 [3, 7] 0 _ (Kd.C_below CG.out HB4.out) LG.out C4.out L4.out pelotonlaw03_awake.times).mono ?_); rintro e w5 ⟨v5, rfl, ho, hb⟩; obtain ⟨A5, c5, e_⟩ := Kd.R_slice ho; (have e1_ : v5 = .slice A5 2 c5 := e_); clear e_; subst e1_; have C5 := Aside0.mk (Kd.R_reads' ho).2.2; have L5 := Aside0.mk (show 2 ≤ c5 from (Kd.R_reads' ho).2.1); have HB5 := Aside0.mk (below_step HB4.out hb); clear ho hb) | ((with_reducible refine gate_dst (N := 2) rfl ?_); refine box_event ?hg (N := 2) ?hd (cs := #[.int .i64 0, .int .i64 0, .slice none 0 0]) (t := 24) ?hr ?_; (case hd => rfl); (case hg => rfl); (case hr => first | (go_simp; done) | (go_simp; rfl)); intro g2 hg_ wb hbox hbb; have BZ := Aside0.mk (fun u v x => below3 (u := u) (v := v) (x := x) hbb (Nat.le_of_eq hg_.symm)); have KZ := Aside0.mk (fun u v x => put3 (u := u) (v := v) (x := x) hbox); obtain ⟨b1, b2, b3, b4, b5, b6⟩ := cell3 hbox; clear hg_ hbox hbb))
  have BX := Aside0.mk (BZ.out (.int .i64 2) (.int .i64 1) (.slice A5 2 c5))
  have K2 := Aside0.mk (KZ.out (.int .i64 2) (.int .i64 1) (.slice A5 2 c5))
  generalize hW : ((wb.setCell ⟨g2, 0, none⟩ (.int .i64 2)).setCell ⟨g2, 1, none⟩ (.int .i64 1)).setCell ⟨g2, 2, none⟩ (.slice A5 2 c5) = W2 at *
  clear hW BZ KZ b1 b2 b3 b4 b5 b6
  have n_ := Aside0.mk (below_step HB5.out BX.out)
  have BB := n_
  clear n_
  have n_ := Aside0.mk (Kd.C_below CG.out BB.out)
  clear CG
  have CG := n_
  clear n_
  have n_ := Aside0.mk (blk_below K1.out BB.out)
  have K1 := n_
  clear n_
  have n_ := Aside0.mk (below_step B.out BB.out)
  clear B
  have B := n_
  clear n_
  have n_ := Aside0.mk (Kd.C_below C5.out BX.out)
  have CA := n_
  clear n_
  clear C4 L4 HB4 C5 HB5 BX BB x1 y1 z1
  obtain ⟨x1, y1, z1, _, _, _⟩ := cell3 K1.out
  go_upto_region 4 with (first | (go_at_call 22; (refine (grid_Turn.calls 50 2 2 A1 c1 [1, 2, 3, 4] 2 2 [1, 3, 2, 4] 0 _ CG.out LG.out pelotonlaw03_awake.turn).mono ?_); rintro e w6 ⟨v6, rfl, ho, hb⟩; obtain ⟨A6, c6, e_⟩ := Kd.R_slice ho; (have e1_ : v6 = .slice A6 4 c6 := e_); clear e_; subst e1_; have C6 := Aside0.mk (Kd.R_reads' ho).2.2; have L6 := Aside0.mk (show 4 ≤ c6 from (Kd.R_reads' ho).2.1); have HB6 := Aside0.mk hb; clear ho hb) | ((with_reducible refine gate_dst (N := 4) rfl ?_); refine box_event ?hg (N := 4) ?hd (cs := #[.int .i64 0, .int .i64 0, .slice none 0 0]) (t := 24) ?hr ?_; (case hd => rfl); (case hg => rfl); (case hr => first | (go_simp; done) | (go_simp; rfl)); intro g4 hg_ wb hbox hbb; have BZ := Aside0.mk (fun u v x => below3 (u := u) (v := v) (x := x) hbb (Nat.le_of_eq hg_.symm)); have KZ := Aside0.mk (fun u v x => put3 (u := u) (v := v) (x := x) hbox); obtain ⟨b1, b2, b3, b4, b5, b6⟩ := cell3 hbox; clear hg_ hbox hbb))
  have BX := Aside0.mk (BZ.out (.int .i64 2) (.int .i64 2) (.slice A6 4 c6))
  have K4 := Aside0.mk (KZ.out (.int .i64 2) (.int .i64 2) (.slice A6 4 c6))
  generalize hW : ((wb.setCell ⟨g4, 0, none⟩ (.int .i64 2)).setCell ⟨g4, 1, none⟩ (.int .i64 2)).setCell ⟨g4, 2, none⟩ (.slice A6 4 c6) = W3 at *
  clear hW BZ KZ b1 b2 b3 b4 b5 b6
  have n_ := Aside0.mk (below_step HB6.out BX.out)
  have BB := n_
  clear n_
  have n_ := Aside0.mk (Kd.C_below CG.out BB.out)
  clear CG
  have CG := n_
  clear n_
  have n_ := Aside0.mk (Kd.C_below CA.out BB.out)
  clear CA
  have CA := n_
  clear n_
  have n_ := Aside0.mk (blk_below K1.out BB.out)
  clear K1
  have K1 := n_
  clear n_
  have n_ := Aside0.mk (blk_below K2.out BB.out)
  have K2 := n_
  clear n_
  have n_ := Aside0.mk (below_step B.out BB.out)
  clear B
  have B := n_
  clear n_
  have n_ := Aside0.mk (Kd.C_below C6.out BX.out)
  have CT := n_
  clear n_
  clear C6 HB6 BX BB x1 y1 z1
  obtain ⟨x1, y1, z1, _, _, _⟩ := cell3 K1.out
  go_upto_region 5 with (first | ((with_reducible refine gate_dst (N := 24) rfl ?_); refine Kd.R_lit (Kd.int .i32) _ 21 ?hg (N := 24) ?hd (xs := ([1, 2, 3] : List Int)) (inner := [.int .i32 1, .int .i32 2, .int .i32 3]) (ok := fun _ => True) (okp := fun _ => True) ?hr ?hp (fun _ hk => hk) trivial (Below.refl _ _) (Nat.le_refl _) (by simp) ?_; (case hd => rfl); (case hg => rfl); (case hr => first | (go_simp; done) | (go_simp; rfl)); (case hp => exact (Reps.one (show Kd.M (Kd.int .i32) _ _ _ 1 [.int .i32 1] from rfl) (Reps.one (show Kd.M (Kd.int .i32) _ _ _ 2 [.int .i32 2] from rfl) (Reps.one (show Kd.M (Kd.int .i32) _ _ _ 3 [.int .i32 3] from rfl) (Reps.none _ _))))); intro v7 w7 ho hb hg_ hnew_; clear hg_ hnew_; obtain ⟨A7, c7, e_⟩ := Kd.R_slice ho; (have e1_ : v7 = .slice A7 3 c7 := e_); clear e_; subst e1_; have C7 := Aside0.mk (Kd.R_reads' ho).2.2; have L7 := Aside0.mk (show 3 ≤ c7 from (Kd.R_reads' ho).2.1); have HB7 := Aside0.mk hb; clear ho hb) | ((with_reducible refine gate_dst (N := 26) rfl ?_); refine Kd.N_lit k24 _ 24 ?hg (N' := 26) ?hd (xs := ([(⟨2, 2, [1, 2, 3, 4]⟩ : S24), ⟨1, 3, [1, 2, 3]⟩] : List S24)) (inner := [.int .i64 2, .int .i64 2, .slice A1 4 c1, .int .i64 1, .int .i64 3, .slice A7 3 c7]) (ok := fun _ => True) (okp := fun _ => True) ?hr ?hp (fun _ hk => hk) trivial (Below.refl _ _) (Nat.le_refl _) (by simp) ?_; (case hd => rfl); (case hg => rfl); (case hr => first | (go_simp; done) | (go_simp; rfl)); (case hp => exact (Reps.c3 (fk24 (⟨2, 2, [1, 2, 3, 4]⟩ : S24) LG.out (Kd.C_below CG.out HB7.out)) (Reps.c3 (fk24 (⟨1, 3, [1, 2, 3]⟩ : S24) L7.out C7.out) (Reps.none _ _)))); intro v8 w8 ho hb hg_ hnew_; clear hg_ hnew_; obtain ⟨A8, c8, e_⟩ := Kd.N_slice ho; (have e1_ : v8 = .slice A8 2 c8 := e_); clear e_; subst e1_; have HO8 := Aside0.mk ho; have HB8 := Aside0.mk (below_step HB7.out hb); clear ho hb) | (go_at_call 24; (refine (grid_Stack.calls 50 A8 c8 [(⟨2, 2, [1, 2, 3, 4]⟩ : S24), ⟨1, 3, [1, 2, 3]⟩] 0 0 [] 30 _ (Kd.N_reads' HO8.out).2.2 (Kd.N_reads' HO8.out).2.1 pelotonlaw03_awake.stack).mono ?_); rintro e w9 ⟨v9, rfl, ho, hb⟩; obtain ⟨A9, c9, e_⟩ := Kd.R_slice ho; (have e1_ : v9 = .slice A9 0 c9 := e_); clear e_; subst e1_; have HB9 := Aside0.mk (below_step HB8.out hb); clear ho hb) | ((with_reducible refine gate_dst (N := 6) rfl ?_); refine box_event ?hg (N := 6) ?hd (cs := #[.int .i64 0, .int .i64 0, .slice none 0 0]) (t := 24) ?hr ?_; (case hd => rfl); (case hg => rfl); (case hr => first | (go_simp; done) | (go_simp; rfl)); intro g6 hg_ wb hbox hbb; have BZ := Aside0.mk (fun u v x => below3 (u := u) (v := v) (x := x) hbb (Nat.le_of_eq hg_.symm)); have KZ := Aside0.mk (fun u v x => put3 (u := u) (v := v) (x := x) hbox); obtain ⟨b1, b2, b3, b4, b5, b6⟩ := cell3 hbox; clear hg_ hbox hbb))
  have BX := Aside0.mk (BZ.out (.int .i64 0) (.int .i64 0) (.slice A9 0 c9))
  have K6 := Aside0.mk (KZ.out (.int .i64 0) (.int .i64 0) (.slice A9 0 c9))
  generalize hW : ((wb.setCell ⟨g6, 0, none⟩ (.int .i64 0)).setCell ⟨g6, 1, none⟩ (.int .i64 0)).setCell ⟨g6, 2, none⟩ (.slice A9 0 c9) = W4 at *
  clear hW BZ KZ b1 b2 b3 b4 b5 b6
  have n_ := Aside0.mk (below_step HB9.out BX.out)
  have BB := n_
  clear n_
  have n_ := Aside0.mk (Kd.C_below CA.out BB.out)
  clear CA
  have CA := n_
  clear n_
  have n_ := Aside0.mk (Kd.C_below CT.out BB.out)
  clear CT
  have CT := n_
  clear n_
  have n_ := Aside0.mk (blk_below K2.out BB.out)
  clear K2
  have K2 := n_
  clear n_
  have n_ := Aside0.mk (blk_below K4.out BB.out)
  have K4 := n_
  clear n_
  have n_ := Aside0.mk (below_step B.out BB.out)
  clear B
  have B := n_
  clear n_
  clear C7 L7 HB7 HB8 HB9 HO8 BX BB x1 y1 z1 K1 K6 CG LG
  have n1_ := Aside0.mk (k_d K2.out)
  have n2_ := Aside0.mk (k_d K4.out)
  have n3_ := Aside0.mk (b_d B.out)
  have n4_ := Aside0.mk (Kd.C_drew CA.out)
  have n5_ := Aside0.mk (Kd.C_drew CT.out)
  clear K2 K4 B CA CT
  have K2 := n1_
  have K4 := n2_
  have B := n3_
  have CA := n4_
  have CT := n5_
  clear n1_ n2_ n3_ n4_ n5_
  refine start_ (n := 23) (S := fun W_ => (W_.cell? ⟨g2, 0, none⟩ = some (.int .i64 2) ∧ W_.cell? ⟨g2, 1, none⟩ = some (.int .i64 1) ∧ W_.cell? ⟨g2, 2, none⟩ = some (.slice A5 2 c5)) ∧ W_.cell? ⟨g4, 0, none⟩ = some (.int .i64 2) ∧ W_.cell? ⟨g4, 1, none⟩ = some (.int .i64 2) ∧ W_.cell? ⟨g4, 2, none⟩ = some (.slice A6 4 c6)) (ds := []) #[false, false, false, false, false, false, false, false, false, false, false, false, false, false, false, false, false, false, false, false, false, false, false] (by kernel_rfl) rfl rfl ⟨⟨(cell3 K2.out).1, (cell3 K2.out).2.1, (cell3 K2.out).2.2.1⟩, (cell3 K4.out).1, (cell3 K4.out).2.1, (cell3 K4.out).2.2.1⟩ (fun hHeld => ?_); refine with_tabW pelotonlaw03_awake.tab5 pelotonlaw03_awake.bits5 (fun HT_ HW_ => ?_)
  generalize W4.drew = w10 at K2 K4 B CA CT hHeld ⊢
  refine pure_ (i := 0) (N := some 30) (v := ?_) (a' := ?_) #[true, false, false, false, false, false, false, false, false, false, false, false, false, false, false, false, false, false, false, false, false, false, false] rfl rfl (any_of HT_.out (by kernel_rfl)) (fun _ _ _ h => h) (Or.inl ⟨by rfl, ?_⟩) ?_ ?_
  rotate_left
  ·
    intro w'
    go_simp
    with_reducible rfl
  rotate_left
  ·
    simp only [Act.put, l_1, l_2, l_3, i64_w, i32_w]
    rfl
  refine pure_ (i := 1) (N := some 31) (v := ?_) (a' := ?_) #[true, true, false, false, false, false, false, false, false, false, false, false, false, false, false, false, false, false, false, false, false, false, false] rfl rfl (any_of HT_.out (by kernel_rfl)) (fun _ _ _ h => h) (Or.inl ⟨by rfl, ?_⟩) ?_ ?_
  rotate_left
  ·
    intro w'
    go_simp
    with_reducible rfl
  rotate_left
  ·
    simp only [Act.put, l_1, l_2, l_3, i64_w, i32_w]
    rfl
  refine pure_ (i := 2) (N := some 32) (v := ?_) (a' := ?_) #[true, true, true, false, false, false, false, false, false, false, false, false, false, false, false, false, false, false, false, false, false, false, false] rfl rfl (any_of HT_.out (by kernel_rfl)) (fun _ _ _ h => h) (Or.inl ⟨by rfl, ?_⟩) ?_ ?_
  rotate_left
  ·
    intro w'
    go_simp
    with_reducible rfl
  rotate_left
  ·
    simp only [Act.put, l_1, l_2, l_3, i64_w, i32_w]
    rfl
  refine take_ (i := 3) (N := some 33) (v := ?_) (a' := ?_) #[true, true, true, true, false, false, false, false, false, false, false, false, false, false, false, false, false, false, false, false, false, false, false] rfl rfl (take_ofW HT_.out HW_.out (by kernel_rfl)) (fun _ _ _ h => h) (Or.inl ⟨by rfl, ?_⟩) hHeld ?_ ?_
  rotate_left
  ·
    rintro w' ⟨⟨s0, s1, s2⟩, s3, s4, s5⟩
    go_simp
    with_reducible rfl
  rotate_left
  ·
    simp only [Act.put, l_1, l_2, l_3, i64_w, i32_w]
    rfl
  refine one_ (i := 4) (N := some 34) #[true, true, true, true, true, false, false, false, false, false, false, false, false, false, false, false, false, false, false, false, false, false, false] rfl rfl (one_of HT_.out (by kernel_rfl)) (by decide) (fun K hK => ?_)
  refine Kd.R_lit_step (Kd.int .i32) _ 21 ?hg (N := 34) ?hd (xs := ([3, 7] : List Int)) (inner := [.int .i32 3, .int .i32 7]) (ok := fun _ => True) (okp := fun _ => True) ?hr ?hp (fun _ hk => hk) trivial (Below.refl _ _) (Nat.le_refl _) (by simp) ?_; (case hd => rfl); (case hg => rfl); (case hr => first | (go_simp; done) | (go_simp; rfl)); (case hp => exact (Reps.one (show Kd.M (Kd.int .i32) _ _ _ 3 [.int .i32 3] from rfl) (Reps.one (show Kd.M (Kd.int .i32) _ _ _ 7 [.int .i32 7] from rfl) (Reps.none _ _)))); intro v11 w11 ho hb hg_ hnew_
  clear hg_ hnew_
  obtain ⟨A11, c11, e_⟩ := Kd.R_slice ho; (have e1_ : v11 = .slice A11 2 c11 := e_); clear e_; subst e1_
  have C11 := Aside0.mk (Kd.R_reads' ho).2.2
  have L11 := Aside0.mk (show 2 ≤ c11 from (Kd.R_reads' ho).2.1)
  have n1_ := Aside0.mk (blk_below K2.out hb)
  have n2_ := Aside0.mk (blk_below K4.out hb)
  have n3_ := Aside0.mk (below_step B.out hb)
  have n4_ := Aside0.mk (Kd.C_below CA.out hb)
  have n5_ := Aside0.mk (Kd.C_below CT.out hb)
  clear K2 K4 B CA CT
  have K2 := n1_
  have K4 := n2_
  have B := n3_
  have CA := n4_
  have CT := n5_
  clear n1_ n2_ n3_ n4_ n5_
  clear ho hb
  refine hK.out _ _ ⟨⟨(cell3 K2.out).1, (cell3 K2.out).2.1, (cell3 K2.out).2.2.1⟩, (cell3 K4.out).1, (cell3 K4.out).2.1, (cell3 K4.out).2.2.1⟩ (fun hHeld => ?_)
  clear hK K
  refine norm_ (a' := ?_) ?_ ?_
  rotate_left
  ·
    show Act.put _ (some 34) _ = _
    simp only [Act.put, l_1, l_2, l_3, i64_w, i32_w]
    rfl
  refine pure_ (i := 5) (N := some 35) (v := ?_) (a' := ?_) #[true, true, true, true, true, true, false, false, false, false, false, false, false, false, false, false, false, false, false, false, false, false, false] rfl rfl (any_of HT_.out (by kernel_rfl)) (fun _ _ _ h => h) (Or.inl ⟨by rfl, ?_⟩) ?_ ?_
  rotate_left
  ·
    intro w'
    go_simp
    with_reducible rfl
  rotate_left
  ·
    simp only [Act.put, l_1, l_2, l_3, i64_w, i32_w]
    rfl
  refine one_ (i := 6) (N := some 36) #[true, true, true, true, true, true, true, false, false, false, false, false, false, false, false, false, false, false, false, false, false, false, false] rfl rfl (one_of HT_.out (by kernel_rfl)) (by decide) (fun K hK => ?_)
  refine goes_ Try.func26 (by kernel_rfl) rfl #[.agg #[.int .i64 2, .int .i64 1, .slice A5 2 c5], .agg #[.int .i64 2, .int .i64 1, .slice A11 2 c11]] (by rfl) rfl rfl (by (try simp only [l_4, l_5, l_6]); first | done | rfl) ?_
  refine (pelotonref03_Same.calls 50 2 1 A5 c5 [3, 7] 2 1 A11 c11 [3, 7] true _ CA.out L5.out C11.out L11.out pelotonlaw03_awake.same1).mono ?_
  rintro e w12 ⟨rfl, hb⟩
  refine ⟨_, rfl, ?_⟩
  have n1_ := Aside0.mk (blk_below K2.out hb)
  have n2_ := Aside0.mk (blk_below K4.out hb)
  have n3_ := Aside0.mk (below_step B.out hb)
  have n4_ := Aside0.mk (Kd.C_below CA.out hb)
  have n5_ := Aside0.mk (Kd.C_below CT.out hb)
  clear K2 K4 B CA CT
  have K2 := n1_
  have K4 := n2_
  have B := n3_
  have CA := n4_
  have CT := n5_
  clear n1_ n2_ n3_ n4_ n5_
  clear hb
  refine hK.out _ _ ⟨⟨(cell3 K2.out).1, (cell3 K2.out).2.1, (cell3 K2.out).2.2.1⟩, (cell3 K4.out).1, (cell3 K4.out).2.1, (cell3 K4.out).2.2.1⟩ (fun hHeld => ?_)
  clear hK K
  refine norm_ (a' := ?_) ?_ ?_
  rotate_left
  ·
    show Act.put _ (some 36) _ = _
    simp only [Act.put, l_1, l_2, l_3, i64_w, i32_w]
    rfl
  refine pure_ (i := 7) (N := some 37) (v := ?_) (a' := ?_) #[true, true, true, true, true, true, true, true, false, false, false, false, false, false, false, false, false, false, false, false, false, false, false] rfl rfl (any_of HT_.out (by kernel_rfl)) (fun _ _ _ h => h) (Or.inl ⟨by rfl, ?_⟩) ?_ ?_
  rotate_left
  ·
    intro w'
    go_simp
    with_reducible rfl
  rotate_left
  ·
    simp only [Act.put, l_1, l_2, l_3, i64_w, i32_w]
    rfl
  refine pure_ (i := 8) (N := some 38) (v := ?_) (a' := ?_) #[true, true, true, true, true, true, true, true, true, false, false, false, false, false, false, false, false, false, false, false, false, false, false] rfl rfl (any_of HT_.out (by kernel_rfl)) (fun _ _ _ h => h) (Or.inl ⟨by rfl, ?_⟩) ?_ ?_
  rotate_left
  ·
    intro w'
    go_simp
    with_reducible rfl
  rotate_left
  ·
    simp only [Act.put, l_1, l_2, l_3, i64_w, i32_w]
    rfl
  refine pure_ (i := 9) (N := some 39) (v := ?_) (a' := ?_) #[true, true, true, true, true, true, true, true, true, true, false, false, false, false, false, false, false, false, false, false, false, false, false] rfl rfl (any_of HT_.out (by kernel_rfl)) (fun _ _ _ h => h) (Or.inl ⟨by rfl, ?_⟩) ?_ ?_
  rotate_left
  ·
    intro w'
    go_simp
    with_reducible rfl
  rotate_left
  ·
    simp only [Act.put, l_1, l_2, l_3, i64_w, i32_w]
    rfl
  refine pure_ (i := 10) (N := some 40) (v := ?_) (a' := ?_) #[true, true, true, true, true, true, true, true, true, true, true, false, false, false, false, false, false, false, false, false, false, false, false] rfl rfl (any_of HT_.out (by kernel_rfl)) (fun _ _ _ h => h) (Or.inl ⟨by rfl, ?_⟩) ?_ ?_
  rotate_left
  ·
    intro w'
    go_simp
    with_reducible rfl
  rotate_left
  ·
    simp only [Act.put, l_1, l_2, l_3, i64_w, i32_w]
    rfl
  refine pure_ (i := 11) (N := some 41) (v := ?_) (a' := ?_) #[true, true, true, true, true, true, true, true, true, true, true, true, false, false, false, false, false, false, false, false, false, false, false] rfl rfl (any_of HT_.out (by kernel_rfl)) (fun _ _ _ h => h) (Or.inl ⟨by rfl, ?_⟩) ?_ ?_
  rotate_left
  ·
    intro w'
    go_simp
    with_reducible rfl
  rotate_left
  ·
    simp only [Act.put, l_1, l_2, l_3, i64_w, i32_w]
    rfl
  refine pure_ (i := 12) (N := some 42) (v := ?_) (a' := ?_) #[true, true, true, true, true, true, true, true, true, true, true, true, true, false, false, false, false, false, false, false, false, false, false] rfl rfl (any_of HT_.out (by kernel_rfl)) (fun _ _ _ h => h) (Or.inl ⟨by rfl, ?_⟩) ?_ ?_
  rotate_left
  ·
    intro w'
    go_simp
    with_reducible rfl
  rotate_left
  ·
    simp only [Act.put, l_1, l_2, l_3, i64_w, i32_w]
    rfl
  refine take_ (i := 13) (N := some 43) (v := ?_) (a' := ?_) #[true, true, true, true, true, true, true, true, true, true, true, true, true, true, false, false, false, false, false, false, false, false, false] rfl rfl (take_ofW HT_.out HW_.out (by kernel_rfl)) (fun _ _ _ h => h) (Or.inl ⟨by rfl, ?_⟩) hHeld ?_ ?_
  rotate_left
  ·
    rintro w' ⟨⟨s0, s1, s2⟩, s3, s4, s5⟩
    go_simp
    with_reducible rfl
  rotate_left
  ·
    simp only [Act.put, l_1, l_2, l_3, i64_w, i32_w]
    rfl
  refine one_ (i := 14) (N := some 44) #[true, true, true, true, true, true, true, true, true, true, true, true, true, true, true, false, false, false, false, false, false, false, false] rfl rfl (one_of HT_.out (by kernel_rfl)) (by decide) (fun K hK => ?_)
  refine Kd.R_lit_step (Kd.int .i32) _ 21 ?hg (N := 44) ?hd (xs := ([1, 3, 2, 4] : List Int)) (inner := [.int .i32 1, .int .i32 3, .int .i32 2, .int .i32 4]) (ok := fun _ => True) (okp := fun _ => True) ?hr ?hp (fun _ hk => hk) trivial (Below.refl _ _) (Nat.le_refl _) (by simp) ?_; (case hd => rfl); (case hg => rfl); (case hr => first | (go_simp; done) | (go_simp; rfl)); (case hp => exact (Reps.one (show Kd.M (Kd.int .i32) _ _ _ 1 [.int .i32 1] from rfl) (Reps.one (show Kd.M (Kd.int .i32) _ _ _ 3 [.int .i32 3] from rfl) (Reps.one (show Kd.M (Kd.int .i32) _ _ _ 2 [.int .i32 2] from rfl) (Reps.one (show Kd.M (Kd.int .i32) _ _ _ 4 [.int .i32 4] from rfl) (Reps.none _ _)))))); intro v13 w13 ho hb hg_ hnew_
  clear hg_ hnew_
  have HO13 := Aside0.mk ho
  have HB13 := Aside0.mk hb
  have K2o := K2
  have K4o := K4
  have Bo := B
  have CAo := CA
  have CTo := CT
  have n1_ := Aside0.mk (blk_below K2.out hb)
  have n2_ := Aside0.mk (blk_below K4.out hb)
  have n3_ := Aside0.mk (below_step B.out hb)
  have n4_ := Aside0.mk (Kd.C_below CA.out hb)
  have n5_ := Aside0.mk (Kd.C_below CT.out hb)
  clear K2 K4 B CA CT
  have K2 := n1_
  have K4 := n2_
  have B := n3_
  have CA := n4_
  have CT := n5_
  clear n1_ n2_ n3_ n4_ n5_
  clear ho hb
  refine hK.out _ _ ⟨⟨(cell3 K2.out).1, (cell3 K2.out).2.1, (cell3 K2.out).2.2.1⟩, (cell3 K4.out).1, (cell3 K4.out).2.1, (cell3 K4.out).2.2.1⟩ (fun hHeld => ?_)
  clear hK K
  refine norm_ (a' := ?_) ?_ ?_
  rotate_left
  ·
    show Act.put _ (some 44) _ = _
    simp only [Act.put, l_1, l_2, l_3, i64_w, i32_w]
    rfl
  refine one_ (i := 15) (N := some 45) #[true, true, true, true, true, true, true, true, true, true, true, true, true, true, true, true, false, false, false, false, false, false, false] rfl rfl (one_of HT_.out (by kernel_rfl)) (by decide) (fun K hK => ?_)
  refine goes_ Try.func18 (by kernel_rfl) rfl #[v13] (by rfl) rfl rfl (by (try simp only [l_4, l_5, l_6]); first | done | rfl) ?_
  refine (pelotonlaw03_two.calls (fun _ => True) v13 [1, 3, 2, 4] 2 2 [1, 3, 2, 4] w12 _ HB13.out HO13.out pelotonlaw03_awake.two2).mono ?_
  rintro e w14 ⟨v14, rfl, ho, hb, _⟩
  obtain ⟨A14, c14, e_⟩ := Kd.R_slice ho; (have e1_ : v14 = .slice A14 4 c14 := e_); clear e_; subst e1_
  have C14 := Aside0.mk (Kd.R_reads' ho).2.2
  have L14 := Aside0.mk (show 4 ≤ c14 from (Kd.R_reads' ho).2.1)
  refine ⟨_, rfl, ?_⟩
  clear K2 K4 B CA CT
  have K2 := K2o
  have K4 := K4o
  have B := Bo
  have CA := CAo
  have CT := CTo
  clear K2o K4o Bo CAo CTo
  have n1_ := Aside0.mk (blk_below K2.out hb)
  have n2_ := Aside0.mk (blk_below K4.out hb)
  have n3_ := Aside0.mk (below_step B.out hb)
  have n4_ := Aside0.mk (Kd.C_below CA.out hb)
  have n5_ := Aside0.mk (Kd.C_below CT.out hb)
  clear K2 K4 B CA CT
  have K2 := n1_
  have K4 := n2_
  have B := n3_
  have CA := n4_
  have CT := n5_
  clear n1_ n2_ n3_ n4_ n5_
  clear ho hb
  refine hK.out _ _ ⟨⟨(cell3 K2.out).1, (cell3 K2.out).2.1, (cell3 K2.out).2.2.1⟩, (cell3 K4.out).1, (cell3 K4.out).2.1, (cell3 K4.out).2.2.1⟩ (fun hHeld => ?_)
  clear hK K
  refine norm_ (a' := ?_) ?_ ?_
  rotate_left
  ·
    show Act.put _ (some 45) _ = _
    simp only [Act.put, l_1, l_2, l_3, i64_w, i32_w]
    rfl
  refine one_ (i := 16) (N := some 46) #[true, true, true, true, true, true, true, true, true, true, true, true, true, true, true, true, true, false, false, false, false, false, false] rfl rfl (one_of HT_.out (by kernel_rfl)) (by decide) (fun K hK => ?_)
  refine goes_ Try.func26 (by kernel_rfl) rfl #[.agg #[.int .i64 2, .int .i64 2, .slice A6 4 c6], .agg #[.int .i64 2, .int .i64 2, .slice A14 4 c14]] (by rfl) rfl rfl (by (try simp only [l_4, l_5, l_6]); first | done | rfl) ?_
  refine (pelotonref03_Same.calls 50 2 2 A6 c6 [1, 3, 2, 4] 2 2 A14 c14 [1, 3, 2, 4] true _ CT.out L6.out C14.out L14.out pelotonlaw03_awake.same2).mono ?_
  rintro e w15 ⟨rfl, hb⟩
  refine ⟨_, rfl, ?_⟩
  have n1_ := Aside0.mk (blk_below K2.out hb)
  have n2_ := Aside0.mk (blk_below K4.out hb)
  have n3_ := Aside0.mk (below_step B.out hb)
  have n4_ := Aside0.mk (Kd.C_below CA.out hb)
  have n5_ := Aside0.mk (Kd.C_below CT.out hb)
  clear K2 K4 B CA CT
  have K2 := n1_
  have K4 := n2_
  have B := n3_
  have CA := n4_
  have CT := n5_
  clear n1_ n2_ n3_ n4_ n5_
  clear hb
  refine hK.out _ _ ⟨⟨(cell3 K2.out).1, (cell3 K2.out).2.1, (cell3 K2.out).2.2.1⟩, (cell3 K4.out).1, (cell3 K4.out).2.1, (cell3 K4.out).2.2.1⟩ (fun hHeld => ?_)
  clear hK K
  refine norm_ (a' := ?_) ?_ ?_
  rotate_left
  ·
    show Act.put _ (some 46) _ = _
    simp only [Act.put, l_1, l_2, l_3, i64_w, i32_w]
    rfl
  refine pure_ (i := 17) (N := some 47) (v := ?_) (a' := ?_) #[true, true, true, true, true, true, true, true, true, true, true, true, true, true, true, true, true, true, false, false, false, false, false] rfl rfl (any_of HT_.out (by kernel_rfl)) (fun _ _ _ h => h) (Or.inl ⟨by rfl, ?_⟩) ?_ ?_
  rotate_left
  ·
    intro w'
    go_simp
    with_reducible rfl
  rotate_left
  ·
    simp only [Act.put, l_1, l_2, l_3, i64_w, i32_w]
    rfl
  refine pure_ (i := 18) (N := some 48) (v := ?_) (a' := ?_) #[true, true, true, true, true, true, true, true, true, true, true, true, true, true, true, true, true, true, true, false, false, false, false] rfl rfl (any_of HT_.out (by kernel_rfl)) (fun _ _ _ h => h) (Or.inl ⟨by rfl, ?_⟩) ?_ ?_
  rotate_left
  ·
    intro w'
    go_simp
    with_reducible rfl
  rotate_left
  ·
    simp only [Act.put, l_1, l_2, l_3, i64_w, i32_w]
    rfl
  refine pure_ (i := 19) (N := some 49) (v := ?_) (a' := ?_) #[true, true, true, true, true, true, true, true, true, true, true, true, true, true, true, true, true, true, true, true, false, false, false] rfl rfl (any_of HT_.out (by kernel_rfl)) (fun _ _ _ h => h) (Or.inl ⟨by rfl, ?_⟩) ?_ ?_
  rotate_left
  ·
    intro w'
    go_simp
    with_reducible rfl
  rotate_left
  ·
    simp only [Act.put, l_1, l_2, l_3, i64_w, i32_w]
    rfl
  refine pure_ (i := 20) (N := some 50) (v := ?_) (a' := ?_) #[true, true, true, true, true, true, true, true, true, true, true, true, true, true, true, true, true, true, true, true, true, false, false] rfl rfl (any_of HT_.out (by kernel_rfl)) (fun _ _ _ h => h) (Or.inl ⟨by rfl, ?_⟩) ?_ ?_
  rotate_left
  ·
    intro w'
    go_simp
    with_reducible rfl
  rotate_left
  ·
    simp only [Act.put, l_1, l_2, l_3, i64_w, i32_w]
    rfl
  refine pure_ (i := 21) (N := some 51) (v := ?_) (a' := ?_) #[true, true, true, true, true, true, true, true, true, true, true, true, true, true, true, true, true, true, true, true, true, true, false] rfl rfl (any_of HT_.out (by kernel_rfl)) (fun _ _ _ h => h) (Or.inl ⟨by rfl, ?_⟩) ?_ ?_
  rotate_left
  ·
    intro w'
    go_simp
    with_reducible rfl
  rotate_left
  ·
    simp only [Act.put, l_1, l_2, l_3, i64_w, i32_w]
    rfl
  refine pure_ (i := 22) (N := some 0) (v := ?_) (a' := ?_) #[true, true, true, true, true, true, true, true, true, true, true, true, true, true, true, true, true, true, true, true, true, true, true] rfl rfl (any_of HT_.out (by kernel_rfl)) (fun _ _ _ h => h) (Or.inl ⟨by rfl, ?_⟩) ?_ ?_
  rotate_left
  ·
    intro w'
    go_simp
    with_reducible rfl
  rotate_left
  ·
    simp only [Act.put, l_1, l_2, l_3, i64_w, i32_w]
    rfl
  refine done_ (done_of HT_.out (by kernel_rfl)) ?_
  go_wp2
  go_ret
  exact ⟨rfl, B.out⟩
/-! ### pelotonlaw03_small: function 11 -/
def pelotonlaw03_small.l0 : Nat → List (S24) → Int → Option (Bool)
 | 0, _, _ => none
 | k + 1, x0, x3 => if x3 < (x0.length : Int) then (if x3 ≥ 12 then (some false) else (if 0 ≤ x3 then (if (((rd_T24 x0 x3).f2).length : Int) > 400 then (some false) else (pelotonlaw03_small.l0 k x0 (wrap64 (x3 + 1)))) else (none))) else (some true)
def pelotonlaw03_small.f (k : Nat) (l0 : List (S24)) : Option (Bool) := pelotonlaw03_small.l0 k l0 0
theorem pelotonlaw03_small.mono_l : ∀ k, (∀ y0 y1, LeO (pelotonlaw03_small.l0 k y0 y1) (pelotonlaw03_small.l0 (k + 1) y0 y1))
 | 0 => fun _ _ r h => by simp [pelotonlaw03_small.l0] at h
 | k + 1 => by
  have ih0 := pelotonlaw03_small.mono_l k
  ·
   intro y0 y1
   unfold pelotonlaw03_small.l0
   repeat' first
   | (with_reducible exact ih0 _ _)
   | (with_reducible exact LeO.refl _)
   | (with_reducible exact LeO.none _)
   | (with_reducible refine LeO.ite ?_ ?_)
   | (with_reducible refine LeO.bind ?_ (fun _ => ?_))
   | exact ih0 _ _
   | exact LeO.none _
   | refine LeO.ite ?_ ?_
   | refine LeO.bind ?_ (fun _ => ?_)
theorem pelotonlaw03_small.mono : ∀ a0 k, LeO (pelotonlaw03_small.f k a0) (pelotonlaw03_small.f (k + 1) a0) := by
 intro a0 k
 have ih0 := pelotonlaw03_small.mono_l k
 unfold pelotonlaw03_small.f
 repeat' first
   | (with_reducible exact ih0 _ _)
   | (with_reducible exact LeO.refl _)
   | (with_reducible exact LeO.none _)
   | (with_reducible refine LeO.ite ?_ ?_)
   | (with_reducible refine LeO.bind ?_ (fun _ => ?_))
   | exact ih0 _ _
   | exact LeO.none _
   | refine LeO.ite ?_ ?_
   | refine LeO.bind ?_ (fun _ => ?_)
set_option maxHeartbeats 60000000 in
set_option maxRecDepth 100000 in
theorem pelotonlaw03_small.calls (k : Nat) (A0 : Option Addr) (c0 : Nat) (l0 : List (S24)) (r : Bool) (w : World) (hr0 : Kd.C k24 w A0 l0.length l0) (hc0 : l0.length ≤ c0) (h : pelotonlaw03_small.f k l0 = some r) :
  Calls Try.prog 11 #[.slice A0 l0.length c0] w fun e w' => e = .returned (.bool r) ∧ Drawn0 w w' := by
 have HR0 := Aside0.mk hr0
 have HC0 := Aside0.mk hc0
 clear hr0 hc0
 have H : (pelotonlaw03_small.l0 k l0 0) = some r := h
 clear h
 have H' := Aside0.mk H
 clear H
 go_enter Try.func11, Try.ntmps11
 go_wp2
 go_loopg [3] k (fun kq v3 w' => ∃ (x3_1 : Int), v3 = .int .i64 x3_1 ∧ Aside0 (pelotonlaw03_small.l0 kq l0 x3_1 = some r) ∧ Aside0 (kq ≤ k) ∧ Drawn0 w w')
 case atStart => exact ⟨(0), (by first | rfl | (simp; done) | (simp [*]; done)), H', ⟨Nat.le_refl _⟩, by repeat (first | exact Drawn0.refl _ | apply Drawn0.step)⟩
 case round =>
  clear H'
  try clear c1
  obtain ⟨x3_1, rfl, HA, HK1, ⟨m1, rfl⟩⟩ := hrel
  cases gk with
  | zero => exact absurd HA.out (by simp [pelotonlaw03_small.l0])
  | succ k1 =>
   have H := HA.out
   clear HA
   simp only [pelotonlaw03_small.l0] at H
   by_cases c2 : x3_1 < (l0.length : Int)
   rotate_left
   ·
    rw [if_neg c2] at H
    have c2b0 : decide (x3_1 < (l0.length : Int)) = false := decide_eq_false c2
    clear c2
    obtain rfl := Option.some.inj H
    go_wp2
    go_ret
    exact ⟨by first | rfl | (simp; done) | (simp [*]; done), by repeat (first | exact Drawn0.refl _ | apply Drawn0.step)⟩

   rw [if_pos c2] at H
   have c2b0 : decide (x3_1 < (l0.length : Int)) = true := decide_eq_true c2
   clear c2
   by_cases c3 : x3_1 ≥ 12
   ·
    rw [if_pos c3] at H
    have c3b0 : decide (12 ≤ x3_1) = true := decide_eq_true c3
    clear c3
    obtain rfl := Option.some.inj H
    go_wp2
    go_ret
    exact ⟨by first | rfl | (simp; done) | (simp [*]; done), by repeat (first | exact Drawn0.refl _ | apply Drawn0.step)⟩
   rw [if_neg c3] at H
   have c3b0 : decide (12 ≤ x3_1) = false := decide_eq_false c3
   clear c3
   by_cases c4 : 0 ≤ x3_1
   rotate_left
   ·
    rw [if_neg c4] at H
    exact absurd H (by simp)
   rw [if_pos c4] at H
   have c4b0 : decide (0 ≤ x3_1) = true := decide_eq_true c4
   clear c4
   by_cases c5 : (((rd_T24 l0 x3_1).f2).length : Int) > 400
   ·
    rw [if_pos c5] at H
    have c5b0 : decide (400 < (((rd_T24 l0 x3_1).f2).length : Int)) = true := decide_eq_true c5
    have c5b1 : decide (400 < ((rd_T24 l0 x3_1).f2).length) = true := decide_eq_true (by omega)
    clear c5
    obtain rfl := Option.some.inj H
    have p125 : 0 ≤ (x3_1 : Int) := of_decide_eq_true (by first | (with_reducible assumption) | assumption)
    have q125 : x3_1 < (l0.length : Int) := of_decide_eq_true (by first | (with_reducible assumption) | assumption)
    obtain ⟨ad125, A125_2, c125_2, e125, hx125_0, hx125_1, hx125_2, hl125_2, hi125_2⟩ := at_T24 HR0.out x3_1 p125 q125
    cases e125
    have HR125_2 := Aside0.mk hi125_2
    have HC125_2 := Aside0.mk hl125_2
    clear hi125_2 hl125_2
    replace p125 := eq_true p125
    replace q125 := eq_true q125
    go_wp2
    go_ret
    exact ⟨by first | rfl | (simp; done) | (simp [*]; done), by repeat (first | exact Drawn0.refl _ | apply Drawn0.step)⟩
   rw [if_neg c5] at H
   have c5b0 : decide (400 < (((rd_T24 l0 x3_1).f2).length : Int)) = false := decide_eq_false c5
   have c5b1 : decide (400 < ((rd_T24 l0 x3_1).f2).length) = false := decide_eq_false (by omega)
   clear c5
   have H' := Aside0.mk H
   clear H
   have p125 : 0 ≤ (x3_1 : Int) := of_decide_eq_true (by first | (with_reducible assumption) | assumption)
   have q125 : x3_1 < (l0.length : Int) := of_decide_eq_true (by first | (with_reducible assumption) | assumption)
   obtain ⟨ad125, A125_2, c125_2, e125, hx125_0, hx125_1, hx125_2, hl125_2, hi125_2⟩ := at_T24 HR0.out x3_1 p125 q125
   cases e125
   have HR125_2 := Aside0.mk hi125_2
   have HC125_2 := Aside0.mk hl125_2
   clear hi125_2 hl125_2
   replace p125 := eq_true p125
   replace q125 := eq_true q125
   go_wp2
   go_roundg k1
   case measure => have := HK1.out; omega
   case rel => exact ⟨(wrap64 (x3_1 + 1)), (by first | rfl | (simp; done) | (simp [*]; done)), H', ⟨by have := HK1.out; omega⟩, by repeat (first | exact Drawn0.refl _ | apply Drawn0.step)⟩
/-! ### pelotonlaw03_held: function 14 -/
def pelotonlaw03_held.f (k : Nat) (a0_0 : Int) (a0_1 : Int) (l0_2 : List Int) (a1 : Int) (a2_0 : Int) (a2_1 : Int) (l2_2 : List Int) (a3 : Bool) : Option (Bool) := if a3 = true then (if a1 = 0 then ((pelotonref03_Same.f k a0_0 a0_1 l0_2 a2_0 a2_1 l2_2).bind fun t128 => (some t128)) else (some false)) else (if a1 = 30 then ((pelotonref03_Same.f k a0_0 a0_1 l0_2 0 0 ([] : List Int)).bind fun t129 => (some t129)) else (some false))
theorem pelotonlaw03_held.mono : ∀ a0 a1 a2 a3 a4 a5 a6 a7 k, LeO (pelotonlaw03_held.f k a0 a1 a2 a3 a4 a5 a6 a7) (pelotonlaw03_held.f (k + 1) a0 a1 a2 a3 a4 a5 a6 a7) := by
 intro a0 a1 a2 a3 a4 a5 a6 a7 k
 unfold pelotonlaw03_held.f
 repeat' first
   | (with_reducible exact pelotonref03_Same.mono _ _ _ _ _ _ _)
   | (with_reducible exact LeO.refl _)
   | (with_reducible exact LeO.none _)
   | (with_reducible refine LeO.ite ?_ ?_)
   | (with_reducible refine LeO.bind ?_ (fun _ => ?_))
   | exact pelotonref03_Same.mono _ _ _ _ _ _ _
   | exact LeO.none _
   | refine LeO.ite ?_ ?_
   | refine LeO.bind ?_ (fun _ => ?_)
set_option maxHeartbeats 60000000 in
set_option maxRecDepth 100000 in
theorem pelotonlaw03_held.calls (k : Nat) (a0_0 : Int) (a0_1 : Int) (A0_2 : Option Addr) (c0_2 : Nat) (l0_2 : List Int) (a1 : Int) (a2_0 : Int) (a2_1 : Int) (A2_2 : Option Addr) (c2_2 : Nat) (l2_2 : List Int) (a3 : Bool) (r : Bool) (w : World) (hr0_2 : Kd.C (Kd.int .i32) w A0_2 l0_2.length l0_2) (hc0_2 : l0_2.length ≤ c0_2) (hr2_2 : Kd.C (Kd.int .i32) w A2_2 l2_2.length l2_2) (hc2_2 : l2_2.length ≤ c2_2) (h : pelotonlaw03_held.f k a0_0 a0_1 l0_2 a1 a2_0 a2_1 l2_2 a3 = some r) :
  Calls Try.prog 14 #[.agg #[.int .i64 a0_0, .int .i64 a0_1, .slice A0_2 l0_2.length c0_2], .int .i64 a1, .agg #[.int .i64 a2_0, .int .i64 a2_1, .slice A2_2 l2_2.length c2_2], .bool a3] w fun e w' => e = .returned (.bool r) ∧ Below w.heap.size w w' := by
 have hu24 := Try.underlying24
 have HR0_2 := Aside0.mk hr0_2
 have HC0_2 := Aside0.mk hc0_2
 clear hr0_2 hc0_2
 have HR2_2 := Aside0.mk hr2_2
 have HC2_2 := Aside0.mk hc2_2
 clear hr2_2 hc2_2
 have HB := Aside0.mk (Below.refl w.heap.size w)
 have H : (if a3 = true then (if a1 = 0 then ((pelotonref03_Same.f k a0_0 a0_1 l0_2 a2_0 a2_1 l2_2).bind fun t128 => (some t128)) else (some false)) else (if a1 = 30 then ((pelotonref03_Same.f k a0_0 a0_1 l0_2 0 0 ([] : List Int)).bind fun t129 => (some t129)) else (some false))) = some r := h
 clear h
 by_cases c5 : a3 = true
 rotate_left
 ·
  replace c5 := Bool.eq_false_iff.mpr c5
  subst c5
  have H1 : (if a1 = 30 then ((pelotonref03_Same.f k a0_0 a0_1 l0_2 0 0 ([] : List Int)).bind fun t129 => (some t129)) else (some false)) = some r := by rw [if_neg (show ¬ (false = true) by decide)] at H; exact H
  clear H
  have H := H1
  clear H1
  by_cases c16 : a1 = 30
  rotate_left
  ·
   rw [if_neg c16] at H
   have c16b0 : (a1 == 30) = false := beq_eq_false_iff_ne.mpr c16
   have c16b1 : (a1 != 30) = true := bne_iff_ne.mpr c16
   obtain rfl := Option.some.inj H
   go_enter Try.func14, Try.ntmps14
   go_wp2_with (first | ((with_reducible refine gate_dst (N := 4) rfl ?_); refine box_event ?hg (N := 4) ?hd (cs := #[.int .i64 a0_0, .int .i64 a0_1, .slice A0_2 l0_2.length c0_2]) (t := 24) ?hr ?_; (case hd => rfl); (case hg => rfl); (case hr => first | (go_simp; done) | (go_simp; rfl)); intro gb126 hg w23 hbox hb; have BK126 := Aside0.mk (hbox); have GW126 := Aside0.mk ((by rw [hg]; exact (below_size (bw_ HB)) : w.heap.size ≤ gb126)); have GE126 := Aside0.mk ((by rw [hg]; exact (below_size (bw_ HB)) : w.heap.size ≤ gb126)); replace HB := Aside0.mk (below_step (bw_ HB) hb); clear hb hbox hg) | ((with_reducible refine gate_dst (N := 6) rfl ?_); refine box_event ?hg (N := 6) ?hd (cs := #[.int .i64 a2_0, .int .i64 a2_1, .slice A2_2 l2_2.length c2_2]) (t := 24) ?hr ?_; (case hd => rfl); (case hg => rfl); (case hr => first | (go_simp; done) | (go_simp; rfl)); intro gb127 hg w24 hbox hb; have BK127 := Aside0.mk (hbox); have GW127 := Aside0.mk ((by rw [hg]; exact (below_size (bw_ HB)) : w.heap.size ≤ gb127)); have GE127 := Aside0.mk ((by rw [hg]; exact (below_size (bw_ HB)) : w.heap.size ≤ gb127)); have NB126_127 := Aside0.mk ((by rw [hg]; exact Nat.ne_of_lt (blk_lt (tk_ BK126)) : gb126 ≠ gb127)); have NB127_126 := Aside0.mk ((by rw [hg]; exact Nat.ne_of_gt (blk_lt (tk_ BK126)) : gb127 ≠ gb126)); replace BK126 := Aside0.mk (blk_below (tk_ BK126) hb); replace HB := Aside0.mk (below_step (bw_ HB) hb); clear hb hbox hg))
   go_ret
   exact ⟨by first | rfl | (simp [errW_none, errW_some] <;> rfl) | (simp [*, errW_none, errW_some] <;> rfl), by repeat (first | (with_reducible first | exact HB.out | apply b_a | apply b_n | apply b_d | refine b_s ?_ GE126.out | refine b_s ?_ GE127.out) | exact HB.out)⟩

  rw [if_pos c16] at H
  have c16b0 : (a1 == 30) = true := beq_iff_eq.mpr c16
  have c16b1 : (a1 != 30) = false := bne_eq_false_iff_eq.mpr c16
  clear c16
  replace H := Option.bind_eq_some_iff.mp H
  obtain ⟨t129, A170, H⟩ := H
  replace H : (some t129) = some r := H
  have A17 := Aside0.mk A170
  clear A170
  obtain rfl := Option.some.inj H
  go_enter Try.func14, Try.ntmps14
  go_wp2_with (first | ((with_reducible refine gate_dst (N := 4) rfl ?_); refine box_event ?hg (N := 4) ?hd (cs := #[.int .i64 a0_0, .int .i64 a0_1, .slice A0_2 l0_2.length c0_2]) (t := 24) ?hr ?_; (case hd => rfl); (case hg => rfl); (case hr => first | (go_simp; done) | (go_simp; rfl)); intro gb126 hg w18 hbox hb; have BK126 := Aside0.mk (hbox); have GW126 := Aside0.mk ((by rw [hg]; exact (below_size (bw_ HB)) : w.heap.size ≤ gb126)); have GE126 := Aside0.mk ((by rw [hg]; exact (below_size (bw_ HB)) : w.heap.size ≤ gb126)); replace HB := Aside0.mk (below_step (bw_ HB) hb); clear hb hbox hg) | ((with_reducible refine gate_dst (N := 6) rfl ?_); refine box_event ?hg (N := 6) ?hd (cs := #[.int .i64 a2_0, .int .i64 a2_1, .slice A2_2 l2_2.length c2_2]) (t := 24) ?hr ?_; (case hd => rfl); (case hg => rfl); (case hr => first | (go_simp; done) | (go_simp; rfl)); intro gb127 hg w19 hbox hb; have BK127 := Aside0.mk (hbox); have GW127 := Aside0.mk ((by rw [hg]; exact (below_size (bw_ HB)) : w.heap.size ≤ gb127)); have GE127 := Aside0.mk ((by rw [hg]; exact (below_size (bw_ HB)) : w.heap.size ≤ gb127)); have NB126_127 := Aside0.mk ((by rw [hg]; exact Nat.ne_of_lt (blk_lt (tk_ BK126)) : gb126 ≠ gb127)); have NB127_126 := Aside0.mk ((by rw [hg]; exact Nat.ne_of_gt (blk_lt (tk_ BK126)) : gb127 ≠ gb126)); replace BK126 := Aside0.mk (blk_below (tk_ BK126) hb); replace HB := Aside0.mk (below_step (bw_ HB) hb); clear hb hbox hg; have hnb20 := NB126_127.out; have hnc20 := NB127_126.out; have hcz21_0 := bc_0 BK126; have hcz21_1 := bc_1 BK126; have hcz21_2 := bc_2 BK126; have hfz21_0 := blk_frozen BK126.out 0; have hfz21_1 := blk_frozen BK126.out 1; have hfz21_2 := blk_frozen BK126.out 2) | (go_at_call 26; (refine (pelotonref03_Same.calls k a0_0 a0_1 _ _ l0_2 0 0 _ _ ([] : List Int) t129 _ ?side1 ?side2 ?side3 ?side4 A17.out).mono ?_); (case side1 => repeat (first | exact (Kd.C_below HR0_2.out HB.out) | (with_reducible refine Kd.C_alloc ?_ _) | (with_reducible refine Kd.C_drewN ?_ _) | (with_reducible refine Kd.C_drew ?_))); (case side2 => exact HC0_2.out); (case side3 => exact Kd.C_nil _ _); (case side4 => exact Nat.le_refl _); rintro e w22 ⟨rfl, hb⟩; (try clear A17); replace BK126 := Aside0.mk (blk_below (tk_ BK126) hb); replace BK127 := Aside0.mk (blk_below (tk_ BK127) hb); replace HB := Aside0.mk (below_step (bw_ HB) hb); (try clear hb); (try clear hb2); (try clear hk); (try clear hi)))
  go_ret
  exact ⟨by first | rfl | (simp [errW_none, errW_some] <;> rfl) | (simp [*, errW_none, errW_some] <;> rfl), by repeat (first | (with_reducible first | exact HB.out | apply b_a | apply b_n | apply b_d | refine b_s ?_ GE126.out | refine b_s ?_ GE127.out) | exact HB.out)⟩
 subst c5
 have H1 : (if a1 = 0 then ((pelotonref03_Same.f k a0_0 a0_1 l0_2 a2_0 a2_1 l2_2).bind fun t128 => (some t128)) else (some false)) = some r := by rw [if_pos rfl] at H; exact H
 clear H
 have H := H1
 clear H1
 by_cases c6 : a1 = 0
 rotate_left
 ·
  rw [if_neg c6] at H
  have c6b0 : (a1 == 0) = false := beq_eq_false_iff_ne.mpr c6
  have c6b1 : (a1 != 0) = true := bne_iff_ne.mpr c6
  obtain rfl := Option.some.inj H
  go_enter Try.func14, Try.ntmps14
  go_wp2_with (first | ((with_reducible refine gate_dst (N := 4) rfl ?_); refine box_event ?hg (N := 4) ?hd (cs := #[.int .i64 a0_0, .int .i64 a0_1, .slice A0_2 l0_2.length c0_2]) (t := 24) ?hr ?_; (case hd => rfl); (case hg => rfl); (case hr => first | (go_simp; done) | (go_simp; rfl)); intro gb126 hg w14 hbox hb; have BK126 := Aside0.mk (hbox); have GW126 := Aside0.mk ((by rw [hg]; exact (below_size (bw_ HB)) : w.heap.size ≤ gb126)); have GE126 := Aside0.mk ((by rw [hg]; exact (below_size (bw_ HB)) : w.heap.size ≤ gb126)); replace HB := Aside0.mk (below_step (bw_ HB) hb); clear hb hbox hg) | ((with_reducible refine gate_dst (N := 6) rfl ?_); refine box_event ?hg (N := 6) ?hd (cs := #[.int .i64 a2_0, .int .i64 a2_1, .slice A2_2 l2_2.length c2_2]) (t := 24) ?hr ?_; (case hd => rfl); (case hg => rfl); (case hr => first | (go_simp; done) | (go_simp; rfl)); intro gb127 hg w15 hbox hb; have BK127 := Aside0.mk (hbox); have GW127 := Aside0.mk ((by rw [hg]; exact (below_size (bw_ HB)) : w.heap.size ≤ gb127)); have GE127 := Aside0.mk ((by rw [hg]; exact (below_size (bw_ HB)) : w.heap.size ≤ gb127)); have NB126_127 := Aside0.mk ((by rw [hg]; exact Nat.ne_of_lt (blk_lt (tk_ BK126)) : gb126 ≠ gb127)); have NB127_126 := Aside0.mk ((by rw [hg]; exact Nat.ne_of_gt (blk_lt (tk_ BK126)) : gb127 ≠ gb126)); replace BK126 := Aside0.mk (blk_below (tk_ BK126) hb); replace HB := Aside0.mk (below_step (bw_ HB) hb); clear hb hbox hg))
  go_ret
  exact ⟨by first | rfl | (simp [errW_none, errW_some] <;> rfl) | (simp [*, errW_none, errW_some] <;> rfl), by repeat (first | (with_reducible first | exact HB.out | apply b_a | apply b_n | apply b_d | refine b_s ?_ GE126.out | refine b_s ?_ GE127.out) | exact HB.out)⟩
 rw [if_pos c6] at H
 have c6b0 : (a1 == 0) = true := beq_iff_eq.mpr c6
 have c6b1 : (a1 != 0) = false := bne_eq_false_iff_eq.mpr c6
 clear c6
 replace H := Option.bind_eq_some_iff.mp H
 obtain ⟨t128, A70, H⟩ := H
 replace H : (some t128) = some r := H
 have A7 := Aside0.mk A70
 clear A70
 obtain rfl := Option.some.inj H
 go_enter Try.func14, Try.ntmps14
 go_wp2_with (first | ((with_reducible refine gate_dst (N := 4) rfl ?_); refine box_event ?hg (N := 4) ?hd (cs := #[.int .i64 a0_0, .int .i64 a0_1, .slice A0_2 l0_2.length c0_2]) (t := 24) ?hr ?_; (case hd => rfl); (case hg => rfl); (case hr => first | (go_simp; done) | (go_simp; rfl)); intro gb126 hg w8 hbox hb; have BK126 := Aside0.mk (hbox); have GW126 := Aside0.mk ((by rw [hg]; exact (below_size (bw_ HB)) : w.heap.size ≤ gb126)); have GE126 := Aside0.mk ((by rw [hg]; exact (below_size (bw_ HB)) : w.heap.size ≤ gb126)); replace HB := Aside0.mk (below_step (bw_ HB) hb); clear hb hbox hg) | ((with_reducible refine gate_dst (N := 6) rfl ?_); refine box_event ?hg (N := 6) ?hd (cs := #[.int .i64 a2_0, .int .i64 a2_1, .slice A2_2 l2_2.length c2_2]) (t := 24) ?hr ?_; (case hd => rfl); (case hg => rfl); (case hr => first | (go_simp; done) | (go_simp; rfl)); intro gb127 hg w9 hbox hb; have BK127 := Aside0.mk (hbox); have GW127 := Aside0.mk ((by rw [hg]; exact (below_size (bw_ HB)) : w.heap.size ≤ gb127)); have GE127 := Aside0.mk ((by rw [hg]; exact (below_size (bw_ HB)) : w.heap.size ≤ gb127)); have NB126_127 := Aside0.mk ((by rw [hg]; exact Nat.ne_of_lt (blk_lt (tk_ BK126)) : gb126 ≠ gb127)); have NB127_126 := Aside0.mk ((by rw [hg]; exact Nat.ne_of_gt (blk_lt (tk_ BK126)) : gb127 ≠ gb126)); replace BK126 := Aside0.mk (blk_below (tk_ BK126) hb); replace HB := Aside0.mk (below_step (bw_ HB) hb); clear hb hbox hg; have hnb10 := NB126_127.out; have hnc10 := NB127_126.out; have hcz11_0 := bc_0 BK126; have hcz11_1 := bc_1 BK126; have hcz11_2 := bc_2 BK126; have hfz11_0 := blk_frozen BK126.out 0; have hfz11_1 := blk_frozen BK126.out 1; have hfz11_2 := blk_frozen BK126.out 2; have hcz12_0 := bc_0 BK127; have hcz12_1 := bc_1 BK127; have hcz12_2 := bc_2 BK127; have hfz12_0 := blk_frozen BK127.out 0; have hfz12_1 := blk_frozen BK127.out 1; have hfz12_2 := blk_frozen BK127.out 2) | (go_at_call 26; (with_reducible refine (pelotonref03_Same.calls k a0_0 a0_1 _ _ l0_2 a2_0 a2_1 _ _ l2_2 t128 _ ?side1 ?side2 ?side3 ?side4 A7.out).mono ?_); (case side1 => repeat (first | exact (Kd.C_below HR0_2.out HB.out) | (with_reducible refine Kd.C_alloc ?_ _) | (with_reducible refine Kd.C_drewN ?_ _) | (with_reducible refine Kd.C_drew ?_))); (case side2 => exact HC0_2.out); (case side3 => repeat (first | exact (Kd.C_below HR2_2.out HB.out) | (with_reducible refine Kd.C_alloc ?_ _) | (with_reducible refine Kd.C_drewN ?_ _) | (with_reducible refine Kd.C_drew ?_))); (case side4 => exact HC2_2.out); rintro e w13 ⟨rfl, hb⟩; (try clear A7); replace BK126 := Aside0.mk (blk_below (tk_ BK126) hb); replace BK127 := Aside0.mk (blk_below (tk_ BK127) hb); replace HB := Aside0.mk (below_step (bw_ HB) hb); (try clear hb); (try clear hb2); (try clear hk); (try clear hi)))
 go_ret
 exact ⟨by first | rfl | (simp [errW_none, errW_some] <;> rfl) | (simp [*, errW_none, errW_some] <;> rfl), by repeat (first | (with_reducible first | exact HB.out | apply b_a | apply b_n | apply b_d | refine b_s ?_ GE126.out | refine b_s ?_ GE127.out) | exact HB.out)⟩
end Go.Proofs.Ytggcgacndknlaaa.QGridParts
