-- Written by a program of this session (a turned copy of the print) out of the translation. Lean checks it.
import Derived.Test.YtnkphgiodpledaaQMsgBackx0
import Derived.Test.YtnkphgiodpledaaQMsgBackx2
namespace Go.Proofs.Ytnkphgiodpledaa.QMsgBack
open Go.RowKit Go.Proofs.YtnkphgiodpledaaW.PrintWords Go.Proofs.YtnkphgiodpledaaW.PrintLast Go.Proofs.YtnkphgiodpledaaW.PrintMore
attribute [local go_sem] max2_int min2_int max_two min_two max_three min_three max_four min_four   -- for this text's walks alone
open Go.Proofs.YtnkphgiodpledaaW.PrintWords renaming below_alloc → b_a, pw_below_drewN → b_n, below_drew1 → b_d, below_set → b_s, blk_drewN → k_n, blk_drew → k_d, blk_alloc → k_a
open List renaming setIfInBounds_toArray → l_1, set_cons_zero → l_2, set_cons_succ → l_3, map_toArray → l_4, map_cons → l_5, map_nil → l_6, length_drop → l_7, length_take → l_8
set_option linter.unusedVariables false
set_option linter.unusedSimpArgs false

/-! ### pelotonlaw15_awake: function 7 -/
def pelotonlaw15_awake.f (k : Nat)  : Option (Bool) := (msg_Bytes.f 5 3 0 0 0 1 2 0 ([] : List Int)).bind fun bt131 => (if bt131.2 = 0 then ((pelotonref14_Pack.f k 5 (([0, 0, 0, 0, 3, 0, 0, 0, 0, 1, 0, 0, 0, 0, 2] : List Int))).bind fun t138 => (some ((strOfNums bt131.1).toList == (strOfNums t138).toList))) else (some false))
theorem pelotonlaw15_awake.mono : ∀ k, LeO (pelotonlaw15_awake.f k ) (pelotonlaw15_awake.f (k + 1) ) := by
 intro  k
 unfold pelotonlaw15_awake.f
 repeat' first
   | (with_reducible exact pelotonref14_Pack.mono _ _ _)
   | (with_reducible exact LeO.refl _)
   | (with_reducible exact LeO.none _)
   | (with_reducible refine LeO.ite ?_ ?_)
   | (with_reducible refine LeO.bind ?_ (fun _ => ?_))
   | exact pelotonref14_Pack.mono _ _ _
   | exact LeO.none _
   | refine LeO.ite ?_ ?_
   | refine LeO.bind ?_ (fun _ => ?_)
def pelotonlaw15_awake.T2 : Bool × List (List Nat × List Nat) := (true, [([], []), ([0], [0]), ([1], [1]), ([2], [2]), ([3, 2], [2, 3]), ([2], [2]), ([5, 2, 2], [2, 5]), ([6, 2], [2, 6]), ([4, 7, 2], [2, 4, 7]), ([2, 8], [2, 8]), ([9, 6, 0, 1, 2, 3, 4, 5, 6, 7, 8, 9], [9])])
def pelotonlaw15_awake.B2 : List Nat := [0, 1, 3, 7, 15, 7, 39, 103, 255, 511, 1023]
theorem pelotonlaw15_awake.tab2 : rtab .any (opsOf Try.f7 2) = pelotonlaw15_awake.T2 := by kernel_rfl
theorem pelotonlaw15_awake.bits2 : waitsOk pelotonlaw15_awake.T2.2 pelotonlaw15_awake.B2 = true := by kernel_rfl
set_option maxHeartbeats 60000000 in
set_option maxRecDepth 100000 in
theorem pelotonlaw15_awake.calls (k : Nat)  (r : Bool) (w : World) (h : pelotonlaw15_awake.f k  = some r) :
  Calls Try.prog 7 #[] w fun e w' => e = .returned (.bool r) ∧ Below w.heap.size w w' := by
 have hu24 := Try.underlying24
 have HB := Aside0.mk (Below.refl w.heap.size w)
 have H : ((msg_Bytes.f 5 3 0 0 0 1 2 0 ([] : List Int)).bind fun bt131 => (if bt131.2 = 0 then ((pelotonref14_Pack.f k 5 (([0, 0, 0, 0, 3, 0, 0, 0, 0, 1, 0, 0, 0, 0, 2] : List Int))).bind fun t138 => (some ((strOfNums bt131.1).toList == (strOfNums t138).toList))) else (some false))) = some r := h
 clear h
 replace H := Option.bind_eq_some_iff.mp H
 obtain ⟨⟨t131, t134⟩, A10, H⟩ := H
 replace H : (if t134 = 0 then ((pelotonref14_Pack.f k 5 (([0, 0, 0, 0, 3, 0, 0, 0, 0, 1, 0, 0, 0, 0, 2] : List Int))).bind fun t138 => (some ((strOfNums t131).toList == (strOfNums t138).toList))) else (some false)) = some r := H
 have A1 := Aside0.mk A10
 clear A10
 by_cases c2 : t134 = 0
 rotate_left
 ·
  rw [if_neg c2] at H
  have c2b0 : (t134 == 0) = false := beq_eq_false_iff_ne.mpr c2
  have c2b1 : (t134 != 0) = true := bne_iff_ne.mpr c2
  obtain rfl := Option.some.inj H
  go_enter Try.func7, Try.ntmps7
  try go_wp2_with (first | ((with_reducible refine gate_callee (f := 11) rfl ?_); refine goesL_ (some 5) rfl rfl Try.func11 (by kernel_rfl) rfl #[.agg #[.int .i64 5, .int .i64 3, .int .i64 0, .int .i64 0, .int .i64 0, .int .i64 1, .int .i64 2, .int .i64 0, .slice none 0 0]] rfl (by (try simp only [l_4, l_5, l_6]); first | done | rfl | (simp only [l_7, l_8]; rfl)) ?_; (refine (msg_Bytes.calls 5 3 0 0 0 1 2 0 _ _ ([] : List Int) t131 t134 _ ?side1 ?side2 A1.out).mono ?_); (case side1 => exact Kd.C_nil _ _); (case side2 => exact Nat.le_refl _); rintro e w13 ⟨v132, rfl, ho0, hb⟩; (try clear A1); refine ⟨_, rfl, ?_⟩; have HO133 := Aside0.mk (Kd.R_lower ho0 (below_size (bw_ HB))); replace HB := Aside0.mk (below_step (bw_ HB) hb); (try clear hb); (try clear hb2); (try clear hk); (try clear hi); (try clear ho0)))
  replace HO133 := Aside0.mk (Kd.R_drew HO133.out)
  replace HB := Aside0.mk (b_d HB.out)
  refine start_ (n := 11) (S := fun w' => True) (ds := []) #[false, false, false, false, false, false, false, false, false, false, false] (by kernel_rfl) rfl rfl trivial (fun hHeld => ?_); refine with_tabW pelotonlaw15_awake.tab2 pelotonlaw15_awake.bits2 (fun HT_ HW_ => ?_)
  generalize w13.drew = w14 at HO133 HB hHeld ⊢
  refine pu_ (i := 0) (N := some 8) (bs_ 11 1) rfl rfl HT_ ?_
  refine pu_ (i := 1) (N := some 9) (bs_ 11 3) rfl rfl HT_ ?_
  refine pu_ (i := 2) (N := some 10) (bs_ 11 7) rfl rfl HT_ ?_
  refine pn_ (i := 3) (N := some 11) (bs_ 11 15) rfl rfl HT_ ?_
  refine pn_ (i := 4) (N := some 12) (bs_ 11 31) rfl rfl HT_ ?_
  refine pn_ (i := 5) (N := some 13) (bs_ 11 63) rfl rfl HT_ ?_
  refine pn_ (i := 6) (N := some 14) (bs_ 11 127) rfl rfl HT_ ?_
  refine pn_ (i := 7) (N := some 15) (bs_ 11 255) rfl rfl HT_ ?_
  refine pn_ (i := 8) (N := some 16) (bs_ 11 511) rfl rfl HT_ ?_
  refine pu_ (i := 9) (N := some 17) (bs_ 11 1023) rfl rfl HT_ ?_
  refine pu_ (i := 10) (N := some 0) (bs_ 11 2047) rfl rfl HT_ ?_
  refine done_ (done_of HT_.out (by kernel_rfl)) ?_
  try go_wp2
  go_ret
  exact ⟨by first | rfl | (simp [errW_none, errW_some] <;> rfl) | (simp [*, errW_none, errW_some] <;> rfl), by repeat (first | (with_reducible first | exact HB.out | apply b_a | apply b_n | apply b_d) | exact HB.out)⟩

 rw [if_pos c2] at H
 have c2b0 : (t134 == 0) = true := beq_iff_eq.mpr c2
 have c2b1 : (t134 != 0) = false := bne_eq_false_iff_eq.mpr c2
 clear c2
 obtain ⟨y135, hy135⟩ : ∃ y_ : List Int, y_ = (([0, 0, 0, 0, 3, 0, 0, 0, 0, 1, 0, 0, 0, 0, 2] : List Int)) := ⟨_, rfl⟩
 replace H : ((pelotonref14_Pack.f k 5 y135).bind fun t138 => (some ((strOfNums t131).toList == (strOfNums t138).toList))) = some r := by first | (rw [hy135]; with_reducible exact H) | (have H2_ := (Option.bind_some _ _).symm.trans H; rw [hy135]; with_reducible exact H2_) | (have H2_ := (Option.bind_some _ _).symm.trans H; with_reducible exact H2_) | with_reducible exact H | (rw [hy135]; exact H) | exact H
 have Ny135 := Aside0.mk hy135
 clear hy135
 replace H := Option.bind_eq_some_iff.mp H
 obtain ⟨t138, A30, H⟩ := H
 replace H : (some ((strOfNums t131).toList == (strOfNums t138).toList)) = some r := H
 have A3 := Aside0.mk A30
 clear A30
 obtain rfl := Option.some.inj H
 go_enter Try.func7, Try.ntmps7
 try go_wp2_with (first | ((with_reducible refine gate_callee (f := 11) rfl ?_); refine goesL_ (some 5) rfl rfl Try.func11 (by kernel_rfl) rfl #[.agg #[.int .i64 5, .int .i64 3, .int .i64 0, .int .i64 0, .int .i64 0, .int .i64 1, .int .i64 2, .int .i64 0, .slice none 0 0]] rfl (by (try simp only [l_4, l_5, l_6]); first | done | rfl | (simp only [l_7, l_8]; rfl)) ?_; (refine (msg_Bytes.calls 5 3 0 0 0 1 2 0 _ _ ([] : List Int) t131 t134 _ ?side1 ?side2 A1.out).mono ?_); (case side1 => exact Kd.C_nil _ _); (case side2 => exact Nat.le_refl _); rintro e w4 ⟨v132, rfl, ho0, hb⟩; (try clear A1); refine ⟨_, rfl, ?_⟩; have HO133 := Aside0.mk (Kd.R_lower ho0 (below_size (bw_ HB))); replace HB := Aside0.mk (below_step (bw_ HB) hb); (try clear hb); (try clear hb2); (try clear hk); (try clear hi); (try clear ho0)))
 replace HO133 := Aside0.mk (Kd.R_drew HO133.out)
 replace HB := Aside0.mk (b_d HB.out)
 refine start_ (n := 11) (S := fun w' => (convert 29 9 (v132)).run Try.prog w' = .ok (.string (strOfNums t131)) w') (ds := []) #[false, false, false, false, false, false, false, false, false, false, false] (by kernel_rfl) rfl rfl ((own_string (P := Try.prog) Try.underlying29 Try.underlying5 Try.underlying9 (Kd.own_of_R HO133.out))) (fun hHeld => ?_); refine with_tabW pelotonlaw15_awake.tab2 pelotonlaw15_awake.bits2 (fun HT_ HW_ => ?_)
 generalize w4.drew = w5 at HO133 HB hHeld ⊢
 refine pu_ (i := 0) (N := some 8) (bs_ 11 1) rfl rfl HT_ ?_
 refine pu_ (i := 1) (N := some 9) (bs_ 11 3) rfl rfl HT_ ?_
 refine pu_ (i := 2) (N := some 10) (bs_ 11 7) rfl rfl HT_ ?_
 refine pu_ (i := 3) (N := some 11) (bs_ 11 15) rfl rfl HT_ ?_
 refine take_ (i := 4) (N := some 12) (v := ?_) (a' := ?_) (bs_ 11 31) rfl rfl (take_ofW HT_.out HW_.out (by kernel_rfl)) (fun _ _ _ h => h) (Or.inl ⟨by rfl, ?_⟩) hHeld ?_ ?_
 rotate_left
 ·
  intro w' s0
  go_simp
  with_reducible rfl
 rotate_left
 ·
  simp only [Act.put, l_1, l_2, l_3, i64_w, i32_w]
  rfl
 refine one_ (i := 5) (N := some 13) (bs_ 11 63) rfl rfl (one_of HT_.out (by kernel_rfl)) (by decide) (fun K hK => ?_)
 refine Kd.R_lit_step (Kd.int .u8) _ 5 ?hg (N := 13) ?hd (xs := ([0, 0, 0, 0, 3, 0, 0, 0, 0, 1, 0, 0, 0, 0, 2] : List Int)) (inner := [.int .u8 0, .int .u8 0, .int .u8 0, .int .u8 0, .int .u8 3, .int .u8 0, .int .u8 0, .int .u8 0, .int .u8 0, .int .u8 1, .int .u8 0, .int .u8 0, .int .u8 0, .int .u8 0, .int .u8 2]) (ok := fun _ => True) (okp := fun _ => True) ?hr ?hp (fun _ hk => hk) trivial (Below.refl _ _) (Nat.le_refl _) (by simp) ?_; (case hd => rfl); (case hg => rfl); (case hr => first | (go_simp; done) | (go_simp; rfl)); (case hp => exact (Reps.one (show Kd.M (Kd.int .u8) _ _ _ 0 [.int .u8 0] from rfl) (Reps.one (show Kd.M (Kd.int .u8) _ _ _ 0 [.int .u8 0] from rfl) (Reps.one (show Kd.M (Kd.int .u8) _ _ _ 0 [.int .u8 0] from rfl) (Reps.one (show Kd.M (Kd.int .u8) _ _ _ 0 [.int .u8 0] from rfl) (Reps.one (show Kd.M (Kd.int .u8) _ _ _ 3 [.int .u8 3] from rfl) (Reps.one (show Kd.M (Kd.int .u8) _ _ _ 0 [.int .u8 0] from rfl) (Reps.one (show Kd.M (Kd.int .u8) _ _ _ 0 [.int .u8 0] from rfl) (Reps.one (show Kd.M (Kd.int .u8) _ _ _ 0 [.int .u8 0] from rfl) (Reps.one (show Kd.M (Kd.int .u8) _ _ _ 0 [.int .u8 0] from rfl) (Reps.one (show Kd.M (Kd.int .u8) _ _ _ 1 [.int .u8 1] from rfl) (Reps.one (show Kd.M (Kd.int .u8) _ _ _ 0 [.int .u8 0] from rfl) (Reps.one (show Kd.M (Kd.int .u8) _ _ _ 0 [.int .u8 0] from rfl) (Reps.one (show Kd.M (Kd.int .u8) _ _ _ 0 [.int .u8 0] from rfl) (Reps.one (show Kd.M (Kd.int .u8) _ _ _ 0 [.int .u8 0] from rfl) (Reps.one (show Kd.M (Kd.int .u8) _ _ _ 2 [.int .u8 2] from rfl) (Reps.none _ _)))))))))))))))))
 intro v136 w7 ho8 hb hg_ hnew_
 clear hg_ hnew_
 (first | rw [← Ny135.out] at ho8 | (simp only [Int.reduceToNat] at ho8; rw [← Ny135.out] at ho8))
 have HO137 := Aside0.mk (Kd.R_lower (Kd.R_new' ho8 (Kd.R_lt (tR_ HO133))) (below_size (bw_ HB)))
 replace HO133 := Aside0.mk (Kd.R_elder' (tR_ HO133) (Kd.R_base ho8) hb)
 replace HB := Aside0.mk (below_step (bw_ HB) hb)
 clear hb ho8
 obtain ⟨Ao9, co9, eo9⟩ := Kd.R_slice HO137.out
 (first | subst eo9 | (injection eo9 with f1_ f2_ f3_; have f4_ := f1_.symm; have f5_ := f3_.symm; clear f1_ f2_ f3_; subst f4_; subst f5_))
 refine hK.out _ _ ((own_string (P := Try.prog) Try.underlying29 Try.underlying5 Try.underlying9 (Kd.own_of_R HO133.out))) (fun hHeld => ?_)
 clear hK K
 refine no_ (N := some 13) ?_
 refine one_ (i := 6) (N := some 14) (bs_ 11 127) rfl rfl (one_of HT_.out (by kernel_rfl)) (by decide) (fun K hK => ?_)
 refine goes_ Try.func18 (by kernel_rfl) rfl #[.int .u8 5, .slice Ao9 y135.length co9] (by rfl) rfl rfl (by (try simp only [l_4, l_5, l_6]); first | done | rfl | (simp only [l_7, l_8]; rfl)) ?_
 with_reducible refine (pelotonref14_Pack.calls k 5 _ _ y135 t138 _ ?side1 ?side2 A3.out).mono ?_
 (case side1 => repeat (first | exact (Kd.R_reads' HO137.out).2.2 | (with_reducible refine Kd.C_alloc ?_ _) | (with_reducible refine Kd.C_drewN ?_ _) | (with_reducible refine Kd.C_drew ?_)))
 (case side2 => exact (Kd.R_reads' HO137.out).2.1)
 rintro e w10 ⟨v139, rfl, ho0, hb⟩
 refine ⟨_, rfl, ?_⟩
 have HO140 := Aside0.mk (Kd.R_lower (Kd.R_new' (Kd.R_new' ho0 (Kd.R_lt (tR_ HO133))) (Kd.R_lt (tR_ HO137))) (below_size (bw_ HB)))
 replace HO133 := Aside0.mk (Kd.R_elder' (tR_ HO133) (Kd.R_base ho0) hb)
 replace HO137 := Aside0.mk (Kd.R_elder' (tR_ HO137) (Kd.R_base ho0) hb)
 replace HB := Aside0.mk (below_step (bw_ HB) hb)
 (try clear hb)
 (try clear hb2)
 (try clear hk)
 (try clear hi)
 (try clear ho0)
 refine hK.out _ _ ((own_string (P := Try.prog) Try.underlying29 Try.underlying5 Try.underlying9 (Kd.own_of_R HO133.out))) (fun hHeld => ?_)
 clear hK K
 refine no_ (N := some 14) ?_
 refine one_ (i := 7) (N := some 15) (bs_ 11 255) rfl rfl (one_of HT_.out (by kernel_rfl)) (by decide) (fun K hK => ?_)
 have hcv11 := own_string (P := Try.prog) Try.underlying29 Try.underlying5 Try.underlying9 (Kd.own_of_R HO140.out)
 refine value_ (w1 := ?_) (v := ?_) (by rfl) rfl ?_ ?_
 rotate_left 2
 ·
  go_simp
  constructor
  ·
   rfl
  ·
   rfl
 clear hcv11
 refine hK.out _ _ ((own_string (P := Try.prog) Try.underlying29 Try.underlying5 Try.underlying9 (Kd.own_of_R HO133.out))) (fun hHeld => ?_)
 clear hK K
 refine no_ (N := some 15) ?_
 refine pu_ (i := 8) (N := some 16) (bs_ 11 511) rfl rfl HT_ ?_
 refine pu_ (i := 9) (N := some 17) (bs_ 11 1023) rfl rfl HT_ ?_
 refine pu_ (i := 10) (N := some 0) (bs_ 11 2047) rfl rfl HT_ ?_
 refine done_ (done_of HT_.out (by kernel_rfl)) ?_
 try go_wp2
 go_ret
 exact ⟨by first | rfl | (simp [errW_none, errW_some] <;> rfl) | (simp [*, errW_none, errW_some] <;> rfl), by repeat (first | (with_reducible first | exact HB.out | apply b_a | apply b_n | apply b_d) | exact HB.out)⟩
/-! ### pelotonref15_Form: function 10 -/
mutual
def pelotonref15_Form.j0 : Nat → Int → Bool → Option (ByteArray)
 | 0, _, _ => none
 | k + 1, x3, x4 => if x4 = true then (some (⟨#[101, 114, 112, 107]⟩ : ByteArray)) else (if x3 = 2 then (some (⟨#[101, 114, 112, 108, 43]⟩ : ByteArray)) else (if x3 = 3 then (some (⟨#[101, 114, 112, 108, 115, 116, 43]⟩ : ByteArray)) else (if x3 = 5 then (pelotonref15_Form.j1 k x3 (x3 == 5)) else (pelotonref15_Form.j1 k x3 (x3 == 7)))))
def pelotonref15_Form.j1 : Nat → Int → Bool → Option (ByteArray)
 | 0, _, _ => none
 | k + 1, x3, x11 => if x11 = true then (some (⟨#[101, 115, 116]⟩ : ByteArray)) else (if x3 = 6 then (some (⟨#[101]⟩ : ByteArray)) else (if x3 = 8 then (some (⟨#[101, 114, 116]⟩ : ByteArray)) else (if x3 = 9 then (some (⟨#[114, 107, 43]⟩ : ByteArray)) else (if x3 = 10 then (some (⟨#[114]⟩ : ByteArray)) else (if x3 = 11 then (some (⟨#[114, 107]⟩ : ByteArray)) else (if x3 = 12 then (some (⟨#[114, 112, 107]⟩ : ByteArray)) else (if x3 = 13 then (some (⟨#[114, 112]⟩ : ByteArray)) else (some (⟨#[]⟩ : ByteArray)))))))))
end
def pelotonref15_Form.f (k : Nat) (a0 : Int) : Option (ByteArray) := if a0 = 1 then (pelotonref15_Form.j0 k a0 (a0 == 1)) else (pelotonref15_Form.j0 k a0 (a0 == 4))
theorem pelotonref15_Form.mono_l : ∀ k, (∀ y0 y1, LeO (pelotonref15_Form.j0 k y0 y1) (pelotonref15_Form.j0 (k + 1) y0 y1)) ∧ (∀ y0 y1, LeO (pelotonref15_Form.j1 k y0 y1) (pelotonref15_Form.j1 (k + 1) y0 y1))
 | 0 => ⟨fun _ _ r h => by simp [pelotonref15_Form.j0] at h, fun _ _ r h => by simp [pelotonref15_Form.j1] at h⟩
 | k + 1 => by
  obtain ⟨ih0, ih1⟩ := pelotonref15_Form.mono_l k
  refine ⟨?_, ?_⟩
  ·
   intro y0 y1
   unfold pelotonref15_Form.j0
   repeat' first
   | (with_reducible exact ih0 _ _)
   | (with_reducible exact ih1 _ _)
   | (with_reducible exact LeO.refl _)
   | (with_reducible exact LeO.none _)
   | (with_reducible refine LeO.ite ?_ ?_)
   | (with_reducible refine LeO.bind ?_ (fun _ => ?_))
   | exact ih0 _ _
   | exact ih1 _ _
   | exact LeO.none _
   | refine LeO.ite ?_ ?_
   | refine LeO.bind ?_ (fun _ => ?_)
  ·
   intro y0 y1
   unfold pelotonref15_Form.j1
   repeat' first
   | (with_reducible exact ih0 _ _)
   | (with_reducible exact ih1 _ _)
   | (with_reducible exact LeO.refl _)
   | (with_reducible exact LeO.none _)
   | (with_reducible refine LeO.ite ?_ ?_)
   | (with_reducible refine LeO.bind ?_ (fun _ => ?_))
   | exact ih0 _ _
   | exact ih1 _ _
   | exact LeO.none _
   | refine LeO.ite ?_ ?_
   | refine LeO.bind ?_ (fun _ => ?_)
theorem pelotonref15_Form.mono : ∀ a0 k, LeO (pelotonref15_Form.f k a0) (pelotonref15_Form.f (k + 1) a0) := by
 intro a0 k
 obtain ⟨ih0, ih1⟩ := pelotonref15_Form.mono_l k
 unfold pelotonref15_Form.f
 repeat' first
   | (with_reducible exact ih0 _ _)
   | (with_reducible exact ih1 _ _)
   | (with_reducible exact LeO.refl _)
   | (with_reducible exact LeO.none _)
   | (with_reducible refine LeO.ite ?_ ?_)
   | (with_reducible refine LeO.bind ?_ (fun _ => ?_))
   | exact ih0 _ _
   | exact ih1 _ _
   | exact LeO.none _
   | refine LeO.ite ?_ ?_
   | refine LeO.bind ?_ (fun _ => ?_)
set_option maxHeartbeats 60000000 in
set_option maxRecDepth 100000 in
theorem pelotonref15_Form.calls (k : Nat) (a0 : Int) (r : ByteArray) (w : World) (h : pelotonref15_Form.f k a0 = some r) :
  Calls Try.prog 10 #[.int .i64 a0] w fun e w' => e = .returned (.string r) ∧ Drawn0 w w' := by
 have H : (if a0 = 1 then (pelotonref15_Form.j0 k a0 (a0 == 1)) else (pelotonref15_Form.j0 k a0 (a0 == 4))) = some r := h
 clear h
 have HC2 := Aside0.mk H
 clear H
 go_enter Try.func10, Try.ntmps10
 go_upto_if 4 with (fail)
 go_cut [4] (fun v4 wc => ∃ (kq : Nat) (x4_1 : Bool), v4 = .bool x4_1 ∧ Aside0 (pelotonref15_Form.j0 kq a0 x4_1 = some r) ∧ Aside0 (kq ≤ k) ∧ Drawn0 w wc)
 case first =>
  have H := HC2.out
  clear HC2
  by_cases c3 : a0 = 1
  rotate_left
  ·
   rw [if_neg c3] at H
   have c3b0 : (a0 == 1) = false := beq_eq_false_iff_ne.mpr c3
   have c3b1 : (a0 != 1) = true := bne_iff_ne.mpr c3
   (first | rw [c3b0] | (simp only [i64_w, i32_w]; rw [c3b0]) | skip)
   have H' := Aside0.mk H
   clear H
   go_wp2
   go_meet
   case rel => exact ⟨_, ((a0 == 4)), (by first | rfl | (simp; done) | (simp [*]; done)), H', ⟨by first | exact Nat.le_refl _ | omega⟩, by repeat (first | exact Drawn0.refl _ | apply Drawn0.step)⟩
  rw [if_pos c3] at H
  have c3b0 : (a0 == 1) = true := beq_iff_eq.mpr c3
  have c3b1 : (a0 != 1) = false := bne_eq_false_iff_eq.mpr c3
  clear c3
  (first | rw [c3b0] | (simp only [i64_w, i32_w]; rw [c3b0]) | skip)
  have H' := Aside0.mk H
  clear H
  go_wp2
  go_meet
  case rel => exact ⟨_, ((a0 == 1)), (by first | rfl | (simp; done) | (simp [*]; done)), H', ⟨by first | exact Nat.le_refl _ | omega⟩, by repeat (first | exact Drawn0.refl _ | apply Drawn0.step)⟩
 case rest => as_aux_lemma =>
  clear HC2
  try clear c1
  try clear p2
  try clear c3
  try clear c3b0
  try clear c3b1
  obtain ⟨kq, x4_1, rfl, HA, HJ1, ⟨mc1, rfl⟩⟩ := hcut
  cases kq with
  | zero => exact absurd HA.out (by simp [pelotonref15_Form.j0])
  | succ kj1 =>
   have H := HA.out
   clear HA
   simp only [pelotonref15_Form.j0] at H
   by_cases c4 : x4_1 = true
   ·
    subst c4
    have H1 : (some (⟨#[101, 114, 112, 107]⟩ : ByteArray)) = some r := by rw [if_pos rfl] at H; exact H
    clear H
    have H := H1
    clear H1
    obtain rfl := Option.some.inj H
    go_wp2
    go_ret
    exact ⟨by first | rfl | (simp; done) | (simp [*]; done), by repeat (first | exact Drawn0.refl _ | apply Drawn0.step)⟩
   replace c4 := Bool.eq_false_iff.mpr c4
   subst c4
   have H1 : (if a0 = 2 then (some (⟨#[101, 114, 112, 108, 43]⟩ : ByteArray)) else (if a0 = 3 then (some (⟨#[101, 114, 112, 108, 115, 116, 43]⟩ : ByteArray)) else (if a0 = 5 then (pelotonref15_Form.j1 kj1 a0 (a0 == 5)) else (pelotonref15_Form.j1 kj1 a0 (a0 == 7))))) = some r := by rw [if_neg (show ¬ (false = true) by decide)] at H; exact H
   clear H
   have H := H1
   clear H1
   by_cases c5 : a0 = 2
   ·
    rw [if_pos c5] at H
    have c5b0 : (a0 == 2) = true := beq_iff_eq.mpr c5
    have c5b1 : (a0 != 2) = false := bne_eq_false_iff_eq.mpr c5
    clear c5
    obtain rfl := Option.some.inj H
    go_wp2
    go_ret
    exact ⟨by first | rfl | (simp; done) | (simp [*]; done), by repeat (first | exact Drawn0.refl _ | apply Drawn0.step)⟩
   rw [if_neg c5] at H
   have c5b0 : (a0 == 2) = false := beq_eq_false_iff_ne.mpr c5
   have c5b1 : (a0 != 2) = true := bne_iff_ne.mpr c5
   by_cases c6 : a0 = 3
   ·
    rw [if_pos c6] at H
    have c6b0 : (a0 == 3) = true := beq_iff_eq.mpr c6
    have c6b1 : (a0 != 3) = false := bne_eq_false_iff_eq.mpr c6
    clear c6
    obtain rfl := Option.some.inj H
    go_wp2
    go_ret
    exact ⟨by first | rfl | (simp; done) | (simp [*]; done), by repeat (first | exact Drawn0.refl _ | apply Drawn0.step)⟩
   rw [if_neg c6] at H
   have c6b0 : (a0 == 3) = false := beq_eq_false_iff_ne.mpr c6
   have c6b1 : (a0 != 3) = true := bne_iff_ne.mpr c6
   have HC7 := Aside0.mk H
   clear H
   go_upto_if 11 with (fail)
   go_cut [11] (fun v11 wc => ∃ (kq : Nat) (x11_6 : Bool), v11 = .bool x11_6 ∧ Aside0 (pelotonref15_Form.j1 kq a0 x11_6 = some r) ∧ Aside0 (kq ≤ kj1) ∧ Drawn0 w wc)
   case first =>
    have H := HC7.out
    clear HC7
    by_cases c8 : a0 = 5
    rotate_left
    ·
     rw [if_neg c8] at H
     have c8b0 : (a0 == 5) = false := beq_eq_false_iff_ne.mpr c8
     have c8b1 : (a0 != 5) = true := bne_iff_ne.mpr c8
     (first | rw [c8b0] | (simp only [i64_w, i32_w]; rw [c8b0]) | skip)
     have H' := Aside0.mk H
     clear H
     go_wp2
     go_meet
     case rel => exact ⟨_, ((a0 == 7)), (by first | rfl | (simp; done) | (simp [*]; done)), H', ⟨by have := HJ1.out; first | exact Nat.le_refl _ | omega⟩, by repeat (first | exact Drawn0.refl _ | apply Drawn0.step)⟩
    rw [if_pos c8] at H
    have c8b0 : (a0 == 5) = true := beq_iff_eq.mpr c8
    have c8b1 : (a0 != 5) = false := bne_eq_false_iff_eq.mpr c8
    clear c8
    (first | rw [c8b0] | (simp only [i64_w, i32_w]; rw [c8b0]) | skip)
    have H' := Aside0.mk H
    clear H
    go_wp2
    go_meet
    case rel => exact ⟨_, ((a0 == 5)), (by first | rfl | (simp; done) | (simp [*]; done)), H', ⟨by have := HJ1.out; first | exact Nat.le_refl _ | omega⟩, by repeat (first | exact Drawn0.refl _ | apply Drawn0.step)⟩
   case rest => as_aux_lemma =>
    clear HC7
    try clear c1
    try clear p2
    try clear c3
    try clear c3b0
    try clear c3b1
    try clear c4
    try clear c5
    try clear c5b0
    try clear c5b1
    try clear c6
    try clear c6b0
    try clear c6b1
    try clear c8
    try clear c8b0
    try clear c8b1
    try clear p2
    obtain ⟨kq, x11_6, rfl, HA, HJ6, ⟨mc6, rfl⟩⟩ := hcut
    cases kq with
    | zero => exact absurd HA.out (by simp [pelotonref15_Form.j1])
    | succ kj6 =>
     have H := HA.out
     clear HA
     simp only [pelotonref15_Form.j1] at H
     by_cases c9 : x11_6 = true
     ·
      subst c9
      have H1 : (some (⟨#[101, 115, 116]⟩ : ByteArray)) = some r := by rw [if_pos rfl] at H; exact H
      clear H
      have H := H1
      clear H1
      obtain rfl := Option.some.inj H
      go_wp2
      go_ret
      exact ⟨by first | rfl | (simp; done) | (simp [*]; done), by repeat (first | exact Drawn0.refl _ | apply Drawn0.step)⟩
     replace c9 := Bool.eq_false_iff.mpr c9
     subst c9
     have H1 : (if a0 = 6 then (some (⟨#[101]⟩ : ByteArray)) else (if a0 = 8 then (some (⟨#[101, 114, 116]⟩ : ByteArray)) else (if a0 = 9 then (some (⟨#[114, 107, 43]⟩ : ByteArray)) else (if a0 = 10 then (some (⟨#[114]⟩ : ByteArray)) else (if a0 = 11 then (some (⟨#[114, 107]⟩ : ByteArray)) else (if a0 = 12 then (some (⟨#[114, 112, 107]⟩ : ByteArray)) else (if a0 = 13 then (some (⟨#[114, 112]⟩ : ByteArray)) else (some (⟨#[]⟩ : ByteArray))))))))) = some r := by rw [if_neg (show ¬ (false = true) by decide)] at H; exact H
     clear H
     have H := H1
     clear H1
     by_cases c10 : a0 = 6
     ·
      rw [if_pos c10] at H
      have c10b0 : (a0 == 6) = true := beq_iff_eq.mpr c10
      have c10b1 : (a0 != 6) = false := bne_eq_false_iff_eq.mpr c10
      clear c10
      obtain rfl := Option.some.inj H
      go_wp2
      go_ret
      exact ⟨by first | rfl | (simp; done) | (simp [*]; done), by repeat (first | exact Drawn0.refl _ | apply Drawn0.step)⟩
     rw [if_neg c10] at H
     have c10b0 : (a0 == 6) = false := beq_eq_false_iff_ne.mpr c10
     have c10b1 : (a0 != 6) = true := bne_iff_ne.mpr c10
     by_cases c11 : a0 = 8
     ·
      rw [if_pos c11] at H
      have c11b0 : (a0 == 8) = true := beq_iff_eq.mpr c11
      have c11b1 : (a0 != 8) = false := bne_eq_false_iff_eq.mpr c11
      clear c11
      obtain rfl := Option.some.inj H
      go_wp2
      go_ret
      exact ⟨by first | rfl | (simp; done) | (simp [*]; done), by repeat (first | exact Drawn0.refl _ | apply Drawn0.step)⟩
     rw [if_neg c11] at H
     have c11b0 : (a0 == 8) = false := beq_eq_false_iff_ne.mpr c11
     have c11b1 : (a0 != 8) = true := bne_iff_ne.mpr c11
     by_cases c12 : a0 = 9
     ·
      rw [if_pos c12] at H
      have c12b0 : (a0 == 9) = true := beq_iff_eq.mpr c12
      have c12b1 : (a0 != 9) = false := bne_eq_false_iff_eq.mpr c12
      clear c12
      obtain rfl := Option.some.inj H
      go_wp2
      go_ret
      exact ⟨by first | rfl | (simp; done) | (simp [*]; done), by repeat (first | exact Drawn0.refl _ | apply Drawn0.step)⟩
     rw [if_neg c12] at H
     have c12b0 : (a0 == 9) = false := beq_eq_false_iff_ne.mpr c12
     have c12b1 : (a0 != 9) = true := bne_iff_ne.mpr c12
     by_cases c13 : a0 = 10
     ·
      rw [if_pos c13] at H
      have c13b0 : (a0 == 10) = true := beq_iff_eq.mpr c13
      have c13b1 : (a0 != 10) = false := bne_eq_false_iff_eq.mpr c13
      clear c13
      obtain rfl := Option.some.inj H
      go_wp2
      go_ret
      exact ⟨by first | rfl | (simp; done) | (simp [*]; done), by repeat (first | exact Drawn0.refl _ | apply Drawn0.step)⟩
     rw [if_neg c13] at H
     have c13b0 : (a0 == 10) = false := beq_eq_false_iff_ne.mpr c13
     have c13b1 : (a0 != 10) = true := bne_iff_ne.mpr c13
     by_cases c14 : a0 = 11
     ·
      rw [if_pos c14] at H
      have c14b0 : (a0 == 11) = true := beq_iff_eq.mpr c14
      have c14b1 : (a0 != 11) = false := bne_eq_false_iff_eq.mpr c14
      clear c14
      obtain rfl := Option.some.inj H
      go_wp2
      go_ret
      exact ⟨by first | rfl | (simp; done) | (simp [*]; done), by repeat (first | exact Drawn0.refl _ | apply Drawn0.step)⟩
     rw [if_neg c14] at H
     have c14b0 : (a0 == 11) = false := beq_eq_false_iff_ne.mpr c14
     have c14b1 : (a0 != 11) = true := bne_iff_ne.mpr c14
     by_cases c15 : a0 = 12
     ·
      rw [if_pos c15] at H
      have c15b0 : (a0 == 12) = true := beq_iff_eq.mpr c15
      have c15b1 : (a0 != 12) = false := bne_eq_false_iff_eq.mpr c15
      clear c15
      obtain rfl := Option.some.inj H
      go_wp2
      go_ret
      exact ⟨by first | rfl | (simp; done) | (simp [*]; done), by repeat (first | exact Drawn0.refl _ | apply Drawn0.step)⟩
     rw [if_neg c15] at H
     have c15b0 : (a0 == 12) = false := beq_eq_false_iff_ne.mpr c15
     have c15b1 : (a0 != 12) = true := bne_iff_ne.mpr c15
     by_cases c16 : a0 = 13
     rotate_left
     ·
      rw [if_neg c16] at H
      have c16b0 : (a0 == 13) = false := beq_eq_false_iff_ne.mpr c16
      have c16b1 : (a0 != 13) = true := bne_iff_ne.mpr c16
      obtain rfl := Option.some.inj H
      go_wp2
      go_ret
      exact ⟨by first | rfl | (simp; done) | (simp [*]; done), by repeat (first | exact Drawn0.refl _ | apply Drawn0.step)⟩

     rw [if_pos c16] at H
     have c16b0 : (a0 == 13) = true := beq_iff_eq.mpr c16
     have c16b1 : (a0 != 13) = false := bne_eq_false_iff_eq.mpr c16
     clear c16
     obtain rfl := Option.some.inj H
     go_wp2
     go_ret
     exact ⟨by first | rfl | (simp; done) | (simp [*]; done), by repeat (first | exact Drawn0.refl _ | apply Drawn0.step)⟩
/-! ### pelotonref15_has: function 19 -/
def pelotonref15_has.l0 : Nat → ByteArray → Int → Int → Option (Bool)
 | 0, _, _, _ => none
 | k + 1, x0, x1, x5 => if x5 < (x0.size : Int) then (if 0 ≤ x5 then (if (bt x0 x5) = x1 then (some true) else (pelotonref15_has.l0 k x0 x1 (wrap64 (x5 + 1)))) else (none)) else (some false)
def pelotonref15_has.f (k : Nat) (a0 : ByteArray) (a1 : Int) : Option (Bool) := pelotonref15_has.l0 k a0 a1 0
theorem pelotonref15_has.mono_l : ∀ k, (∀ y0 y1 y2, LeO (pelotonref15_has.l0 k y0 y1 y2) (pelotonref15_has.l0 (k + 1) y0 y1 y2))
 | 0 => fun _ _ _ r h => by simp [pelotonref15_has.l0] at h
 | k + 1 => by
  have ih0 := pelotonref15_has.mono_l k
  ·
   intro y0 y1 y2
   unfold pelotonref15_has.l0
   repeat' first
   | (with_reducible exact ih0 _ _ _)
   | (with_reducible exact LeO.refl _)
   | (with_reducible exact LeO.none _)
   | (with_reducible refine LeO.ite ?_ ?_)
   | (with_reducible refine LeO.bind ?_ (fun _ => ?_))
   | exact ih0 _ _ _
   | exact LeO.none _
   | refine LeO.ite ?_ ?_
   | refine LeO.bind ?_ (fun _ => ?_)
theorem pelotonref15_has.mono : ∀ a0 a1 k, LeO (pelotonref15_has.f k a0 a1) (pelotonref15_has.f (k + 1) a0 a1) := by
 intro a0 a1 k
 have ih0 := pelotonref15_has.mono_l k
 unfold pelotonref15_has.f
 repeat' first
   | (with_reducible exact ih0 _ _ _)
   | (with_reducible exact LeO.refl _)
   | (with_reducible exact LeO.none _)
   | (with_reducible refine LeO.ite ?_ ?_)
   | (with_reducible refine LeO.bind ?_ (fun _ => ?_))
   | exact ih0 _ _ _
   | exact LeO.none _
   | refine LeO.ite ?_ ?_
   | refine LeO.bind ?_ (fun _ => ?_)
set_option maxHeartbeats 60000000 in
set_option maxRecDepth 100000 in
theorem pelotonref15_has.calls (k : Nat) (a0 : ByteArray) (a1 : Int) (r : Bool) (w : World) (h : pelotonref15_has.f k a0 a1 = some r) :
  Calls Try.prog 19 #[.string a0, .int .u8 a1] w fun e w' => e = .returned (.bool r) ∧ Drawn0 w w' := by
 have H : (pelotonref15_has.l0 k a0 a1 0) = some r := h
 clear h
 have H' := Aside0.mk H
 clear H
 go_enter Try.func19, Try.ntmps19
 go_wp2
 go_loopg [5] k (fun kq v5 w' => ∃ (x5_1 : Int), v5 = .int .i64 x5_1 ∧ Aside0 (pelotonref15_has.l0 kq a0 a1 x5_1 = some r) ∧ Aside0 (kq ≤ k) ∧ Drawn0 w w')
 case atStart => exact ⟨(0), (by first | rfl | (simp; done) | (simp [*]; done)), H', ⟨Nat.le_refl _⟩, by repeat (first | exact Drawn0.refl _ | apply Drawn0.step)⟩
 case round =>
  clear H'
  try clear c1
  try clear p2
  obtain ⟨x5_1, rfl, HA, HK1, ⟨m1, rfl⟩⟩ := hrel
  cases gk with
  | zero => exact absurd HA.out (by simp [pelotonref15_has.l0])
  | succ k1 =>
   have H := HA.out
   clear HA
   simp only [pelotonref15_has.l0] at H
   by_cases c3 : x5_1 < (a0.size : Int)
   rotate_left
   ·
    rw [if_neg c3] at H
    have c3b0 : decide (x5_1 < (a0.size : Int)) = false := decide_eq_false c3
    clear c3
    obtain rfl := Option.some.inj H
    go_wp2
    go_ret
    exact ⟨by first | rfl | (simp; done) | (simp [*]; done), by repeat (first | exact Drawn0.refl _ | apply Drawn0.step)⟩

   rw [if_pos c3] at H
   have c3b0 : decide (x5_1 < (a0.size : Int)) = true := decide_eq_true c3
   clear c3
   by_cases c4 : 0 ≤ x5_1
   rotate_left
   ·
    rw [if_neg c4] at H
    exact absurd H (by simp)
   rw [if_pos c4] at H
   have c4b0 : decide (0 ≤ x5_1) = true := decide_eq_true c4
   clear c4
   by_cases c6 : (bt a0 x5_1) = a1
   ·
    rw [if_pos c6] at H
    have c6b0 : ((bt a0 x5_1) == a1) = true := beq_iff_eq.mpr c6
    have c6b1 : ((bt a0 x5_1) != a1) = false := bne_eq_false_iff_eq.mpr c6
    clear c6
    obtain rfl := Option.some.inj H
    have p5 : 0 ≤ (x5_1 : Int) := of_decide_eq_true (by first | (with_reducible assumption) | assumption)
    have q5 : x5_1 < (a0.size : Int) := of_decide_eq_true (by first | (with_reducible assumption) | assumption)
    have hx5 := bt_at a0 x5_1
    replace p5 := eq_true p5
    replace q5 := eq_true q5
    go_wp2
    go_ret
    exact ⟨by first | rfl | (simp; done) | (simp [*]; done), by repeat (first | exact Drawn0.refl _ | apply Drawn0.step)⟩
   rw [if_neg c6] at H
   have c6b0 : ((bt a0 x5_1) == a1) = false := beq_eq_false_iff_ne.mpr c6
   have c6b1 : ((bt a0 x5_1) != a1) = true := bne_iff_ne.mpr c6
   have H' := Aside0.mk H
   clear H
   have p5 : 0 ≤ (x5_1 : Int) := of_decide_eq_true (by first | (with_reducible assumption) | assumption)
   have q5 : x5_1 < (a0.size : Int) := of_decide_eq_true (by first | (with_reducible assumption) | assumption)
   have hx5 := bt_at a0 x5_1
   replace p5 := eq_true p5
   replace q5 := eq_true q5
   go_wp2
   go_roundg k1
   case measure => have := HK1.out; omega
   case rel => exact ⟨(wrap64 (x5_1 + 1)), (by first | rfl | (simp; done) | (simp [*]; done)), H', ⟨by have := HK1.out; omega⟩, by repeat (first | exact Drawn0.refl _ | apply Drawn0.step)⟩
/-! ### pelotonref15_Num: function 20 -/
def pelotonref15_Num.f (a0_0 : Int) (a0_1 : Int) (a0_2 : Int) (a0_3 : Int) (a0_4 : Int) (a0_5 : Int) (a0_6 : Int) (a0_7 : Int) (l0_8 : List Int) (a1 : Int) : Option (Int) := if a1 = 101 then (some a0_1) else (if a1 = 114 then (some a0_2) else (if a1 = 112 then (some a0_3) else (if a1 = 108 then (some a0_4) else (if a1 = 115 then (some a0_5) else (if a1 = 116 then (some a0_6) else (some a0_7))))))
set_option maxHeartbeats 60000000 in
set_option maxRecDepth 100000 in
theorem pelotonref15_Num.calls (a0_0 : Int) (a0_1 : Int) (a0_2 : Int) (a0_3 : Int) (a0_4 : Int) (a0_5 : Int) (a0_6 : Int) (a0_7 : Int) (A0_8 : Option Addr) (c0_8 : Nat) (l0_8 : List Int) (a1 : Int) (r : Int) (w : World) (hr0_8 : Kd.C (Kd.int .i32) w A0_8 l0_8.length l0_8) (hc0_8 : l0_8.length ≤ c0_8) (h : pelotonref15_Num.f a0_0 a0_1 a0_2 a0_3 a0_4 a0_5 a0_6 a0_7 l0_8 a1 = some r) :
  Calls Try.prog 20 #[.agg #[.int .i64 a0_0, .int .i64 a0_1, .int .i64 a0_2, .int .i64 a0_3, .int .i64 a0_4, .int .i64 a0_5, .int .i64 a0_6, .int .i64 a0_7, .slice A0_8 l0_8.length c0_8], .int .u8 a1] w fun e w' => e = .returned (.int .i64 r) ∧ Below w.heap.size w w' := by
 have hu24 := Try.underlying24
 have HR0_8 := Aside0.mk hr0_8
 have HC0_8 := Aside0.mk hc0_8
 clear hr0_8 hc0_8
 have HB := Aside0.mk (Below.refl w.heap.size w)
 have H : (if a1 = 101 then (some a0_1) else (if a1 = 114 then (some a0_2) else (if a1 = 112 then (some a0_3) else (if a1 = 108 then (some a0_4) else (if a1 = 115 then (some a0_5) else (if a1 = 116 then (some a0_6) else (some a0_7))))))) = some r := h
 clear h
 by_cases c3 : a1 = 101
 ·
  rw [if_pos c3] at H
  have c3b0 : (a1 == 101) = true := beq_iff_eq.mpr c3
  have c3b1 : (a1 != 101) = false := bne_eq_false_iff_eq.mpr c3
  clear c3
  obtain rfl := Option.some.inj H
  go_enter Try.func20, Try.ntmps20
  go_wp2_with (first | ((with_reducible refine gate_dst (N := 2) rfl ?_); refine box_event ?hg (N := 2) ?hd (cs := #[.int .i64 a0_0, .int .i64 a0_1, .int .i64 a0_2, .int .i64 a0_3, .int .i64 a0_4, .int .i64 a0_5, .int .i64 a0_6, .int .i64 a0_7, .slice A0_8 l0_8.length c0_8]) (t := 24) ?hr ?_; (case hd => rfl); (case hg => rfl); (case hr => first | (go_simp; done) | (go_simp; rfl)); intro gb141 hg w4 hbox hb; have BK141 := Aside0.mk (hbox); have GW141 := Aside0.mk ((by rw [hg]; exact (below_size (bw_ HB)) : w.heap.size ≤ gb141)); have GE141 := Aside0.mk ((by rw [hg]; exact (below_size (bw_ HB)) : w.heap.size ≤ gb141)); replace HB := Aside0.mk (below_step (bw_ HB) hb); clear hb hbox hg; have hcz5_0 := bc_0 BK141; have hcz5_1 := bc_1 BK141; have hcz5_2 := bc_2 BK141; have hcz5_3 := bc_3 BK141; have hcz5_4 := bc_4 BK141; have hcz5_5 := bc_5 BK141; have hcz5_6 := bc_6 BK141; have hcz5_7 := bc_7 BK141; have hcz5_8 : w4.cell? ⟨gb141, 8, none⟩ = some (.slice A0_8 l0_8.length c0_8) := (blk_cell BK141.out 8).trans rfl; have hfz5_0 := blk_frozen BK141.out 0; have hfz5_1 := blk_frozen BK141.out 1; have hfz5_2 := blk_frozen BK141.out 2; have hfz5_3 := blk_frozen BK141.out 3; have hfz5_4 := blk_frozen BK141.out 4; have hfz5_5 := blk_frozen BK141.out 5; have hfz5_6 := blk_frozen BK141.out 6; have hfz5_7 := blk_frozen BK141.out 7; have hfz5_8 := blk_frozen BK141.out 8))
  go_ret
  exact ⟨by first | rfl | (simp [errW_none, errW_some] <;> rfl) | (simp [*, errW_none, errW_some] <;> rfl), by repeat (first | (with_reducible first | exact HB.out | apply b_a | apply b_n | apply b_d | refine b_s ?_ GE141.out) | exact HB.out)⟩
 rw [if_neg c3] at H
 have c3b0 : (a1 == 101) = false := beq_eq_false_iff_ne.mpr c3
 have c3b1 : (a1 != 101) = true := bne_iff_ne.mpr c3
 by_cases c6 : a1 = 114
 ·
  rw [if_pos c6] at H
  have c6b0 : (a1 == 114) = true := beq_iff_eq.mpr c6
  have c6b1 : (a1 != 114) = false := bne_eq_false_iff_eq.mpr c6
  clear c6
  obtain rfl := Option.some.inj H
  go_enter Try.func20, Try.ntmps20
  go_wp2_with (first | ((with_reducible refine gate_dst (N := 2) rfl ?_); refine box_event ?hg (N := 2) ?hd (cs := #[.int .i64 a0_0, .int .i64 a0_1, .int .i64 a0_2, .int .i64 a0_3, .int .i64 a0_4, .int .i64 a0_5, .int .i64 a0_6, .int .i64 a0_7, .slice A0_8 l0_8.length c0_8]) (t := 24) ?hr ?_; (case hd => rfl); (case hg => rfl); (case hr => first | (go_simp; done) | (go_simp; rfl)); intro gb141 hg w7 hbox hb; have BK141 := Aside0.mk (hbox); have GW141 := Aside0.mk ((by rw [hg]; exact (below_size (bw_ HB)) : w.heap.size ≤ gb141)); have GE141 := Aside0.mk ((by rw [hg]; exact (below_size (bw_ HB)) : w.heap.size ≤ gb141)); replace HB := Aside0.mk (below_step (bw_ HB) hb); clear hb hbox hg; have hcz8_0 := bc_0 BK141; have hcz8_1 := bc_1 BK141; have hcz8_2 := bc_2 BK141; have hcz8_3 := bc_3 BK141; have hcz8_4 := bc_4 BK141; have hcz8_5 := bc_5 BK141; have hcz8_6 := bc_6 BK141; have hcz8_7 := bc_7 BK141; have hcz8_8 : w7.cell? ⟨gb141, 8, none⟩ = some (.slice A0_8 l0_8.length c0_8) := (blk_cell BK141.out 8).trans rfl; have hfz8_0 := blk_frozen BK141.out 0; have hfz8_1 := blk_frozen BK141.out 1; have hfz8_2 := blk_frozen BK141.out 2; have hfz8_3 := blk_frozen BK141.out 3; have hfz8_4 := blk_frozen BK141.out 4; have hfz8_5 := blk_frozen BK141.out 5; have hfz8_6 := blk_frozen BK141.out 6; have hfz8_7 := blk_frozen BK141.out 7; have hfz8_8 := blk_frozen BK141.out 8))
  go_ret
  exact ⟨by first | rfl | (simp [errW_none, errW_some] <;> rfl) | (simp [*, errW_none, errW_some] <;> rfl), by repeat (first | (with_reducible first | exact HB.out | apply b_a | apply b_n | apply b_d | refine b_s ?_ GE141.out) | exact HB.out)⟩
 rw [if_neg c6] at H
 have c6b0 : (a1 == 114) = false := beq_eq_false_iff_ne.mpr c6
 have c6b1 : (a1 != 114) = true := bne_iff_ne.mpr c6
 by_cases c9 : a1 = 112
 ·
  rw [if_pos c9] at H
  have c9b0 : (a1 == 112) = true := beq_iff_eq.mpr c9
  have c9b1 : (a1 != 112) = false := bne_eq_false_iff_eq.mpr c9
  clear c9
  obtain rfl := Option.some.inj H
  go_enter Try.func20, Try.ntmps20
  go_wp2_with (first | ((with_reducible refine gate_dst (N := 2) rfl ?_); refine box_event ?hg (N := 2) ?hd (cs := #[.int .i64 a0_0, .int .i64 a0_1, .int .i64 a0_2, .int .i64 a0_3, .int .i64 a0_4, .int .i64 a0_5, .int .i64 a0_6, .int .i64 a0_7, .slice A0_8 l0_8.length c0_8]) (t := 24) ?hr ?_; (case hd => rfl); (case hg => rfl); (case hr => first | (go_simp; done) | (go_simp; rfl)); intro gb141 hg w10 hbox hb; have BK141 := Aside0.mk (hbox); have GW141 := Aside0.mk ((by rw [hg]; exact (below_size (bw_ HB)) : w.heap.size ≤ gb141)); have GE141 := Aside0.mk ((by rw [hg]; exact (below_size (bw_ HB)) : w.heap.size ≤ gb141)); replace HB := Aside0.mk (below_step (bw_ HB) hb); clear hb hbox hg; have hcz11_0 := bc_0 BK141; have hcz11_1 := bc_1 BK141; have hcz11_2 := bc_2 BK141; have hcz11_3 := bc_3 BK141; have hcz11_4 := bc_4 BK141; have hcz11_5 := bc_5 BK141; have hcz11_6 := bc_6 BK141; have hcz11_7 := bc_7 BK141; have hcz11_8 : w10.cell? ⟨gb141, 8, none⟩ = some (.slice A0_8 l0_8.length c0_8) := (blk_cell BK141.out 8).trans rfl; have hfz11_0 := blk_frozen BK141.out 0; have hfz11_1 := blk_frozen BK141.out 1; have hfz11_2 := blk_frozen BK141.out 2; have hfz11_3 := blk_frozen BK141.out 3; have hfz11_4 := blk_frozen BK141.out 4; have hfz11_5 := blk_frozen BK141.out 5; have hfz11_6 := blk_frozen BK141.out 6; have hfz11_7 := blk_frozen BK141.out 7; have hfz11_8 := blk_frozen BK141.out 8))
  go_ret
  exact ⟨by first | rfl | (simp [errW_none, errW_some] <;> rfl) | (simp [*, errW_none, errW_some] <;> rfl), by repeat (first | (with_reducible first | exact HB.out | apply b_a | apply b_n | apply b_d | refine b_s ?_ GE141.out) | exact HB.out)⟩
 rw [if_neg c9] at H
 have c9b0 : (a1 == 112) = false := beq_eq_false_iff_ne.mpr c9
 have c9b1 : (a1 != 112) = true := bne_iff_ne.mpr c9
 by_cases c12 : a1 = 108
 ·
  rw [if_pos c12] at H
  have c12b0 : (a1 == 108) = true := beq_iff_eq.mpr c12
  have c12b1 : (a1 != 108) = false := bne_eq_false_iff_eq.mpr c12
  clear c12
  obtain rfl := Option.some.inj H
  go_enter Try.func20, Try.ntmps20
  go_wp2_with (first | ((with_reducible refine gate_dst (N := 2) rfl ?_); refine box_event ?hg (N := 2) ?hd (cs := #[.int .i64 a0_0, .int .i64 a0_1, .int .i64 a0_2, .int .i64 a0_3, .int .i64 a0_4, .int .i64 a0_5, .int .i64 a0_6, .int .i64 a0_7, .slice A0_8 l0_8.length c0_8]) (t := 24) ?hr ?_; (case hd => rfl); (case hg => rfl); (case hr => first | (go_simp; done) | (go_simp; rfl)); intro gb141 hg w13 hbox hb; have BK141 := Aside0.mk (hbox); have GW141 := Aside0.mk ((by rw [hg]; exact (below_size (bw_ HB)) : w.heap.size ≤ gb141)); have GE141 := Aside0.mk ((by rw [hg]; exact (below_size (bw_ HB)) : w.heap.size ≤ gb141)); replace HB := Aside0.mk (below_step (bw_ HB) hb); clear hb hbox hg; have hcz14_0 := bc_0 BK141; have hcz14_1 := bc_1 BK141; have hcz14_2 := bc_2 BK141; have hcz14_3 := bc_3 BK141; have hcz14_4 := bc_4 BK141; have hcz14_5 := bc_5 BK141; have hcz14_6 := bc_6 BK141; have hcz14_7 := bc_7 BK141; have hcz14_8 : w13.cell? ⟨gb141, 8, none⟩ = some (.slice A0_8 l0_8.length c0_8) := (blk_cell BK141.out 8).trans rfl; have hfz14_0 := blk_frozen BK141.out 0; have hfz14_1 := blk_frozen BK141.out 1; have hfz14_2 := blk_frozen BK141.out 2; have hfz14_3 := blk_frozen BK141.out 3; have hfz14_4 := blk_frozen BK141.out 4; have hfz14_5 := blk_frozen BK141.out 5; have hfz14_6 := blk_frozen BK141.out 6; have hfz14_7 := blk_frozen BK141.out 7; have hfz14_8 := blk_frozen BK141.out 8))
  go_ret
  exact ⟨by first | rfl | (simp [errW_none, errW_some] <;> rfl) | (simp [*, errW_none, errW_some] <;> rfl), by repeat (first | (with_reducible first | exact HB.out | apply b_a | apply b_n | apply b_d | refine b_s ?_ GE141.out) | exact HB.out)⟩
 rw [if_neg c12] at H
 have c12b0 : (a1 == 108) = false := beq_eq_false_iff_ne.mpr c12
 have c12b1 : (a1 != 108) = true := bne_iff_ne.mpr c12
 by_cases c15 : a1 = 115
 ·
  rw [if_pos c15] at H
  have c15b0 : (a1 == 115) = true := beq_iff_eq.mpr c15
  have c15b1 : (a1 != 115) = false := bne_eq_false_iff_eq.mpr c15
  clear c15
  obtain rfl := Option.some.inj H
  go_enter Try.func20, Try.ntmps20
  go_wp2_with (first | ((with_reducible refine gate_dst (N := 2) rfl ?_); refine box_event ?hg (N := 2) ?hd (cs := #[.int .i64 a0_0, .int .i64 a0_1, .int .i64 a0_2, .int .i64 a0_3, .int .i64 a0_4, .int .i64 a0_5, .int .i64 a0_6, .int .i64 a0_7, .slice A0_8 l0_8.length c0_8]) (t := 24) ?hr ?_; (case hd => rfl); (case hg => rfl); (case hr => first | (go_simp; done) | (go_simp; rfl)); intro gb141 hg w16 hbox hb; have BK141 := Aside0.mk (hbox); have GW141 := Aside0.mk ((by rw [hg]; exact (below_size (bw_ HB)) : w.heap.size ≤ gb141)); have GE141 := Aside0.mk ((by rw [hg]; exact (below_size (bw_ HB)) : w.heap.size ≤ gb141)); replace HB := Aside0.mk (below_step (bw_ HB) hb); clear hb hbox hg; have hcz17_0 := bc_0 BK141; have hcz17_1 := bc_1 BK141; have hcz17_2 := bc_2 BK141; have hcz17_3 := bc_3 BK141; have hcz17_4 := bc_4 BK141; have hcz17_5 := bc_5 BK141; have hcz17_6 := bc_6 BK141; have hcz17_7 := bc_7 BK141; have hcz17_8 : w16.cell? ⟨gb141, 8, none⟩ = some (.slice A0_8 l0_8.length c0_8) := (blk_cell BK141.out 8).trans rfl; have hfz17_0 := blk_frozen BK141.out 0; have hfz17_1 := blk_frozen BK141.out 1; have hfz17_2 := blk_frozen BK141.out 2; have hfz17_3 := blk_frozen BK141.out 3; have hfz17_4 := blk_frozen BK141.out 4; have hfz17_5 := blk_frozen BK141.out 5; have hfz17_6 := blk_frozen BK141.out 6; have hfz17_7 := blk_frozen BK141.out 7; have hfz17_8 := blk_frozen BK141.out 8))
  go_ret
  exact ⟨by first | rfl | (simp [errW_none, errW_some] <;> rfl) | (simp [*, errW_none, errW_some] <;> rfl), by repeat (first | (with_reducible first | exact HB.out | apply b_a | apply b_n | apply b_d | refine b_s ?_ GE141.out) | exact HB.out)⟩
 rw [if_neg c15] at H
 have c15b0 : (a1 == 115) = false := beq_eq_false_iff_ne.mpr c15
 have c15b1 : (a1 != 115) = true := bne_iff_ne.mpr c15
 by_cases c18 : a1 = 116
 rotate_left
 ·
  rw [if_neg c18] at H
  have c18b0 : (a1 == 116) = false := beq_eq_false_iff_ne.mpr c18
  have c18b1 : (a1 != 116) = true := bne_iff_ne.mpr c18
  obtain rfl := Option.some.inj H
  go_enter Try.func20, Try.ntmps20
  go_wp2_with (first | ((with_reducible refine gate_dst (N := 2) rfl ?_); refine box_event ?hg (N := 2) ?hd (cs := #[.int .i64 a0_0, .int .i64 a0_1, .int .i64 a0_2, .int .i64 a0_3, .int .i64 a0_4, .int .i64 a0_5, .int .i64 a0_6, .int .i64 a0_7, .slice A0_8 l0_8.length c0_8]) (t := 24) ?hr ?_; (case hd => rfl); (case hg => rfl); (case hr => first | (go_simp; done) | (go_simp; rfl)); intro gb141 hg w21 hbox hb; have BK141 := Aside0.mk (hbox); have GW141 := Aside0.mk ((by rw [hg]; exact (below_size (bw_ HB)) : w.heap.size ≤ gb141)); have GE141 := Aside0.mk ((by rw [hg]; exact (below_size (bw_ HB)) : w.heap.size ≤ gb141)); replace HB := Aside0.mk (below_step (bw_ HB) hb); clear hb hbox hg; have hcz22_0 := bc_0 BK141; have hcz22_1 := bc_1 BK141; have hcz22_2 := bc_2 BK141; have hcz22_3 := bc_3 BK141; have hcz22_4 := bc_4 BK141; have hcz22_5 := bc_5 BK141; have hcz22_6 := bc_6 BK141; have hcz22_7 := bc_7 BK141; have hcz22_8 : w21.cell? ⟨gb141, 8, none⟩ = some (.slice A0_8 l0_8.length c0_8) := (blk_cell BK141.out 8).trans rfl; have hfz22_0 := blk_frozen BK141.out 0; have hfz22_1 := blk_frozen BK141.out 1; have hfz22_2 := blk_frozen BK141.out 2; have hfz22_3 := blk_frozen BK141.out 3; have hfz22_4 := blk_frozen BK141.out 4; have hfz22_5 := blk_frozen BK141.out 5; have hfz22_6 := blk_frozen BK141.out 6; have hfz22_7 := blk_frozen BK141.out 7; have hfz22_8 := blk_frozen BK141.out 8))
  go_ret
  exact ⟨by first | rfl | (simp [errW_none, errW_some] <;> rfl) | (simp [*, errW_none, errW_some] <;> rfl), by repeat (first | (with_reducible first | exact HB.out | apply b_a | apply b_n | apply b_d | refine b_s ?_ GE141.out) | exact HB.out)⟩

 rw [if_pos c18] at H
 have c18b0 : (a1 == 116) = true := beq_iff_eq.mpr c18
 have c18b1 : (a1 != 116) = false := bne_eq_false_iff_eq.mpr c18
 clear c18
 obtain rfl := Option.some.inj H
 go_enter Try.func20, Try.ntmps20
 go_wp2_with (first | ((with_reducible refine gate_dst (N := 2) rfl ?_); refine box_event ?hg (N := 2) ?hd (cs := #[.int .i64 a0_0, .int .i64 a0_1, .int .i64 a0_2, .int .i64 a0_3, .int .i64 a0_4, .int .i64 a0_5, .int .i64 a0_6, .int .i64 a0_7, .slice A0_8 l0_8.length c0_8]) (t := 24) ?hr ?_; (case hd => rfl); (case hg => rfl); (case hr => first | (go_simp; done) | (go_simp; rfl)); intro gb141 hg w19 hbox hb; have BK141 := Aside0.mk (hbox); have GW141 := Aside0.mk ((by rw [hg]; exact (below_size (bw_ HB)) : w.heap.size ≤ gb141)); have GE141 := Aside0.mk ((by rw [hg]; exact (below_size (bw_ HB)) : w.heap.size ≤ gb141)); replace HB := Aside0.mk (below_step (bw_ HB) hb); clear hb hbox hg; have hcz20_0 := bc_0 BK141; have hcz20_1 := bc_1 BK141; have hcz20_2 := bc_2 BK141; have hcz20_3 := bc_3 BK141; have hcz20_4 := bc_4 BK141; have hcz20_5 := bc_5 BK141; have hcz20_6 := bc_6 BK141; have hcz20_7 := bc_7 BK141; have hcz20_8 : w19.cell? ⟨gb141, 8, none⟩ = some (.slice A0_8 l0_8.length c0_8) := (blk_cell BK141.out 8).trans rfl; have hfz20_0 := blk_frozen BK141.out 0; have hfz20_1 := blk_frozen BK141.out 1; have hfz20_2 := blk_frozen BK141.out 2; have hfz20_3 := blk_frozen BK141.out 3; have hfz20_4 := blk_frozen BK141.out 4; have hfz20_5 := blk_frozen BK141.out 5; have hfz20_6 := blk_frozen BK141.out 6; have hfz20_7 := blk_frozen BK141.out 7; have hfz20_8 := blk_frozen BK141.out 8))
 go_ret
 exact ⟨by first | rfl | (simp [errW_none, errW_some] <;> rfl) | (simp [*, errW_none, errW_some] <;> rfl), by repeat (first | (with_reducible first | exact HB.out | apply b_a | apply b_n | apply b_d | refine b_s ?_ GE141.out) | exact HB.out)⟩
end Go.Proofs.Ytnkphgiodpledaa.QMsgBack
