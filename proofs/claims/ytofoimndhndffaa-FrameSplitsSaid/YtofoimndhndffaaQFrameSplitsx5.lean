-- Written by a program of this session (a turned copy of the print) out of the translation. Lean checks it.
import Derived.Test.YtofoimndhndffaaQFrameSplitsx0
import Derived.Test.YtofoimndhndffaaQFrameSplitsx1
import Derived.Test.YtofoimndhndffaaQFrameSplitsx2
import Derived.Test.YtofoimndhndffaaQFrameSplitsx4
namespace Go.Proofs.Ytofoimndhndffaa.QFrameSplits
open Go.RowKit Go.Proofs.YtofoimndhndffaaW.PrintWords Go.Proofs.YtofoimndhndffaaW.PrintLast Go.Proofs.YtofoimndhndffaaW.PrintMore
attribute [local go_sem] max2_int min2_int max_two min_two max_three min_three max_four min_four   -- for this text's walks alone
open Go.Proofs.YtofoimndhndffaaW.PrintWords renaming below_alloc → b_a, pw_below_drewN → b_n, below_drew1 → b_d, below_set → b_s, blk_drewN → k_n, blk_drew → k_d, blk_alloc → k_a
open List renaming setIfInBounds_toArray → l_1, set_cons_zero → l_2, set_cons_succ → l_3, map_toArray → l_4, map_cons → l_5, map_nil → l_6, length_drop → l_7, length_take → l_8
set_option linter.unusedVariables false
set_option linter.unusedSimpArgs false

/-! ### pelotonref14_Split: function 14 -/
def pelotonref14_Split.l0 : Nat → List Int → List Int → Int → Option (List Int)
 | 0, _, _, _ => none
 | k + 1, x0, x3, x4 => if 0 ≤ x4 then (if x4 ≤ (x0.length : Int) then ((pelotonref14_Size.f k (x0.drop (x4 : Int).toNat)).bind fun bt191 => (if bt191.2 = 0 then (if bt191.1 > (wrap64 ((x0.length : Int) - x4)) then (some x3) else (if x4 ≤ (wrap64 (x4 + bt191.1)) then (if (wrap64 (x4 + bt191.1)) ≤ (x0.length : Int) then ((pelotonref14_Fault.f k ((x0.take ((wrap64 (x4 + bt191.1)) : Int).toNat).drop (x4 : Int).toNat)).bind fun t194 => (if t194 = 0 then (if x3.length < 17592186044416 then (pelotonref14_Split.l0 k x0 (x3 ++ [wrap64 (x4 + bt191.1)]) (wrap64 (x4 + bt191.1))) else (none)) else (some x3))) else (none)) else (none))) else (some x3))) else (none)) else (none)
def pelotonref14_Split.f (k : Nat) (l0 : List Int) : Option (List Int) := pelotonref14_Split.l0 k l0 ([] : List Int) 0
theorem pelotonref14_Split.mono_l : ∀ k, (∀ y0 y1 y2, LeO (pelotonref14_Split.l0 k y0 y1 y2) (pelotonref14_Split.l0 (k + 1) y0 y1 y2))
 | 0 => fun _ _ _ r h => by simp [pelotonref14_Split.l0] at h
 | k + 1 => by
  have ih0 := pelotonref14_Split.mono_l k
  ·
   intro y0 y1 y2
   unfold pelotonref14_Split.l0
   repeat' first
   | (with_reducible exact ih0 _ _ _)
   | (with_reducible exact pelotonref14_Fault.mono _ _)
   | (with_reducible exact pelotonref14_Size.mono _ _)
   | (with_reducible exact LeO.refl _)
   | (with_reducible exact LeO.none _)
   | (with_reducible refine LeO.ite ?_ ?_)
   | (with_reducible refine LeO.bind ?_ (fun _ => ?_))
   | exact ih0 _ _ _
   | exact pelotonref14_Fault.mono _ _
   | exact pelotonref14_Size.mono _ _
   | exact LeO.none _
   | refine LeO.ite ?_ ?_
   | refine LeO.bind ?_ (fun _ => ?_)
theorem pelotonref14_Split.mono : ∀ a0 k, LeO (pelotonref14_Split.f k a0) (pelotonref14_Split.f (k + 1) a0) := by
 intro a0 k
 have ih0 := pelotonref14_Split.mono_l k
 unfold pelotonref14_Split.f
 repeat' first
   | (with_reducible exact ih0 _ _ _)
   | (with_reducible exact pelotonref14_Fault.mono _ _)
   | (with_reducible exact pelotonref14_Size.mono _ _)
   | (with_reducible exact LeO.refl _)
   | (with_reducible exact LeO.none _)
   | (with_reducible refine LeO.ite ?_ ?_)
   | (with_reducible refine LeO.bind ?_ (fun _ => ?_))
   | exact ih0 _ _ _
   | exact pelotonref14_Fault.mono _ _
   | exact pelotonref14_Size.mono _ _
   | exact LeO.none _
   | refine LeO.ite ?_ ?_
   | refine LeO.bind ?_ (fun _ => ?_)
set_option maxHeartbeats 60000000 in
set_option maxRecDepth 100000 in
theorem pelotonref14_Split.calls (k : Nat) (A0 : Option Addr) (c0 : Nat) (l0 : List Int) (r : List Int) (w : World) (hr0 : Kd.C (Kd.int .u8) w A0 l0.length l0) (hc0 : l0.length ≤ c0) (h : pelotonref14_Split.f k l0 = some r) :
  Calls Try.prog 14 #[.slice A0 l0.length c0] w fun e w' => ∃ v0_ : Value, e = .returned (v0_) ∧ Kd.R (Kd.int .i64) 3 w' w.heap.size (fun _ => True) v0_ r ∧ Below w.heap.size w w' := by
 have HR0 := Aside0.mk hr0
 have HC0 := Aside0.mk hc0
 clear hr0 hc0
 have HB := Aside0.mk (Below.refl w.heap.size w)
 have H : (pelotonref14_Split.l0 k l0 ([] : List Int) 0) = some r := h
 clear h
 have H' := Aside0.mk H
 clear H
 go_enter Try.func14, Try.ntmps14
 go_wp2
 go_loopg [3, 4] k (fun kq v3 v4 w' => ∃ (x3_1 : List Int) (x4_1 : Int), v4 = .int .i64 x4_1 ∧ Aside0 (pelotonref14_Split.l0 kq l0 x3_1 x4_1 = some r) ∧ Aside0 (kq ≤ k) ∧ Aside0 (Kd.R (Kd.int .i64) 3 w' w.heap.size (fun _ => True) v3 x3_1) ∧ Aside0 (Below w.heap.size w w'))
 case atStart => exact ⟨(([] : List Int)), (0), (by first | rfl | (simp; done) | (simp [*]; done)), H', ⟨Nat.le_refl _⟩, ⟨by first | exact Kd.R_nil _ _ _ _ _ | exact Kd.N_nil _ _ _ _ _ | exact Kd.V_nil _ _ _ _ _ | exact Kd.Q_nil _ _ _ _ _ | exact Kd.S_nil _ _ _ _ _⟩, ⟨by repeat (first | (with_reducible first | exact HB.out | apply b_a | apply b_n | apply b_d) | exact HB.out)⟩⟩
 case round =>
  clear H'
  try clear c1
  obtain ⟨x3_1, x4_1, rfl, HA, HK1, HO_3, HB⟩ := hrel
  cases gk with
  | zero => exact absurd HA.out (by simp [pelotonref14_Split.l0])
  | succ k1 =>
   have H := HA.out
   clear HA
   simp only [pelotonref14_Split.l0] at H
   by_cases c2 : 0 ≤ x4_1
   rotate_left
   ·
    rw [if_neg c2] at H
    exact absurd H (by simp)

   rw [if_pos c2] at H
   have c2b0 := eq_true c2
   have c2b1 : decide (0 ≤ x4_1) = true := decide_eq_true c2
   clear c2
   by_cases c3 : x4_1 ≤ (l0.length : Int)
   rotate_left
   ·
    rw [if_neg c3] at H
    exact absurd H (by simp)
   rw [if_pos c3] at H
   have c3b0 := eq_true c3
   have c3b1 : decide (x4_1 ≤ (l0.length : Int)) = true := decide_eq_true c3
   clear c3
   replace H := Option.bind_eq_some_iff.mp H
   obtain ⟨⟨t191, t192⟩, A40, H⟩ := H
   replace H : (if t192 = 0 then (if t191 > (wrap64 ((l0.length : Int) - x4_1)) then (some x3_1) else (if x4_1 ≤ (wrap64 (x4_1 + t191)) then (if (wrap64 (x4_1 + t191)) ≤ (l0.length : Int) then ((pelotonref14_Fault.f k1 ((l0.take ((wrap64 (x4_1 + t191)) : Int).toNat).drop (x4_1 : Int).toNat)).bind fun t194 => (if t194 = 0 then (if x3_1.length < 17592186044416 then (pelotonref14_Split.l0 k1 l0 (x3_1 ++ [wrap64 (x4_1 + t191)]) (wrap64 (x4_1 + t191))) else (none)) else (some x3_1))) else (none)) else (none))) else (some x3_1)) = some r := H
   have A4 := Aside0.mk A40
   clear A40
   by_cases c5 : t192 = 0
   rotate_left
   ·
    rw [if_neg c5] at H
    have c5b0 : (t192 == 0) = false := beq_eq_false_iff_ne.mpr c5
    have c5b1 : (t192 != 0) = true := bne_iff_ne.mpr c5
    obtain rfl := Option.some.inj H
    obtain ⟨i021, hi021, _, hsz21, _⟩ := info_parts info5
    obtain ⟨A21, hcut21, hA21, hC21⟩ := print_drop_of (P := Try.prog) (Value.int .u8) 0 22 5 .i64 Try.underlying22 hi021 hsz21 A0 c0 l0 x4_1 (of_decide_eq_true (by first | (with_reducible assumption) | assumption)) (of_decide_eq_true (by first | (with_reducible assumption) | assumption)) HC0.out
    have HR190 := Aside0.mk (Kd.C_of_reads (h1 := fun _ => rfl) (hA21 _ (Kd.reads_of_C HR0.out)))
    have HC190 := Aside0.mk hC21
    clear hA21 hC21 hi021 hsz21
    go_wp2_with (first | ((with_reducible refine gate_callee (f := 23) rfl ?_); refine goesL_ (some 11) rfl rfl Try.func23 (by kernel_rfl) rfl #[.slice A21 (l0.drop (x4_1 : Int).toNat).length (c0 - x4_1.toNat)] rfl (by (try simp only [l_4, l_5, l_6]); first | done | (rw [show (l0.drop (x4_1 : Int).toNat).length = (l0.length - x4_1.toNat) from l_7] <;> rfl) | rfl | (simp only [l_7, l_8]; rfl)) ?_; (with_reducible refine (pelotonref14_Size.calls k1 _ _ (l0.drop (x4_1 : Int).toNat) t191 t192 _ ?side1 ?side2 A4.out).mono ?_); (case side1 => repeat (first | exact (Kd.C_below HR190.out HB.out) | (with_reducible refine Kd.C_alloc ?_ _) | (with_reducible refine Kd.C_drewN ?_ _) | (with_reducible refine Kd.C_drew ?_))); (case side2 => exact HC190.out); rintro e w' ⟨rfl, ⟨nd, rfl⟩⟩; refine ⟨_, rfl, ?_⟩))
    go_ret
    exact ⟨_, by first | rfl | (simp [errW_none, errW_some] <;> rfl) | (simp [*, errW_none, errW_some] <;> rfl), by (with_reducible repeat (first | apply Kd.R_alloc | apply Kd.R_drewN | apply Kd.R_drew)); exact HO_3.out, by repeat (first | (with_reducible first | exact HB.out | apply b_a | apply b_n | apply b_d) | exact HB.out)⟩
   rw [if_pos c5] at H
   have c5b0 : (t192 == 0) = true := beq_iff_eq.mpr c5
   have c5b1 : (t192 != 0) = false := bne_eq_false_iff_eq.mpr c5
   clear c5
   by_cases c6 : t191 > (wrap64 ((l0.length : Int) - x4_1))
   ·
    rw [if_pos c6] at H
    have c6b0 : decide ((wrap64 ((l0.length : Int) - x4_1)) < t191) = true := decide_eq_true c6
    clear c6
    obtain rfl := Option.some.inj H
    obtain ⟨i07, hi07, _, hsz7, _⟩ := info_parts info5
    obtain ⟨A7, hcut7, hA7, hC7⟩ := print_drop_of (P := Try.prog) (Value.int .u8) 0 22 5 .i64 Try.underlying22 hi07 hsz7 A0 c0 l0 x4_1 (of_decide_eq_true (by first | (with_reducible assumption) | assumption)) (of_decide_eq_true (by first | (with_reducible assumption) | assumption)) HC0.out
    have HR190 := Aside0.mk (Kd.C_of_reads (h1 := fun _ => rfl) (hA7 _ (Kd.reads_of_C HR0.out)))
    have HC190 := Aside0.mk hC7
    clear hA7 hC7 hi07 hsz7
    go_wp2_with (first | ((with_reducible refine gate_callee (f := 23) rfl ?_); refine goesL_ (some 11) rfl rfl Try.func23 (by kernel_rfl) rfl #[.slice A7 (l0.drop (x4_1 : Int).toNat).length (c0 - x4_1.toNat)] rfl (by (try simp only [l_4, l_5, l_6]); first | done | (rw [show (l0.drop (x4_1 : Int).toNat).length = (l0.length - x4_1.toNat) from l_7] <;> rfl) | rfl | (simp only [l_7, l_8]; rfl)) ?_; (with_reducible refine (pelotonref14_Size.calls k1 _ _ (l0.drop (x4_1 : Int).toNat) t191 t192 _ ?side1 ?side2 A4.out).mono ?_); (case side1 => repeat (first | exact (Kd.C_below HR190.out HB.out) | (with_reducible refine Kd.C_alloc ?_ _) | (with_reducible refine Kd.C_drewN ?_ _) | (with_reducible refine Kd.C_drew ?_))); (case side2 => exact HC190.out); rintro e w' ⟨rfl, ⟨nd, rfl⟩⟩; refine ⟨_, rfl, ?_⟩))
    go_ret
    exact ⟨_, by first | rfl | (simp [errW_none, errW_some] <;> rfl) | (simp [*, errW_none, errW_some] <;> rfl), by (with_reducible repeat (first | apply Kd.R_alloc | apply Kd.R_drewN | apply Kd.R_drew)); exact HO_3.out, by repeat (first | (with_reducible first | exact HB.out | apply b_a | apply b_n | apply b_d) | exact HB.out)⟩
   rw [if_neg c6] at H
   have c6b0 : decide ((wrap64 ((l0.length : Int) - x4_1)) < t191) = false := decide_eq_false c6
   clear c6
   have c8b0 := eq_true (of_decide_eq_true (by first | (with_reducible assumption) | assumption) : 0 ≤ x4_1)
   by_cases c9 : x4_1 ≤ (wrap64 (x4_1 + t191))
   rotate_left
   ·
    rw [if_neg c9] at H
    exact absurd H (by simp)
   rw [if_pos c9] at H
   have c9b0 := eq_true c9
   have c9b1 : decide (x4_1 ≤ (wrap64 (x4_1 + t191))) = true := decide_eq_true c9
   by_cases c10 : (wrap64 (x4_1 + t191)) ≤ (l0.length : Int)
   rotate_left
   ·
    rw [if_neg c10] at H
    exact absurd H (by simp)
   rw [if_pos c10] at H
   have c10b0 := eq_true c10
   have c10b1 : decide ((wrap64 (x4_1 + t191)) ≤ (l0.length : Int)) = true := decide_eq_true c10
   replace H := Option.bind_eq_some_iff.mp H
   obtain ⟨t194, A110, H⟩ := H
   replace H : (if t194 = 0 then (if x3_1.length < 17592186044416 then (pelotonref14_Split.l0 k1 l0 (x3_1 ++ [wrap64 (x4_1 + t191)]) (wrap64 (x4_1 + t191))) else (none)) else (some x3_1)) = some r := H
   have A11 := Aside0.mk A110
   clear A110
   by_cases c12 : t194 = 0
   rotate_left
   ·
    rw [if_neg c12] at H
    have c12b0 : (t194 == 0) = false := beq_eq_false_iff_ne.mpr c12
    have c12b1 : (t194 != 0) = true := bne_iff_ne.mpr c12
    obtain rfl := Option.some.inj H
    obtain ⟨i018, hi018, _, hsz18, _⟩ := info_parts info5
    obtain ⟨A18, hcut18, hA18, hC18⟩ := print_drop_of (P := Try.prog) (Value.int .u8) 0 22 5 .i64 Try.underlying22 hi018 hsz18 A0 c0 l0 x4_1 (of_decide_eq_true (by first | (with_reducible assumption) | assumption)) (of_decide_eq_true (by first | (with_reducible assumption) | assumption)) HC0.out
    have HR190 := Aside0.mk (Kd.C_of_reads (h1 := fun _ => rfl) (hA18 _ (Kd.reads_of_C HR0.out)))
    have HC190 := Aside0.mk hC18
    clear hA18 hC18 hi018 hsz18
    go_wp2_with (first | ((with_reducible refine gate_callee (f := 23) rfl ?_); refine goesL_ (some 11) rfl rfl Try.func23 (by kernel_rfl) rfl #[.slice A18 (l0.drop (x4_1 : Int).toNat).length (c0 - x4_1.toNat)] rfl (by (try simp only [l_4, l_5, l_6]); first | done | (rw [show (l0.drop (x4_1 : Int).toNat).length = (l0.length - x4_1.toNat) from l_7] <;> rfl) | rfl | (simp only [l_7, l_8]; rfl)) ?_; (with_reducible refine (pelotonref14_Size.calls k1 _ _ (l0.drop (x4_1 : Int).toNat) t191 t192 _ ?side1 ?side2 A4.out).mono ?_); (case side1 => repeat (first | exact (Kd.C_below HR190.out HB.out) | (with_reducible refine Kd.C_alloc ?_ _) | (with_reducible refine Kd.C_drewN ?_ _) | (with_reducible refine Kd.C_drew ?_))); (case side2 => exact HC190.out); rintro e w' ⟨rfl, ⟨nd, rfl⟩⟩; refine ⟨_, rfl, ?_⟩; obtain ⟨i019, hi019, _, hsz19, _⟩ := info_parts info5; obtain ⟨A19, hcut19, hA19, hC19⟩ := print_mid_of (P := Try.prog) (Value.int .u8) 0 22 5 .i64 .i64 Try.underlying22 hi019 hsz19 A0 c0 l0 x4_1 (wrap64 (x4_1 + t191)) (of_decide_eq_true (by first | (with_reducible assumption) | assumption)) (by first | omega | exact of_decide_eq_true (by first | (with_reducible assumption) | assumption)) (of_decide_eq_true (by first | (with_reducible assumption) | assumption)) HC0.out; have HR193 := Aside0.mk (Kd.C_of_reads (h1 := fun _ => rfl) (hA19 _ (Kd.reads_of_C HR0.out))); have HC193 := Aside0.mk hC19; clear hA19 hC19 hi019 hsz19) | (go_at_call 12; refine calls_of_args (mid_args (l := l0) (x := (wrap64 (x4_1 + t191))) (y := x4_1) (of_decide_eq_true (by first | (with_reducible assumption) | assumption))) ?_; (with_reducible refine (pelotonref14_Fault.calls k1 _ _ ((l0.take ((wrap64 (x4_1 + t191)) : Int).toNat).drop (x4_1 : Int).toNat) t194 _ ?side1 ?side2 A11.out).mono ?_); (case side1 => repeat (first | exact (Kd.C_below HR193.out (bw_ HB)) | (with_reducible refine Kd.C_alloc ?_ _) | (with_reducible refine Kd.C_drewN ?_ _) | (with_reducible refine Kd.C_drew ?_))); (case side2 => exact HC193.out); rintro e w20 ⟨rfl, hb⟩; (try clear A11); replace HO_3 := Aside0.mk (Kd.R_below (tR_ HO_3) hb); replace HB := Aside0.mk (below_step (bw_ HB) hb); (try clear hb); (try clear hb2); (try clear hk); (try clear hi)))
    go_ret
    exact ⟨_, by first | rfl | (simp [errW_none, errW_some] <;> rfl) | (simp [*, errW_none, errW_some] <;> rfl), by (with_reducible repeat (first | apply Kd.R_alloc | apply Kd.R_drewN | apply Kd.R_drew)); exact HO_3.out, by repeat (first | (with_reducible first | exact HB.out | apply b_a | apply b_n | apply b_d) | exact HB.out)⟩
   rw [if_pos c12] at H
   have c12b0 : (t194 == 0) = true := beq_iff_eq.mpr c12
   have c12b1 : (t194 != 0) = false := bne_eq_false_iff_eq.mpr c12
   clear c12
   by_cases c13 : x3_1.length < 17592186044416
   rotate_left
   ·
    rw [if_neg c13] at H
    exact absurd H (by simp)
   rw [if_pos c13] at H
   have LMc13 := Aside0.mk c13
   clear c13
   obtain ⟨y195, hy195⟩ : ∃ y_ : List Int, y_ = (x3_1 ++ [wrap64 (x4_1 + t191)]) := ⟨_, rfl⟩
   replace H : (pelotonref14_Split.l0 k1 l0 y195 (wrap64 (x4_1 + t191))) = some r := by first | (rw [hy195]; with_reducible exact H) | (have H2_ := (Option.bind_some _ _).symm.trans H; rw [hy195]; with_reducible exact H2_) | (have H2_ := (Option.bind_some _ _).symm.trans H; with_reducible exact H2_) | with_reducible exact H | (rw [hy195]; exact H) | exact H
   have Ny195 := Aside0.mk hy195
   clear hy195
   have H' := Aside0.mk H
   clear H
   obtain ⟨i014, hi014, _, hsz14, _⟩ := info_parts info5
   obtain ⟨A14, hcut14, hA14, hC14⟩ := print_drop_of (P := Try.prog) (Value.int .u8) 0 22 5 .i64 Try.underlying22 hi014 hsz14 A0 c0 l0 x4_1 (of_decide_eq_true (by first | (with_reducible assumption) | assumption)) (of_decide_eq_true (by first | (with_reducible assumption) | assumption)) HC0.out
   have HR190 := Aside0.mk (Kd.C_of_reads (h1 := fun _ => rfl) (hA14 _ (Kd.reads_of_C HR0.out)))
   have HC190 := Aside0.mk hC14
   clear hA14 hC14 hi014 hsz14
   go_wp2_with (first | ((with_reducible refine gate_callee (f := 23) rfl ?_); refine goesL_ (some 11) rfl rfl Try.func23 (by kernel_rfl) rfl #[.slice A14 (l0.drop (x4_1 : Int).toNat).length (c0 - x4_1.toNat)] rfl (by (try simp only [l_4, l_5, l_6]); first | done | (rw [show (l0.drop (x4_1 : Int).toNat).length = (l0.length - x4_1.toNat) from l_7] <;> rfl) | rfl | (simp only [l_7, l_8]; rfl)) ?_; (with_reducible refine (pelotonref14_Size.calls k1 _ _ (l0.drop (x4_1 : Int).toNat) t191 t192 _ ?side1 ?side2 A4.out).mono ?_); (case side1 => repeat (first | exact (Kd.C_below HR190.out HB.out) | (with_reducible refine Kd.C_alloc ?_ _) | (with_reducible refine Kd.C_drewN ?_ _) | (with_reducible refine Kd.C_drew ?_))); (case side2 => exact HC190.out); rintro e w' ⟨rfl, ⟨nd, rfl⟩⟩; refine ⟨_, rfl, ?_⟩; obtain ⟨i015, hi015, _, hsz15, _⟩ := info_parts info5; obtain ⟨A15, hcut15, hA15, hC15⟩ := print_mid_of (P := Try.prog) (Value.int .u8) 0 22 5 .i64 .i64 Try.underlying22 hi015 hsz15 A0 c0 l0 x4_1 (wrap64 (x4_1 + t191)) (of_decide_eq_true (by first | (with_reducible assumption) | assumption)) (by first | omega | exact of_decide_eq_true (by first | (with_reducible assumption) | assumption)) (of_decide_eq_true (by first | (with_reducible assumption) | assumption)) HC0.out; have HR193 := Aside0.mk (Kd.C_of_reads (h1 := fun _ => rfl) (hA15 _ (Kd.reads_of_C HR0.out))); have HC193 := Aside0.mk hC15; clear hA15 hC15 hi015 hsz15) | (go_at_call 12; refine calls_of_args (mid_args (l := l0) (x := (wrap64 (x4_1 + t191))) (y := x4_1) (of_decide_eq_true (by first | (with_reducible assumption) | assumption))) ?_; (with_reducible refine (pelotonref14_Fault.calls k1 _ _ ((l0.take ((wrap64 (x4_1 + t191)) : Int).toNat).drop (x4_1 : Int).toNat) t194 _ ?side1 ?side2 A11.out).mono ?_); (case side1 => repeat (first | exact (Kd.C_below HR193.out (bw_ HB)) | (with_reducible refine Kd.C_alloc ?_ _) | (with_reducible refine Kd.C_drewN ?_ _) | (with_reducible refine Kd.C_drew ?_))); (case side2 => exact HC193.out); rintro e w16 ⟨rfl, hb⟩; (try clear A11); replace HO_3 := Aside0.mk (Kd.R_below (tR_ HO_3) hb); replace HB := Aside0.mk (below_step (bw_ HB) hb); (try clear hb); (try clear hb2); (try clear hk); (try clear hi)) | ((with_reducible refine gate_builtin (b := .append) (xs := #[.tmp 38, .tmp 40]) rfl ?_); (try (refine gate_guard (by rfl) ?_; dsimp only)); at_builtin; refine Kd.R_append (Kd.int .i64) (w0 := w) w.heap.size rfl (.tmp 38) (.tmp 40) 38 3 (.int .i64 0) 8 rfl Try.underlying38 info3 rfl (by decide) (by omega) u3 x3_1 (wrap64 (x4_1 + t191)) [.int .i64 (wrap64 (x4_1 + t191))] (fun _ => True) (fun _ => False) rfl rfl ?aP (fun _ hk => hk.elim) ?aF ?aO ?aB ?aS ?aL ?_; (case aP => exact rfl); (case aB => exact (bw_ HB)); (case aF => exact (fun _ _ => trivial)); (case aO => exact (tR_ HO_3)); (case aS => exact (below_size (bw_ HB))); (case aL => have := LMc13.out; omega); intro v196 w17 ho hb hg hat; rw [← Ny195.out] at ho; have n0_ := Aside0.mk (hb); have n1_ := Aside0.mk (ho); clear HB; clear HO_3; have HB := n0_; have HO197 := n1_; clear n0_ n1_; clear ho hb hg hat))
   go_roundg k1
   case measure => have := HK1.out; omega
   case rel => exact ⟨(y195), (wrap64 (x4_1 + t191)), (by first | rfl | (simp; done) | (simp [*]; done)), H', ⟨by have := HK1.out; omega⟩, ⟨tR_ HO197⟩, ⟨by repeat (first | (with_reducible first | exact HB.out | apply b_a | apply b_n | apply b_d) | exact HB.out)⟩⟩
/-! ### frame_Split: function 15 -/
mutual
def frame_Split.l0 : Nat → List Int → List (List Int) → Option ((List (List Int)) × List Int)
 | 0, _, _ => none
 | k + 1, x0, x4 => (frame_size.f k x0).bind fun bt198 => (if bt198.2 = 0 then (frame_Split.j1 k x0 x4 bt198.1 (decide (bt198.1 > (x0.length : Int)))) else (frame_Split.j1 k x0 x4 bt198.1 true))
def frame_Split.j1 : Nat → List Int → List (List Int) → Int → Bool → Option ((List (List Int)) × List Int)
 | 0, _, _, _, _ => none
 | k + 1, x0, x4, x5, x19 => if x19 = true then ((bytes_Clone.f x0).bind fun t200 => (some (x4, t200))) else (if 0 ≤ x5 then (if x5 ≤ (x0.length : Int) then ((frame_Parse.f k (x0.take (x5 : Int).toNat)).bind fun bt208 => (if bt208.2.2 = 0 then ((bytes_Clone.f (x0.take (x5 : Int).toNat)).bind fun t218 => (if x4.length < 5864062014805 then (frame_Split.l0 k (x0.drop (x5 : Int).toNat) (x4 ++ [t218])) else (none))) else ((bytes_Clone.f x0).bind fun t229 => (some (x4, t229))))) else (none)) else (none))
end
def frame_Split.f (k : Nat) (l0 : List Int) : Option ((List (List Int)) × List Int) := frame_Split.l0 k l0 ([] : List (List Int))
theorem frame_Split.mono_l : ∀ k, (∀ y0 y1, LeO (frame_Split.l0 k y0 y1) (frame_Split.l0 (k + 1) y0 y1)) ∧ (∀ y0 y1 y2 y3, LeO (frame_Split.j1 k y0 y1 y2 y3) (frame_Split.j1 (k + 1) y0 y1 y2 y3))
 | 0 => ⟨fun _ _ r h => by simp [frame_Split.l0] at h, fun _ _ _ _ r h => by simp [frame_Split.j1] at h⟩
 | k + 1 => by
  obtain ⟨ih0, ih1⟩ := frame_Split.mono_l k
  refine ⟨?_, ?_⟩
  ·
   intro y0 y1
   unfold frame_Split.l0
   repeat' first
   | (with_reducible exact ih0 _ _)
   | (with_reducible exact ih1 _ _ _ _)
   | (with_reducible exact frame_Parse.mono _ _)
   | (with_reducible exact frame_size.mono _ _)
   | (with_reducible exact LeO.refl _)
   | (with_reducible exact LeO.none _)
   | (with_reducible refine LeO.ite ?_ ?_)
   | (with_reducible refine LeO.bind ?_ (fun _ => ?_))
   | exact ih0 _ _
   | exact ih1 _ _ _ _
   | exact frame_Parse.mono _ _
   | exact frame_size.mono _ _
   | exact LeO.none _
   | refine LeO.ite ?_ ?_
   | refine LeO.bind ?_ (fun _ => ?_)
  ·
   intro y0 y1 y2 y3
   unfold frame_Split.j1
   repeat' first
   | (with_reducible exact ih0 _ _)
   | (with_reducible exact ih1 _ _ _ _)
   | (with_reducible exact frame_Parse.mono _ _)
   | (with_reducible exact frame_size.mono _ _)
   | (with_reducible exact LeO.refl _)
   | (with_reducible exact LeO.none _)
   | (with_reducible refine LeO.ite ?_ ?_)
   | (with_reducible refine LeO.bind ?_ (fun _ => ?_))
   | exact ih0 _ _
   | exact ih1 _ _ _ _
   | exact frame_Parse.mono _ _
   | exact frame_size.mono _ _
   | exact LeO.none _
   | refine LeO.ite ?_ ?_
   | refine LeO.bind ?_ (fun _ => ?_)
theorem frame_Split.mono : ∀ a0 k, LeO (frame_Split.f k a0) (frame_Split.f (k + 1) a0) := by
 intro a0 k
 obtain ⟨ih0, ih1⟩ := frame_Split.mono_l k
 unfold frame_Split.f
 repeat' first
   | (with_reducible exact ih0 _ _)
   | (with_reducible exact ih1 _ _ _ _)
   | (with_reducible exact frame_Parse.mono _ _)
   | (with_reducible exact frame_size.mono _ _)
   | (with_reducible exact LeO.refl _)
   | (with_reducible exact LeO.none _)
   | (with_reducible refine LeO.ite ?_ ?_)
   | (with_reducible refine LeO.bind ?_ (fun _ => ?_))
   | exact ih0 _ _
   | exact ih1 _ _ _ _
   | exact frame_Parse.mono _ _
   | exact frame_size.mono _ _
   | exact LeO.none _
   | refine LeO.ite ?_ ?_
   | refine LeO.bind ?_ (fun _ => ?_)
set_option maxHeartbeats 60000000 in
set_option maxRecDepth 100000 in
theorem frame_Split.calls (k : Nat) (P0_ : Nat → Prop) (A0 : Option Addr) (c0 : Nat) (l0 : List Int) (r1 : List (List Int)) (r2 : List Int) (w : World) (hs0 : Kd.V (Kd.int .u8) 5 w w.heap.size (fun k_ => P0_ k_) (.slice A0 l0.length c0) l0) (h : frame_Split.f k l0 = some (r1, r2)) :
  Calls Try.prog 15 #[.slice A0 l0.length c0] w fun e w' => ∃ v0_ v1_ : Value, e = .returned (.tuple #[v0_, v1_]) ∧ Kd.S (Kd.slice 5 (Kd.int .u8)) 22 w' w.heap.size (fun k_ => (w.heap.size ≤ k_) ∧ some k_ ≠ (v1_ : Value).ownBlock) v0_ r1 ∧ Kd.R (Kd.int .u8) 5 w' w.heap.size (fun k_ => (w.heap.size ≤ k_)) v1_ r2 ∧ Below w.heap.size w w' := by
 have HO0 := Aside0.mk (show Kd.V (Kd.int .u8) 5 w w.heap.size (fun k_ => (P0_ k_ ∨ w.heap.size ≤ k_)) (.slice A0 l0.length c0) l0 from Kd.V_mono hs0 (fun k_ hk => .inl hk))
 have HB := Aside0.mk (Below.refl w.heap.size w)
 have H : (frame_Split.l0 k l0 ([] : List (List Int))) = some (r1, r2) := h
 clear h
 have H' := Aside0.mk H
 clear H
 go_enter Try.func15, Try.ntmps15
 go_wp2
 go_loopg [0, 4] k (fun kq v0 v4 w' => ∃ (x0_1 : List Int) (x4_1 : List (List Int)), Aside0 (frame_Split.l0 kq x0_1 x4_1 = some (r1, r2)) ∧ Aside0 (kq ≤ k) ∧ Aside0 (Kd.V (Kd.int .u8) 5 w' w.heap.size (fun k_ => (P0_ k_ ∨ w.heap.size ≤ k_) ∧ some k_ ≠ (v4 : Value).ownBlock) v0 x0_1) ∧ Aside0 (Kd.S (Kd.slice 5 (Kd.int .u8)) 22 w' w.heap.size (fun k_ => (w.heap.size ≤ k_)) v4 x4_1) ∧ Aside0 (Below w.heap.size w w'))
 case atStart => exact ⟨(l0), (([] : List (List Int))), H', ⟨Nat.le_refl _⟩, ⟨by (with_reducible repeat (first | apply Kd.V_alloc | apply Kd.V_drewN | apply Kd.V_drew)); exact Kd.V_mono HO0.out (fun _ hk => ⟨hk, (by simp [Value.ownBlock])⟩)⟩, ⟨by first | exact Kd.S_nil _ _ _ _ _ | exact Kd.N_nil _ _ _ _ _ | exact Kd.V_nil _ _ _ _ _ | exact Kd.Q_nil _ _ _ _ _ | exact Kd.R_nil _ _ _ _ _⟩, ⟨by repeat (first | (with_reducible first | exact HB.out | apply b_a | apply b_n | apply b_d) | exact HB.out)⟩⟩
 case round =>
  clear H'
  try clear c1
  obtain ⟨x0_1, x4_1, HA, HK1, HO_0, HO_4, HB⟩ := hrel
  cases gk with
  | zero => exact absurd HA.out (by simp [frame_Split.l0])
  | succ k1 =>
   have H := HA.out
   clear HA
   simp only [frame_Split.l0] at H
   replace H := Option.bind_eq_some_iff.mp H
   obtain ⟨⟨t198, t199⟩, A20, H⟩ := H
   replace H : (if t199 = 0 then (frame_Split.j1 k1 x0_1 x4_1 t198 (decide (t198 > (x0_1.length : Int)))) else (frame_Split.j1 k1 x0_1 x4_1 t198 true)) = some (r1, r2) := H
   have A2 := Aside0.mk A20
   clear A20
   have HC3 := Aside0.mk H
   clear H
   obtain ⟨Ao4, co4, eo4⟩ := Kd.V_slice HO_0.out
   subst eo4
   go_upto_region 3 with (first | ((with_reducible refine gate_callee (f := 20) rfl ?_); refine goesL_ (some 9) rfl rfl Try.func20 (by kernel_rfl) rfl #[.slice Ao4 x0_1.length co4] rfl (by (try simp only [l_4, l_5, l_6]); first | done | rfl | (simp only [l_7, l_8]; rfl)) ?_; (with_reducible refine (frame_size.calls k1 _ _ x0_1 t198 t199 _ ?side1 ?side2 A2.out).mono ?_); (case side1 => repeat (first | exact (Kd.V_reads' HO_0.out).2.2 | (with_reducible refine Kd.C_alloc ?_ _) | (with_reducible refine Kd.C_drewN ?_ _) | (with_reducible refine Kd.C_drew ?_))); (case side2 => exact (Kd.V_reads' HO_0.out).2.1); rintro e w' ⟨rfl, ⟨nd, rfl⟩⟩; refine ⟨_, rfl, ?_⟩))
   (try simp only [Act.put, l_1, l_2, l_3])
   go_cut [19] (fun v19 wc => ∃ (kq : Nat) (x19_2 : Bool), v19 = .bool x19_2 ∧ Aside0 (frame_Split.j1 kq x0_1 x4_1 t198 x19_2 = some (r1, r2)) ∧ Aside0 (kq ≤ k1) ∧ Aside0 (Kd.V (Kd.int .u8) 5 wc w.heap.size (fun k_ => (P0_ k_ ∨ w.heap.size ≤ k_) ∧ some k_ ≠ (u4 : Value).ownBlock) (.slice Ao4 x0_1.length co4) x0_1) ∧ Aside0 (Kd.S (Kd.slice 5 (Kd.int .u8)) 22 wc w.heap.size (fun k_ => (w.heap.size ≤ k_)) u4 x4_1) ∧ Aside0 (Below w.heap.size w wc))
   case first =>
    have H := HC3.out
    clear HC3
    by_cases c5 : t199 = 0
    rotate_left
    ·
     rw [if_neg c5] at H
     have c5b0 : (t199 == 0) = false := beq_eq_false_iff_ne.mpr c5
     have c5b1 : (t199 != 0) = true := bne_iff_ne.mpr c5
     (first | rw [c5b0] | (simp only [i64_w, i32_w]; rw [c5b0]) | skip)
     have H' := Aside0.mk H
     clear H
     go_wp2
     go_meet
     case rel => exact ⟨_, (true), (by first | rfl | (simp; done) | (simp [*]; done)), H', ⟨by have := HK1.out; first | exact Nat.le_refl _ | omega⟩, ⟨tV_ HO_0⟩, ⟨tS_ HO_4⟩, ⟨by repeat (first | (with_reducible first | exact HB.out | apply b_a | apply b_n | apply b_d) | exact HB.out)⟩⟩
    rw [if_pos c5] at H
    have c5b0 : (t199 == 0) = true := beq_iff_eq.mpr c5
    have c5b1 : (t199 != 0) = false := bne_eq_false_iff_eq.mpr c5
    clear c5
    (first | rw [c5b0] | (simp only [i64_w, i32_w]; rw [c5b0]) | skip)
    have H' := Aside0.mk H
    clear H
    go_wp2
    go_meet
    case rel => exact ⟨_, (decide (t198 > (x0_1.length : Int))), (by first | rfl | (simp; done) | (simp [*]; done)), H', ⟨by have := HK1.out; first | exact Nat.le_refl _ | omega⟩, ⟨tV_ HO_0⟩, ⟨tS_ HO_4⟩, ⟨by repeat (first | (with_reducible first | exact HB.out | apply b_a | apply b_n | apply b_d) | exact HB.out)⟩⟩
   case rest => as_aux_lemma =>
    clear HC3
    try clear c1
    try clear c2
    try clear p2
    try clear c5
    try clear c5b0
    try clear c5b1
    obtain ⟨kq, x19_2, rfl, HA, HJ2, HO_0, HO_4, HB⟩ := hcut
    cases kq with
    | zero => exact absurd HA.out (by simp [frame_Split.j1])
    | succ kj2 =>
     have H := HA.out
     clear HA
     simp only [frame_Split.j1] at H
     by_cases c6 : x19_2 = true
     ·
      subst c6
      have H1 : ((bytes_Clone.f x0_1).bind fun t200 => (some (x4_1, t200))) = some (r1, r2) := by rw [if_pos rfl] at H; exact H
      clear H
      have H := H1
      clear H1
      replace H := Option.bind_eq_some_iff.mp H
      obtain ⟨t200, A70, H⟩ := H
      replace H : (some (x4_1, t200)) = some (r1, r2) := H
      have A7 := Aside0.mk A70
      clear A70
      simp only [Option.some.injEq, Prod.mk.injEq] at H
      obtain ⟨rfl, rfl⟩ := H
      go_wp2_with (first | ((with_reducible refine gate_callee (f := 22) rfl ?_); refine goesL_ (some 22) rfl rfl Try.func22 (by kernel_rfl) rfl #[.slice Ao4 x0_1.length co4] rfl (by (try simp only [l_4, l_5, l_6]); first | done | rfl | (simp only [l_7, l_8]; rfl)) ?_; (with_reducible refine (bytes_Clone.calls _ _ x0_1 t200 _ ?side1 ?side2 A7.out).mono ?_); (case side1 => repeat (first | exact (Kd.V_reads' HO_0.out).2.2 | (with_reducible refine Kd.C_alloc ?_ _) | (with_reducible refine Kd.C_drewN ?_ _) | (with_reducible refine Kd.C_drew ?_))); (case side2 => exact (Kd.V_reads' HO_0.out).2.1); rintro e w8 ⟨v201, rfl, ho0, hb⟩; (try clear A7); refine ⟨_, rfl, ?_⟩; have HO202 := Aside0.mk (Kd.R_lower (Kd.R_newM (M := fun k_ => (w.heap.size ≤ k_)) ho0 (below_size (bw_ HB)) (fun k_ h_ => h_)) (below_size (bw_ HB))); replace HO_0 := Aside0.mk (Kd.V_elder' (tV_ HO_0) (Kd.R_base ho0) hb); replace HO_4 := Aside0.mk (Kd.S_elder' (tS_ HO_4) (Kd.R_base ho0) hb); replace HB := Aside0.mk (below_step (bw_ HB) hb); (try clear hb); (try clear hb2); (try clear hk); (try clear hi); (try clear ho0)))
      go_ret2
      exact ⟨_, _, by first | rfl | (simp [errW_none, errW_some] <;> rfl) | (simp [*, errW_none, errW_some] <;> rfl), by (with_reducible repeat (first | apply Kd.S_alloc | apply Kd.S_drewN | apply Kd.S_drew)); exact HO_4.out, by (with_reducible repeat (first | apply Kd.R_alloc | apply Kd.R_drewN | apply Kd.R_drew)); exact Kd.R_mono HO202.out (fun _ hk => hk.1), by repeat (first | (with_reducible first | exact HB.out | apply b_a | apply b_n | apply b_d) | exact HB.out)⟩
     replace c6 := Bool.eq_false_iff.mpr c6
     subst c6
     have H1 : (if 0 ≤ t198 then (if t198 ≤ (x0_1.length : Int) then ((frame_Parse.f kj2 (x0_1.take (t198 : Int).toNat)).bind fun bt208 => (if bt208.2.2 = 0 then ((bytes_Clone.f (x0_1.take (t198 : Int).toNat)).bind fun t218 => (if x4_1.length < 5864062014805 then (frame_Split.l0 kj2 (x0_1.drop (t198 : Int).toNat) (x4_1 ++ [t218])) else (none))) else ((bytes_Clone.f x0_1).bind fun t229 => (some (x4_1, t229))))) else (none)) else (none)) = some (r1, r2) := by rw [if_neg (show ¬ (false = true) by decide)] at H; exact H
     clear H
     have H := H1
     clear H1
     by_cases c9 : 0 ≤ t198
     rotate_left
     ·
      rw [if_neg c9] at H
      exact absurd H (by simp)

     rw [if_pos c9] at H
     have c9b0 := eq_true c9
     have c9b1 : decide (0 ≤ t198) = true := decide_eq_true c9
     clear c9
     by_cases c10 : t198 ≤ (x0_1.length : Int)
     rotate_left
     ·
      rw [if_neg c10] at H
      exact absurd H (by simp)
     rw [if_pos c10] at H
     have c10b0 := eq_true c10
     have c10b1 : decide (t198 ≤ (x0_1.length : Int)) = true := decide_eq_true c10
     clear c10
     obtain ⟨y203, hy203⟩ : ∃ y_ : List Int, y_ = (x0_1.take (t198 : Int).toNat) := ⟨_, rfl⟩
     replace H : ((frame_Parse.f kj2 y203).bind fun bt208 => (if bt208.2.2 = 0 then ((bytes_Clone.f (x0_1.take (t198 : Int).toNat)).bind fun t218 => (if x4_1.length < 5864062014805 then (frame_Split.l0 kj2 (x0_1.drop (t198 : Int).toNat) (x4_1 ++ [t218])) else (none))) else ((bytes_Clone.f x0_1).bind fun t229 => (some (x4_1, t229))))) = some (r1, r2) := by first | (rw [hy203]; with_reducible exact H) | (have H2_ := (Option.bind_some _ _).symm.trans H; rw [hy203]; with_reducible exact H2_) | (have H2_ := (Option.bind_some _ _).symm.trans H; with_reducible exact H2_) | with_reducible exact H | (rw [hy203]; exact H) | exact H
     have Ny203 := Aside0.mk hy203
     clear hy203
     replace H := Option.bind_eq_some_iff.mp H
     obtain ⟨⟨t208, t209, t210⟩, A110, H⟩ := H
     replace H : (if t210 = 0 then ((bytes_Clone.f (x0_1.take (t198 : Int).toNat)).bind fun t218 => (if x4_1.length < 5864062014805 then (frame_Split.l0 kj2 (x0_1.drop (t198 : Int).toNat) (x4_1 ++ [t218])) else (none))) else ((bytes_Clone.f x0_1).bind fun t229 => (some (x4_1, t229)))) = some (r1, r2) := H
     have A11 := Aside0.mk A110
     clear A110
     by_cases c12 : t210 = 0
     rotate_left
     ·
      rw [if_neg c12] at H
      have c12b0 : (t210 == 0) = false := beq_eq_false_iff_ne.mpr c12
      have c12b1 : (t210 != 0) = true := bne_iff_ne.mpr c12
      replace H := Option.bind_eq_some_iff.mp H
      obtain ⟨t229, A260, H⟩ := H
      replace H : (some (x4_1, t229)) = some (r1, r2) := H
      have A26 := Aside0.mk A260
      clear A260
      simp only [Option.some.injEq, Prod.mk.injEq] at H
      obtain ⟨rfl, rfl⟩ := H
      have q27 : (t198 : Int) ≤ ((x0_1.length : Int) : Int) := of_decide_eq_true (by first | (with_reducible assumption) | assumption)
      obtain ⟨i027, hi027, _, hsz27, _⟩ := info_parts info5
      have hroom27 : x0_1.length ≤ co4 := (Kd.V_reads' HO_0.out).2.1
      have hC27 : Kd.F (Kd.int .u8) _ _ Ao4 x0_1.length x0_1 := (Kd.V_at (base := w.heap.size) HO_0.out).2.2
      have hcut27 := cut_to (P := Try.prog) 22 5 .i64 Try.underlying22 hi027 Ao4 x0_1.length co4 t198 (of_decide_eq_true (by first | (with_reducible assumption) | assumption)) q27 hroom27
      have hr27 := Kd.F_take (m := (t198 : Int).toNat) hC27 (by omega)
      have hy27 : y203.length = (t198 : Int).toNat := (by rw [Ny203.out, l_8]; omega)
      rw [← Ny203.out] at hr27
      rw [← hy27] at hcut27
      have HO207 := Aside0.mk (show Kd.V (Kd.int .u8) 5 _ w.heap.size _ (.slice Ao4 y203.length co4) y203 from Kd.V_mk (by omega) hr27)
      have HC207 := Aside0.mk (show y203.length ≤ co4 from by omega)
      clear hr27 hC27 hroom27 hi027 hsz27
      have KY27 := Aside0.mk hy27
      clear hy27
      replace q27 := eq_true q27
      go_wp2_with (first | ((with_reducible refine gate_callee (f := 11) rfl ?_); refine goesL_ (some 27) rfl rfl Try.func11 (by kernel_rfl) rfl #[.slice Ao4 y203.length co4] rfl (by (try simp only [l_4, l_5, l_6]); first | done | rfl | (simp only [l_7, l_8]; rfl)) ?_; (with_reducible refine (frame_Parse.calls kj2 _ _ y203 t208 t209 t210 _ ?side1 ?side2 A11.out).mono ?_); (case side1 => repeat (first | exact (Kd.V_reads' HO207.out).2.2 | (with_reducible refine Kd.C_alloc ?_ _) | (with_reducible refine Kd.C_drewN ?_ _) | (with_reducible refine Kd.C_drew ?_))); (case side2 => exact (Kd.V_reads' HO207.out).2.1); rintro e w28 ⟨v211, rfl, ho0, hb⟩; (try clear A11); refine ⟨_, rfl, ?_⟩; have HO212 := Aside0.mk (Kd.R_lower (Kd.R_newM (M := fun k_ => (w.heap.size ≤ k_)) ho0 (below_size (bw_ HB)) (fun k_ h_ => h_)) (below_size (bw_ HB))); replace HO_0 := Aside0.mk (Kd.V_elder' (tV_ HO_0) (Kd.R_base ho0) hb); replace HO_4 := Aside0.mk (Kd.S_elder' (tS_ HO_4) (Kd.R_base ho0) hb); replace HO207 := Aside0.mk (Kd.V_elder' (tV_ HO207) (Kd.R_base ho0) hb); replace HB := Aside0.mk (below_step (bw_ HB) hb); (try clear hb); (try clear hb2); (try clear hk); (try clear hi); (try clear ho0)) | ((with_reducible refine gate_callee (f := 22) rfl ?_); refine goesL_ (some 35) rfl rfl Try.func22 (by kernel_rfl) rfl #[.slice Ao4 x0_1.length co4] rfl (by (try simp only [l_4, l_5, l_6]); first | done | rfl | (simp only [l_7, l_8]; rfl)) ?_; (with_reducible refine (bytes_Clone.calls _ _ x0_1 t229 _ ?side1 ?side2 A26.out).mono ?_); (case side1 => repeat (first | exact (Kd.V_reads' HO_0.out).2.2 | (with_reducible refine Kd.C_alloc ?_ _) | (with_reducible refine Kd.C_drewN ?_ _) | (with_reducible refine Kd.C_drew ?_))); (case side2 => exact (Kd.V_reads' HO_0.out).2.1); rintro e w29 ⟨v230, rfl, ho0, hb⟩; (try clear A26); refine ⟨_, rfl, ?_⟩; have HO231 := Aside0.mk (Kd.R_lower (Kd.R_new' (Kd.R_newM (M := fun k_ => (w.heap.size ≤ k_)) ho0 (below_size (bw_ HB)) (fun k_ h_ => h_)) (Kd.R_lt (tR_ HO212))) (below_size (bw_ HB))); replace HO_0 := Aside0.mk (Kd.V_elder' (tV_ HO_0) (Kd.R_base ho0) hb); replace HO_4 := Aside0.mk (Kd.S_elder' (tS_ HO_4) (Kd.R_base ho0) hb); replace HO207 := Aside0.mk (Kd.V_elder' (tV_ HO207) (Kd.R_base ho0) hb); replace HO212 := Aside0.mk (Kd.R_elder' (tR_ HO212) (Kd.R_base ho0) hb); replace HB := Aside0.mk (below_step (bw_ HB) hb); (try clear hb); (try clear hb2); (try clear hk); (try clear hi); (try clear ho0)))
      go_ret2
      exact ⟨_, _, by first | rfl | (simp [errW_none, errW_some] <;> rfl) | (simp [*, errW_none, errW_some] <;> rfl), by (with_reducible repeat (first | apply Kd.S_alloc | apply Kd.S_drewN | apply Kd.S_drew)); exact Kd.S_mono HO_4.out (fun _ hk => ⟨hk.1.1, hk.2⟩), by (with_reducible repeat (first | apply Kd.R_alloc | apply Kd.R_drewN | apply Kd.R_drew)); exact Kd.R_mono HO231.out (fun _ hk => hk.1.1), by repeat (first | (with_reducible first | exact HB.out | apply b_a | apply b_n | apply b_d) | exact HB.out)⟩
     rw [if_pos c12] at H
     have c12b0 : (t210 == 0) = true := beq_iff_eq.mpr c12
     have c12b1 : (t210 != 0) = false := bne_eq_false_iff_eq.mpr c12
     clear c12
     have c13b0 := eq_true (of_decide_eq_true (by first | (with_reducible assumption) | assumption) : 0 ≤ t198)
     have c14b0 := eq_true (of_decide_eq_true (by first | (with_reducible assumption) | assumption) : t198 ≤ (x0_1.length : Int))
     obtain ⟨y213, hy213⟩ : ∃ y_ : List Int, y_ = (x0_1.take (t198 : Int).toNat) := ⟨_, rfl⟩
     replace H : ((bytes_Clone.f y213).bind fun t218 => (if x4_1.length < 5864062014805 then (frame_Split.l0 kj2 (x0_1.drop (t198 : Int).toNat) (x4_1 ++ [t218])) else (none))) = some (r1, r2) := by first | (rw [hy213]; with_reducible exact H) | (have H2_ := (Option.bind_some _ _).symm.trans H; rw [hy213]; with_reducible exact H2_) | (have H2_ := (Option.bind_some _ _).symm.trans H; with_reducible exact H2_) | with_reducible exact H | (rw [hy213]; exact H) | exact H
     have Ny213 := Aside0.mk hy213
     clear hy213
     replace H := Option.bind_eq_some_iff.mp H
     obtain ⟨t218, A150, H⟩ := H
     replace H : (if x4_1.length < 5864062014805 then (frame_Split.l0 kj2 (x0_1.drop (t198 : Int).toNat) (x4_1 ++ [t218])) else (none)) = some (r1, r2) := H
     have A15 := Aside0.mk A150
     clear A150
     by_cases c16 : x4_1.length < 5864062014805
     rotate_left
     ·
      rw [if_neg c16] at H
      exact absurd H (by simp)
     rw [if_pos c16] at H
     have LMc16 := Aside0.mk c16
     clear c16
     obtain ⟨y221, hy221⟩ : ∃ y_ : List (List Int), y_ = (x4_1 ++ [t218]) := ⟨_, rfl⟩
     replace H : (frame_Split.l0 kj2 (x0_1.drop (t198 : Int).toNat) y221) = some (r1, r2) := by first | (rw [hy221]; with_reducible exact H) | (have H2_ := (Option.bind_some _ _).symm.trans H; rw [hy221]; with_reducible exact H2_) | (have H2_ := (Option.bind_some _ _).symm.trans H; with_reducible exact H2_) | with_reducible exact H | (rw [hy221]; exact H) | exact H
     have Ny221 := Aside0.mk hy221
     clear hy221
     have c17b0 := eq_true (of_decide_eq_true (by first | (with_reducible assumption) | assumption) : 0 ≤ t198)
     have c18b0 := eq_true (of_decide_eq_true (by first | (with_reducible assumption) | assumption) : t198 ≤ (x0_1.length : Int))
     obtain ⟨y224, hy224⟩ : ∃ y_ : List Int, y_ = (x0_1.drop (t198 : Int).toNat) := ⟨_, rfl⟩
     replace H : (frame_Split.l0 kj2 y224 y221) = some (r1, r2) := by first | (rw [hy224]; with_reducible exact H) | (have H2_ := (Option.bind_some _ _).symm.trans H; rw [hy224]; with_reducible exact H2_) | (have H2_ := (Option.bind_some _ _).symm.trans H; with_reducible exact H2_) | with_reducible exact H | (rw [hy224]; exact H) | exact H
     have Ny224 := Aside0.mk hy224
     clear hy224
     have H' := Aside0.mk H
     clear H
     have q19 : (t198 : Int) ≤ ((x0_1.length : Int) : Int) := of_decide_eq_true (by first | (with_reducible assumption) | assumption)
     obtain ⟨i019, hi019, _, hsz19, _⟩ := info_parts info5
     have hroom19 : x0_1.length ≤ co4 := (Kd.V_reads' HO_0.out).2.1
     have hC19 : Kd.F (Kd.int .u8) _ _ Ao4 x0_1.length x0_1 := (Kd.V_at (base := w.heap.size) HO_0.out).2.2
     have hcut19 := cut_to (P := Try.prog) 22 5 .i64 Try.underlying22 hi019 Ao4 x0_1.length co4 t198 (of_decide_eq_true (by first | (with_reducible assumption) | assumption)) q19 hroom19
     have hr19 := Kd.F_take (m := (t198 : Int).toNat) hC19 (by omega)
     have hy19 : y203.length = (t198 : Int).toNat := (by rw [Ny203.out, l_8]; omega)
     rw [← Ny203.out] at hr19
     rw [← hy19] at hcut19
     have HO207 := Aside0.mk (show Kd.V (Kd.int .u8) 5 _ w.heap.size _ (.slice Ao4 y203.length co4) y203 from Kd.V_mk (by omega) hr19)
     have HC207 := Aside0.mk (show y203.length ≤ co4 from by omega)
     clear hr19 hC19 hroom19 hi019 hsz19
     have KY19 := Aside0.mk hy19
     clear hy19
     replace q19 := eq_true q19
     go_wp2_with (first | ((with_reducible refine gate_callee (f := 11) rfl ?_); refine goesL_ (some 27) rfl rfl Try.func11 (by kernel_rfl) rfl #[.slice Ao4 y203.length co4] rfl (by (try simp only [l_4, l_5, l_6]); first | done | rfl | (simp only [l_7, l_8]; rfl)) ?_; (with_reducible refine (frame_Parse.calls kj2 _ _ y203 t208 t209 t210 _ ?side1 ?side2 A11.out).mono ?_); (case side1 => repeat (first | exact (Kd.V_reads' HO207.out).2.2 | (with_reducible refine Kd.C_alloc ?_ _) | (with_reducible refine Kd.C_drewN ?_ _) | (with_reducible refine Kd.C_drew ?_))); (case side2 => exact (Kd.V_reads' HO207.out).2.1); rintro e w20 ⟨v211, rfl, ho0, hb⟩; (try clear A11); refine ⟨_, rfl, ?_⟩; have HO212 := Aside0.mk (Kd.R_lower (Kd.R_newM (M := fun k_ => (w.heap.size ≤ k_)) ho0 (below_size (bw_ HB)) (fun k_ h_ => h_)) (below_size (bw_ HB))); replace HO_0 := Aside0.mk (Kd.V_elder' (tV_ HO_0) (Kd.R_base ho0) hb); replace HO_4 := Aside0.mk (Kd.S_elder' (tS_ HO_4) (Kd.R_base ho0) hb); replace HO207 := Aside0.mk (Kd.V_elder' (tV_ HO207) (Kd.R_base ho0) hb); replace HB := Aside0.mk (below_step (bw_ HB) hb); (try clear hb); (try clear hb2); (try clear hk); (try clear hi); (try clear ho0); have q21 : (t198 : Int) ≤ ((x0_1.length : Int) : Int) := of_decide_eq_true (by first | (with_reducible assumption) | assumption); obtain ⟨i021, hi021, _, hsz21, _⟩ := info_parts info5; have hroom21 : x0_1.length ≤ co4 := (Kd.V_reads' HO_0.out).2.1; have hC21 : Kd.F (Kd.int .u8) _ _ Ao4 x0_1.length x0_1 := (Kd.V_at (base := w.heap.size) HO_0.out).2.2; have hcut21 := cut_to (P := Try.prog) 22 5 .i64 Try.underlying22 hi021 Ao4 x0_1.length co4 t198 (of_decide_eq_true (by first | (with_reducible assumption) | assumption)) q21 hroom21; have hr21 := Kd.F_take (m := (t198 : Int).toNat) hC21 (by omega); have hy21 : y213.length = (t198 : Int).toNat := (by rw [Ny213.out, l_8]; omega); rw [← Ny213.out] at hr21; rw [← hy21] at hcut21; have HO217 := Aside0.mk (show Kd.V (Kd.int .u8) 5 _ w.heap.size _ (.slice Ao4 y213.length co4) y213 from Kd.V_mk (by omega) hr21); have HC217 := Aside0.mk (show y213.length ≤ co4 from by omega); clear hr21 hC21 hroom21 hi021 hsz21; have KY21 := Aside0.mk hy21; clear hy21; replace q21 := eq_true q21) | ((with_reducible refine gate_callee (f := 22) rfl ?_); refine goesL_ (some 40) rfl rfl Try.func22 (by kernel_rfl) rfl #[.slice Ao4 y213.length co4] rfl (by (try simp only [l_4, l_5, l_6]); first | done | rfl | (rw [KY21.out, ← KY19.out] <;> rfl) | (simp only [l_7, l_8]; rfl)) ?_; (with_reducible refine (bytes_Clone.calls _ _ y213 t218 _ ?side1 ?side2 A15.out).mono ?_); (case side1 => repeat (first | exact (Kd.V_reads' HO217.out).2.2 | (with_reducible refine Kd.C_alloc ?_ _) | (with_reducible refine Kd.C_drewN ?_ _) | (with_reducible refine Kd.C_drew ?_))); (case side2 => exact (Kd.V_reads' HO217.out).2.1); rintro e w22 ⟨v219, rfl, ho0, hb⟩; (try clear A15); refine ⟨_, rfl, ?_⟩; have HO220 := Aside0.mk (Kd.R_lower (Kd.R_new' (Kd.R_newM (M := fun k_ => (w.heap.size ≤ k_)) ho0 (below_size (bw_ HB)) (fun k_ h_ => h_)) (Kd.R_lt (tR_ HO212))) (below_size (bw_ HB))); replace HO_0 := Aside0.mk (Kd.V_elder' (tV_ HO_0) (Kd.R_base ho0) hb); replace HO_4 := Aside0.mk (Kd.S_elder' (tS_ HO_4) (Kd.R_base ho0) hb); replace HO207 := Aside0.mk (Kd.V_elder' (tV_ HO207) (Kd.R_base ho0) hb); replace HO212 := Aside0.mk (Kd.R_elder' (tR_ HO212) (Kd.R_base ho0) hb); replace HO217 := Aside0.mk (Kd.V_elder' (tV_ HO217) (Kd.R_base ho0) hb); replace HB := Aside0.mk (below_step (bw_ HB) hb); (try clear hb); (try clear hb2); (try clear hk); (try clear hi); (try clear ho0); obtain ⟨Ao24, co24, eo24⟩ := Kd.R_slice HO220.out; subst eo24) | ((with_reducible refine gate_builtin (b := .append) (xs := #[.tmp 36, .tmp 41]) rfl ?_); (try (refine gate_guard (by rfl) ?_; dsimp only)); at_builtin; refine Kd.S_append (Kd.slice 5 (Kd.int .u8)) (w0 := w) w.heap.size rfl (.tmp 36) (.tmp 41) 36 22 (.slice none 0 0) 24 rfl Try.underlying36 info22 rfl (by decide) (by omega) u4 x4_1 t218 [.slice Ao24 t218.length co24] (fun k_ => (w.heap.size ≤ k_) ∧ some k_ ≠ (v211 : Value).ownBlock) (fun k_ => some k_ = (.slice Ao24 t218.length co24 : Value).ownBlock) rfl rfl ?aP (fun k_ hk_ => ((Kd.R_mono (ok' := fun k_ => ((fun k_ => (w.heap.size ≤ k_) ∧ some k_ ≠ (v211 : Value).ownBlock)) k_ ∧ some k_ ≠ (u4 : Value).ownBlock) (Kd.R_apart' (HO220.out) (Kd.S_typed HO_4.out) (by decide)) (fun k_ hk => ⟨⟨hk.1.1.1, hk.1.2⟩, hk.2⟩))).1 k_ hk_.symm) ?aF ?aO ?aB ?aS ?aL ?_; (case aP => exact Kd.M_row (Kd.R_mono (Kd.R_tight rfl (Kd.R_mono (ok' := fun k_ => ((fun k_ => (w.heap.size ≤ k_) ∧ some k_ ≠ (v211 : Value).ownBlock)) k_ ∧ some k_ ≠ (u4 : Value).ownBlock) (Kd.R_apart' (HO220.out) (Kd.S_typed HO_4.out) (by decide)) (fun k_ hk => ⟨⟨hk.1.1.1, hk.1.2⟩, hk.2⟩))) (fun _ h_ => h_))); (case aB => exact (bw_ HB)); (case aF => exact (fun k_ hk => ⟨(Nat.le_trans (below_size (bw_ HB)) hk), Kd.fresh' (Kd.R_lt (tR_ HO212)) k_ hk⟩)); (case aO => exact (by (with_reducible repeat (first | apply Kd.S_alloc | apply Kd.S_drewN | apply Kd.S_drew)); exact Kd.S_mono HO_4.out (fun k_ hk => ⟨⟨hk.1.1, hk.1.2⟩, fun e_ => hk.2 e_⟩))); (case aS => exact (below_size (bw_ HB))); (case aL => have := LMc16.out; omega); intro v222 w23 ho hb hg hat; rw [← Ny221.out] at ho; have n0_ := Aside0.mk (Kd.V_afterv (ok := (fun k_ => (P0_ k_ ∨ w.heap.size ≤ k_) ∧ some k_ ≠ (v211 : Value).ownBlock ∧ some k_ ≠ (.slice Ao24 t218.length co24 : Value).ownBlock)) (by (with_reducible repeat (first | apply Kd.V_alloc | apply Kd.V_drewN | apply Kd.V_drew)); exact Kd.V_mono HO_0.out (fun _ hk => ⟨⟨hk.1.1.1, ⟨hk.1.2, hk.2⟩⟩, hk.1.1.2⟩)) hg hat); have n1_ := Aside0.mk (Kd.V_afterv (ok := (fun k_ => (P0_ k_ ∨ w.heap.size ≤ k_) ∧ some k_ ≠ (v211 : Value).ownBlock ∧ some k_ ≠ (.slice Ao24 t218.length co24 : Value).ownBlock)) (by (with_reducible repeat (first | apply Kd.V_alloc | apply Kd.V_drewN | apply Kd.V_drew)); exact Kd.V_mono HO207.out (fun _ hk => ⟨⟨hk.1.1.1, ⟨hk.1.2, hk.2⟩⟩, hk.1.1.2⟩)) hg hat); have n2_ := Aside0.mk (Kd.R_over' (tR_ HO212) (Kd.S_typed (tS_ HO_4)) (by decide) hg); have n3_ := Aside0.mk (Kd.V_afterv (ok := (fun k_ => (P0_ k_ ∨ w.heap.size ≤ k_) ∧ some k_ ≠ (v211 : Value).ownBlock ∧ some k_ ≠ (.slice Ao24 t218.length co24 : Value).ownBlock)) (by (with_reducible repeat (first | apply Kd.V_alloc | apply Kd.V_drewN | apply Kd.V_drew)); exact Kd.V_mono HO217.out (fun _ hk => ⟨⟨hk.1.1.1, ⟨hk.1.2, hk.2⟩⟩, hk.1.1.2⟩)) hg hat); have n4_ := Aside0.mk (hb); have n5_ := Aside0.mk (ho); clear HO_0; clear HO207; clear HO212; clear HO217; clear HB; clear HO_4; clear HO220; have HO_0 := n0_; have HO207 := n1_; have HO212 := n2_; have HO217 := n3_; have HB := n4_; have HO223 := n5_; clear n0_ n1_ n2_ n3_ n4_ n5_; clear ho hb hg hat; have q25 : (t198 : Int) ≤ ((x0_1.length : Int) : Int) := of_decide_eq_true (by first | (with_reducible assumption) | assumption); obtain ⟨i025, hi025, _, hsz25, _⟩ := info_parts info5; have hroom25 : x0_1.length ≤ co4 := (Kd.V_reads' HO_0.out).2.1; have hC25 : Kd.F (Kd.int .u8) _ _ Ao4 x0_1.length x0_1 := (Kd.V_at (base := w.heap.size) HO_0.out).2.2; have q025 : (0 : Int) ≤ (t198 : Int) := of_decide_eq_true (by first | (with_reducible assumption) | assumption); have hcut25 := cut_from (P := Try.prog) 22 5 .i64 Try.underlying22 hi025 1 hsz25 Ao4 x0_1.length co4 t198 q025 q25; have hr25 := Kd.F_cut (m := (t198 : Int).toNat) (c := co4) hC25 (by omega) hroom25; obtain ⟨A25, hA25⟩ : ∃ A1, A1 = (if co4 = (t198 : Int).toNat then Ao4 else (Ao4 : Option Addr).map (·.add ((t198 : Int).toNat * 1))) := ⟨_, rfl⟩; obtain ⟨c25, hc25⟩ : ∃ c1, c1 = co4 - (t198 : Int).toNat := ⟨_, rfl⟩; have hy25 : y224.length = x0_1.length - (t198 : Int).toNat := (by rw [Ny224.out, l_7] <;> omega); rw [show (x0_1).drop (t198 : Int).toNat = y224 from Ny224.out.symm] at hr25; replace hr25 : Kd.F (Kd.int .u8) _ _ A25 y224.length y224 := (by rw [hA25]; exact hr25); rw [← hy25, ← hA25, ← hc25] at hcut25; have HO228 := Aside0.mk (show Kd.V (Kd.int .u8) 5 _ w.heap.size _ (.slice A25 y224.length c25) y224 from Kd.V_mk (by rw [hy25, hc25]; exact Nat.sub_le_sub_right hroom25 _) hr25); have HC228 := Aside0.mk (show y224.length ≤ c25 from by rw [hy25, hc25]; exact Nat.sub_le_sub_right hroom25 _); clear hr25 hC25 hroom25 hi025 hsz25 hc25; have KY25 := Aside0.mk hy25; have KA25 := Aside0.mk hA25; clear hy25 hA25; replace q25 := eq_true q25))
     go_roundg kj2
     case measure => have := HK1.out; have := HJ2.out; omega
     case rel => exact ⟨(y224), (y221), H', ⟨by have := HK1.out; have := HJ2.out; omega⟩, ⟨by (with_reducible repeat (first | apply Kd.V_alloc | apply Kd.V_drewN | apply Kd.V_drew)); exact Kd.V_mono HO228.out (fun _ hk => ⟨hk.1.1, hk.2⟩)⟩, ⟨by (with_reducible repeat (first | apply Kd.S_alloc | apply Kd.S_drewN | apply Kd.S_drew)); exact Kd.S_mono HO223.out (fun _ hk => hk.1)⟩, ⟨by repeat (first | (with_reducible first | exact HB.out | apply b_a | apply b_n | apply b_d) | exact HB.out)⟩⟩
end Go.Proofs.Ytofoimndhndffaa.QFrameSplits
