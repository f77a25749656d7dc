-- Written by a program of this session (a turned copy of the print) out of the translation. Lean checks it.
import Derived.Test.YtggcgacndknlaaaQGridPartsx0
import Derived.Test.YtggcgacndknlaaaQGridPartsx1
import Derived.Test.YtggcgacndknlaaaQGridPartsx2
import Derived.Test.YtggcgacndknlaaaQGridPartsx3
namespace Go.Proofs.Ytggcgacndknlaaa.QGridParts
open Go.RowKit Go.Proofs.YtggcgacndknlaaaW.PrintWords Go.Proofs.YtggcgacndknlaaaW.PrintLast Go.Proofs.YtggcgacndknlaaaW.PrintMore
attribute [local go_sem] max2_int min2_int max_two min_two max_three min_three max_four min_four   -- for this text's walks alone
open Go.Proofs.YtggcgacndknlaaaW.PrintWords renaming below_alloc → b_a, pw_below_drewN → b_n, below_drew1 → b_d, below_set → b_s, blk_drewN → k_n, blk_drew → k_d, blk_alloc → k_a
open List renaming setIfInBounds_toArray → l_1, set_cons_zero → l_2, set_cons_succ → l_3, map_toArray → l_4, map_cons → l_5, map_nil → l_6, length_drop → l_7, length_take → l_8
set_option linter.unusedVariables false
set_option linter.unusedSimpArgs false

/-! ### grid_Beside: function 25 -/
def grid_Beside.l0 : Nat → List (S24) → List (S24) → Int → Int → Option (Int × Int × List Int × Int)
 | 0, _, _, _, _ => none
 | k + 1, x4, x13, x14, x15 => if x15 < x14 then (if 0 ≤ x15 then (if x15 < (x13.length : Int) then ((grid_Turn.f k ((rd_T24 x13 x15).f0) ((rd_T24 x13 x15).f1) ((rd_T24 x13 x15).f2)).bind fun bt150 => (if x15 < (x4.length : Int) then (if bt150.2.2.2 = 0 then (grid_Beside.l0 k (x4.set (x15 : Int).toNat (⟨bt150.1, bt150.2.1, bt150.2.2.1⟩ : S24)) x13 x14 (wrap64 (x15 + 1))) else (some (0, 0, ([] : List Int), bt150.2.2.2))) else (none))) else (none)) else (none)) else ((grid_Stack.f k x4).bind fun bt157 => (if bt157.2.2.2 = 0 then ((grid_Turn.f k bt157.1 bt157.2.1 bt157.2.2.1).bind fun bt164 => (some (bt164.1, bt164.2.1, bt164.2.2.1, bt164.2.2.2))) else (some (0, 0, ([] : List Int), bt157.2.2.2))))
def grid_Beside.f (k : Nat) (l0 : List (S24)) : Option (Int × Int × List Int × Int) := if 0 ≤ (l0.length : Int) then (if ((l0.length : Int) : Int).toNat ≤ 7036874417766 then (grid_Beside.l0 k (List.replicate ((l0.length : Int) : Int).toNat z24) l0 (l0.length : Int) 0) else (none)) else (none)
theorem grid_Beside.mono_l : ∀ k, (∀ y0 y1 y2 y3, LeO (grid_Beside.l0 k y0 y1 y2 y3) (grid_Beside.l0 (k + 1) y0 y1 y2 y3))
 | 0 => fun _ _ _ _ r h => by simp [grid_Beside.l0] at h
 | k + 1 => by
  have ih0 := grid_Beside.mono_l k
  ·
   intro y0 y1 y2 y3
   unfold grid_Beside.l0
   repeat' first
   | (with_reducible exact ih0 _ _ _ _)
   | (with_reducible exact grid_Stack.mono _ _)
   | (with_reducible exact grid_Turn.mono _ _ _ _)
   | (with_reducible exact LeO.refl _)
   | (with_reducible exact LeO.none _)
   | (with_reducible refine LeO.ite ?_ ?_)
   | (with_reducible refine LeO.bind ?_ (fun _ => ?_))
   | exact ih0 _ _ _ _
   | exact grid_Stack.mono _ _
   | exact grid_Turn.mono _ _ _ _
   | exact LeO.none _
   | refine LeO.ite ?_ ?_
   | refine LeO.bind ?_ (fun _ => ?_)
theorem grid_Beside.mono : ∀ a0 k, LeO (grid_Beside.f k a0) (grid_Beside.f (k + 1) a0) := by
 intro a0 k
 have ih0 := grid_Beside.mono_l k
 unfold grid_Beside.f
 repeat' first
   | (with_reducible exact ih0 _ _ _ _)
   | (with_reducible exact grid_Stack.mono _ _)
   | (with_reducible exact grid_Turn.mono _ _ _ _)
   | (with_reducible exact LeO.refl _)
   | (with_reducible exact LeO.none _)
   | (with_reducible refine LeO.ite ?_ ?_)
   | (with_reducible refine LeO.bind ?_ (fun _ => ?_))
   | exact ih0 _ _ _ _
   | exact grid_Stack.mono _ _
   | exact grid_Turn.mono _ _ _ _
   | exact LeO.none _
   | refine LeO.ite ?_ ?_
   | refine LeO.bind ?_ (fun _ => ?_)
set_option maxHeartbeats 60000000 in
set_option maxRecDepth 100000 in
theorem grid_Beside.calls (k : Nat) (A0 : Option Addr) (c0 : Nat) (l0 : List (S24)) (r1 : Int) (r2 : Int) (r3 : List Int) (r4 : Int) (w : World) (hr0 : Kd.C k24 w A0 l0.length l0) (hc0 : l0.length ≤ c0) (h : grid_Beside.f k l0 = some (r1, r2, r3, r4)) :
  Calls Try.prog 25 #[.slice A0 l0.length c0] w fun e w' => ∃ v2_ : Value, e = .returned (.tuple #[.agg #[.int .i64 r1, .int .i64 r2, v2_], .int .i64 r4]) ∧ Kd.R (Kd.int .i32) 21 w' w.heap.size (fun _ => True) v2_ r3 ∧ Below w.heap.size w w' := by
 have hu24 := Try.underlying24
 have HR0 := Aside0.mk hr0
 have HC0 := Aside0.mk hc0
 clear hr0 hc0
 have HB := Aside0.mk (Below.refl w.heap.size w)
 have H : (if 0 ≤ (l0.length : Int) then (if ((l0.length : Int) : Int).toNat ≤ 7036874417766 then (grid_Beside.l0 k (List.replicate ((l0.length : Int) : Int).toNat z24) l0 (l0.length : Int) 0) else (none)) else (none)) = some (r1, r2, r3, r4) := h
 clear h
 by_cases c2 : 0 ≤ (l0.length : Int)
 rotate_left
 ·
  rw [if_neg c2] at H
  exact absurd H (by simp)

 rw [if_pos c2] at H
 have c2b0 := eq_true c2
 have c2b1 : decide (0 ≤ (l0.length : Int)) = true := decide_eq_true c2
 clear c2
 by_cases c3 : ((l0.length : Int) : Int).toNat ≤ 7036874417766
 rotate_left
 ·
  rw [if_neg c3] at H
  exact absurd H (by simp)
 rw [if_pos c3] at H
 have c3b0 := eq_true c3
 have c3b1 : decide (((l0.length : Int) : Int).toNat ≤ 7036874417766) = true := decide_eq_true c3
 clear c3
 obtain ⟨y145, hy145⟩ : ∃ y_ : List (S24), y_ = (List.replicate ((l0.length : Int) : Int).toNat z24) := ⟨_, rfl⟩
 replace H : (grid_Beside.l0 k y145 l0 (l0.length : Int) 0) = some (r1, r2, r3, r4) := by first | (rw [hy145]; with_reducible exact H) | (have H2_ := (Option.bind_some _ _).symm.trans H; rw [hy145]; with_reducible exact H2_) | (have H2_ := (Option.bind_some _ _).symm.trans H; with_reducible exact H2_) | with_reducible exact H | (rw [hy145]; exact H) | exact H
 have Ny145 := Aside0.mk hy145
 clear hy145
 have H' := Aside0.mk H
 clear H
 go_enter Try.func25, Try.ntmps25
 go_wp2_with (first | ((with_reducible refine gate_dst (N := 2) rfl ?_); refine box_event ?hg (N := 2) ?hd (cs := #[.int .i64 0, .int .i64 0, .slice none 0 0]) (t := 24) ?hr ?_; (case hd => rfl); (case hg => rfl); (case hr => first | (go_simp; done) | (go_simp; rfl)); intro gb144 hg w4 hbox hb; have BK144 := Aside0.mk (hbox); have GW144 := Aside0.mk ((by rw [hg]; exact (below_size (bw_ HB)) : w.heap.size ≤ gb144)); have GE144 := Aside0.mk ((by rw [hg]; exact (below_size (bw_ HB)) : w.heap.size ≤ gb144)); replace HB := Aside0.mk (below_step (bw_ HB) hb); clear hb hbox hg) | ((with_reducible refine gate_dst (N := 12) rfl ?_); refine Kd.S_make k24 _ 24 rfl (N := 12) rfl 44 _ _ rfl (l0.length : Int) rfl rfl Try.underlying44 (.agg #[(.int .i64 0), (.int .i64 0), (.slice none 0 0)]) 40 info24 rfl (by decide) (by omega) z24 (ok := fun _ => True) (okp := fun _ => True) (k24_mkM _ _ _ z24 (Kd.R_nil _ _ _ _ _)) (fun _ hk => hk) trivial (of_decide_eq_true (by first | (with_reducible assumption) | assumption)) (Nat.le_trans (Nat.mul_le_mul_right _ (of_decide_eq_true (by first | (with_reducible assumption) | assumption) : (l0.length : Int).toNat ≤ 7036874417766)) (by omega)) (Below.refl _ _) (Nat.le_refl _) ?_; intro v146 w5 ho6 hb hg_ hnew_; clear hg_ hnew_; (first | rw [← Ny145.out] at ho6 | (simp only [Int.reduceToNat] at ho6; rw [← Ny145.out] at ho6)); have HO147 := Aside0.mk (Kd.S_lower (Kd.S_newB ho6 (tk_ BK144)) (below_size (bw_ HB))); replace BK144 := Aside0.mk (blk_below (tk_ BK144) hb); replace HB := Aside0.mk (below_step (bw_ HB) hb); clear hb ho6))
 go_loopg [15] k (fun kq v15 w' => ∃ (x4_1 : List (S24)) (x15_1 : Int) (x145000_1 : Int) (x145001_1 : Int), v15 = .int .i64 x15_1 ∧ Aside0 (grid_Beside.l0 kq x4_1 l0 (l0.length : Int) x15_1 = some (r1, r2, r3, r4)) ∧ Aside0 (kq ≤ k) ∧ Aside0 (Kd.S k24 24 w' w.heap.size (fun k_ => k_ ≠ gb144) v146 x4_1) ∧ Aside0 (w'.heap[gb144]? = some (.cells #[.int .i64 x145000_1, .int .i64 x145001_1, (.slice none 0 0)] 24 (0, 0))) ∧ Aside0 (Below w.heap.size w w'))
 case atStart => exact ⟨(y145), (0), (0), (0), (by first | rfl | (simp; done) | (simp [*]; done)), H', ⟨Nat.le_refl _⟩, ⟨by (with_reducible repeat (first | apply Kd.S_alloc | apply Kd.S_drewN | apply Kd.S_drew)); exact Kd.S_mono HO147.out (fun _ hk => hk.2)⟩, ⟨tk_ BK144⟩, ⟨by repeat (first | (with_reducible first | exact HB.out | apply b_a | apply b_n | apply b_d | refine b_s ?_ GE144.out) | exact HB.out)⟩⟩
 case round =>
  clear H'
  try clear c2
  try clear c2b0
  try clear c2b1
  try clear p2
  try clear c3
  try clear c3b0
  try clear c3b1
  obtain ⟨x4_1, x15_1, x145000_1, x145001_1, rfl, HA, HK1, HO_4, BK144, HB⟩ := hrel
  cases gk with
  | zero => exact absurd HA.out (by simp [grid_Beside.l0])
  | succ k1 =>
   have H := HA.out
   clear HA
   simp only [grid_Beside.l0] at H
   by_cases c7 : x15_1 < (l0.length : Int)
   rotate_left
   ·
    rw [if_neg c7] at H
    have c7b0 : decide (x15_1 < (l0.length : Int)) = false := decide_eq_false c7
    clear c7
    replace H := Option.bind_eq_some_iff.mp H
    obtain ⟨⟨t157, t158, t159, t162⟩, A270, H⟩ := H
    replace H : (if t162 = 0 then ((grid_Turn.f k1 t157 t158 t159).bind fun bt164 => (some (bt164.1, bt164.2.1, bt164.2.2.1, bt164.2.2.2))) else (some (0, 0, ([] : List Int), t162))) = some (r1, r2, r3, r4) := H
    have A27 := Aside0.mk A270
    clear A270
    by_cases c28 : t162 = 0
    rotate_left
    ·
     rw [if_neg c28] at H
     have c28b0 : (t162 == 0) = false := beq_eq_false_iff_ne.mpr c28
     have c28b1 : (t162 != 0) = true := bne_iff_ne.mpr c28
     simp only [Option.some.injEq, Prod.mk.injEq] at H
     obtain ⟨rfl, rfl, rfl, rfl⟩ := H
     obtain ⟨Ao39, co39, eo39⟩ := Kd.S_slice HO_4.out
     subst eo39
     go_wp2_with (first | ((with_reducible refine gate_callee (f := 24) rfl ?_); refine goesL_ (some 35) rfl rfl Try.func24 (by kernel_rfl) rfl #[.slice Ao39 x4_1.length co39] rfl (by (try simp only [l_4, l_5, l_6]); first | done | rfl | (simp only [l_7, l_8]; rfl)) ?_; (with_reducible refine (grid_Stack.calls k1 _ _ x4_1 t157 t158 t159 t162 _ ?side1 ?side2 A27.out).mono ?_); (case side1 => repeat (first | exact (Kd.S_reads' HO_4.out).2.2 | (with_reducible refine Kd.C_alloc ?_ _) | (with_reducible refine Kd.C_drewN ?_ _) | (with_reducible refine Kd.C_drew ?_))); (case side2 => exact (Kd.S_reads' HO_4.out).2.1); rintro e w40 ⟨v160, rfl, ho0, hb⟩; (try clear A27); refine ⟨_, rfl, ?_⟩; have HO161 := Aside0.mk (Kd.R_lower ho0 (below_size (bw_ HB))); replace HO_4 := Aside0.mk (Kd.S_elder' (tS_ HO_4) (Kd.R_base ho0) hb); replace BK144 := Aside0.mk (blk_below (tk_ BK144) hb); replace HB := Aside0.mk (below_step (bw_ HB) hb); (try clear hb); (try clear hb2); (try clear hk); (try clear hi); (try clear ho0)) | ((with_reducible refine gate_dst (N := 8) rfl ?_); refine box_event ?hg (N := 8) ?hd (cs := #[.int .i64 0, .int .i64 0, .slice none 0 0]) (t := 24) ?hr ?_; (case hd => rfl); (case hg => rfl); (case hr => first | (go_simp; done) | (go_simp; rfl)); intro gb163 hg w41 hbox hb; have BK163 := Aside0.mk (hbox); have GW163 := Aside0.mk ((by rw [hg]; exact (below_size (bw_ HB)) : w.heap.size ≤ gb163)); have GE163 := Aside0.mk ((by rw [hg]; exact (below_size (bw_ HB)) : w.heap.size ≤ gb163)); have NB144_163 := Aside0.mk ((by rw [hg]; exact Nat.ne_of_lt (blk_lt (tk_ BK144)) : gb144 ≠ gb163)); have NB163_144 := Aside0.mk ((by rw [hg]; exact Nat.ne_of_gt (blk_lt (tk_ BK144)) : gb163 ≠ gb144)); replace HO_4 := Aside0.mk (Kd.S_below (Kd.S_elderB (tS_ HO_4) gb163 (Nat.le_of_eq hg.symm)) hb); replace HO161 := Aside0.mk (Kd.R_below (tR_ HO161) hb); replace BK144 := Aside0.mk (blk_below (tk_ BK144) hb); replace HB := Aside0.mk (below_step (bw_ HB) hb); clear hb hbox hg; have hnb42 := NB163_144.out; have hnc42 := NB144_163.out; have hcz43_0 := bc_0 BK163; have hcz43_1 := bc_1 BK163; have hcz43_2 := bc_2 BK163; have hfz43_0 := blk_frozen BK163.out 0; have hfz43_1 := blk_frozen BK163.out 1; have hfz43_2 := blk_frozen BK163.out 2; obtain ⟨Ao44, co44, eo44⟩ := Kd.R_slice HO161.out; subst eo44; have hcz45_0 := bc_0 BK144; have hcz45_1 := bc_1 BK144; have hcz45_2 := bc_2 BK144; have hfz45_0 := blk_frozen BK144.out 0; have hfz45_1 := blk_frozen BK144.out 1; have hfz45_2 := blk_frozen BK144.out 2))
     refine bodyPost_ret (results_ct rfl _ _ gb144 24 #[.int .i64 0, .int .i64 0, .slice none 0 0] (0, 0) _ rfl (by (with_reducible repeat (first | refine k_n ?_ _ | refine k_d ?_ | refine k_a ?_ _)); refine blk_put (cs := #[.int .i64 0, .int .i64 0, .slice none 0 0]) ?_ 2 _ rfl; (with_reducible repeat (first | refine k_n ?_ _ | refine k_d ?_ | refine k_a ?_ _)); refine blk_put (cs := #[.int .i64 0, .int .i64 x145001_1, .slice none 0 0]) ?_ 1 _ rfl; (with_reducible repeat (first | refine k_n ?_ _ | refine k_d ?_ | refine k_a ?_ _)); refine blk_put (cs := #[.int .i64 x145000_1, .int .i64 x145001_1, .slice none 0 0]) ?_ 0 _ rfl; (with_reducible repeat (first | refine k_n ?_ _ | refine k_d ?_ | refine k_a ?_ _)); refine blk_far ?_ NB144_163.out _; (with_reducible repeat (first | refine k_n ?_ _ | refine k_d ?_ | refine k_a ?_ _)); refine blk_far ?_ NB144_163.out _; (with_reducible repeat (first | refine k_n ?_ _ | refine k_d ?_ | refine k_a ?_ _)); refine blk_far ?_ NB144_163.out _; (with_reducible repeat (first | refine k_n ?_ _ | refine k_d ?_ | refine k_a ?_ _)); exact BK144.out) Try.underlying24 rfl (by kernel_rfl)) rfl ?_
     exact ⟨_, by first | rfl | (simp [errW_none, errW_some] <;> rfl) | (simp [*, errW_none, errW_some] <;> rfl), by first | exact Kd.R_nil _ _ _ _ _ | exact Kd.N_nil _ _ _ _ _ | exact Kd.V_nil _ _ _ _ _ | exact Kd.Q_nil _ _ _ _ _ | exact Kd.S_nil _ _ _ _ _, by repeat (first | (with_reducible first | exact HB.out | apply b_a | apply b_n | apply b_d | refine b_s ?_ GE144.out | refine b_s ?_ GE163.out) | exact HB.out)⟩
    rw [if_pos c28] at H
    have c28b0 : (t162 == 0) = true := beq_iff_eq.mpr c28
    have c28b1 : (t162 != 0) = false := bne_eq_false_iff_eq.mpr c28
    clear c28
    replace H := Option.bind_eq_some_iff.mp H
    obtain ⟨⟨t164, t165, t166, t169⟩, A290, H⟩ := H
    replace H : (some (t164, t165, t166, t169)) = some (r1, r2, r3, r4) := H
    have A29 := Aside0.mk A290
    clear A290
    simp only [Option.some.injEq, Prod.mk.injEq] at H
    obtain ⟨rfl, rfl, rfl, rfl⟩ := H
    obtain ⟨Ao30, co30, eo30⟩ := Kd.S_slice HO_4.out
    subst eo30
    go_wp2_with (first | ((with_reducible refine gate_callee (f := 24) rfl ?_); refine goesL_ (some 35) rfl rfl Try.func24 (by kernel_rfl) rfl #[.slice Ao30 x4_1.length co30] rfl (by (try simp only [l_4, l_5, l_6]); first | done | rfl | (simp only [l_7, l_8]; rfl)) ?_; (with_reducible refine (grid_Stack.calls k1 _ _ x4_1 t157 t158 t159 t162 _ ?side1 ?side2 A27.out).mono ?_); (case side1 => repeat (first | exact (Kd.S_reads' HO_4.out).2.2 | (with_reducible refine Kd.C_alloc ?_ _) | (with_reducible refine Kd.C_drewN ?_ _) | (with_reducible refine Kd.C_drew ?_))); (case side2 => exact (Kd.S_reads' HO_4.out).2.1); rintro e w31 ⟨v160, rfl, ho0, hb⟩; (try clear A27); refine ⟨_, rfl, ?_⟩; have HO161 := Aside0.mk (Kd.R_lower ho0 (below_size (bw_ HB))); replace HO_4 := Aside0.mk (Kd.S_elder' (tS_ HO_4) (Kd.R_base ho0) hb); replace BK144 := Aside0.mk (blk_below (tk_ BK144) hb); replace HB := Aside0.mk (below_step (bw_ HB) hb); (try clear hb); (try clear hb2); (try clear hk); (try clear hi); (try clear ho0)) | ((with_reducible refine gate_dst (N := 8) rfl ?_); refine box_event ?hg (N := 8) ?hd (cs := #[.int .i64 0, .int .i64 0, .slice none 0 0]) (t := 24) ?hr ?_; (case hd => rfl); (case hg => rfl); (case hr => first | (go_simp; done) | (go_simp; rfl)); intro gb163 hg w32 hbox hb; have BK163 := Aside0.mk (hbox); have GW163 := Aside0.mk ((by rw [hg]; exact (below_size (bw_ HB)) : w.heap.size ≤ gb163)); have GE163 := Aside0.mk ((by rw [hg]; exact (below_size (bw_ HB)) : w.heap.size ≤ gb163)); have NB144_163 := Aside0.mk ((by rw [hg]; exact Nat.ne_of_lt (blk_lt (tk_ BK144)) : gb144 ≠ gb163)); have NB163_144 := Aside0.mk ((by rw [hg]; exact Nat.ne_of_gt (blk_lt (tk_ BK144)) : gb163 ≠ gb144)); replace HO_4 := Aside0.mk (Kd.S_below (Kd.S_elderB (tS_ HO_4) gb163 (Nat.le_of_eq hg.symm)) hb); replace HO161 := Aside0.mk (Kd.R_below (tR_ HO161) hb); replace BK144 := Aside0.mk (blk_below (tk_ BK144) hb); replace HB := Aside0.mk (below_step (bw_ HB) hb); clear hb hbox hg; have hnb33 := NB163_144.out; have hnc33 := NB144_163.out; have hcz34_0 := bc_0 BK163; have hcz34_1 := bc_1 BK163; have hcz34_2 := bc_2 BK163; have hfz34_0 := blk_frozen BK163.out 0; have hfz34_1 := blk_frozen BK163.out 1; have hfz34_2 := blk_frozen BK163.out 2; obtain ⟨Ao35, co35, eo35⟩ := Kd.R_slice HO161.out; subst eo35) | ((with_reducible refine gate_callee (f := 22) rfl ?_); refine goesL_ (some 43) rfl rfl Try.func22 (by kernel_rfl) rfl #[.agg #[.int .i64 t157, .int .i64 t158, .slice Ao35 t159.length co35]] rfl (by (try simp only [l_4, l_5, l_6]); first | done | rfl | (simp only [l_7, l_8]; rfl)) ?_; (with_reducible refine (grid_Turn.calls k1 t157 t158 _ _ t159 t164 t165 t166 t169 _ ?side1 ?side2 A29.out).mono ?_); (case side1 => refine (Kd.R_reads' (e := 21) (base := w.heap.size) (ok := fun k_ => True) (n := t159.length) (c := co35) ?_).2.2; exact (by (with_reducible repeat (first | apply Kd.R_alloc | apply Kd.R_drewN | apply Kd.R_drew)); exact (Kd.R_mono (Kd.R_far (p := ⟨gb163, 2, none⟩) (Kd.R_far (p := ⟨gb163, 1, none⟩) (Kd.R_far (p := ⟨gb163, 0, none⟩) (Kd.R_types HO161.out BK163.out (by decide)) (fun _ hk => hk.2) (.int .i64 t157)) (fun _ hk => hk.2) (.int .i64 t158)) (fun _ hk => hk.2) (.slice Ao35 t159.length co35)) (fun _ h_ => h_.1)))); (case side2 => exact (Kd.R_reads' HO161.out).2.1); rintro e w36 ⟨v167, rfl, ho0, hb⟩; (try clear A29); refine ⟨_, rfl, ?_⟩; have HO168 := Aside0.mk (Kd.R_lower (Kd.R_new' ho0 (Kd.R_lt (by (with_reducible repeat (first | apply Kd.R_alloc | apply Kd.R_drewN | apply Kd.R_drew)); exact (Kd.R_mono (Kd.R_far (p := ⟨gb163, 2, none⟩) (Kd.R_far (p := ⟨gb163, 1, none⟩) (Kd.R_far (p := ⟨gb163, 0, none⟩) (Kd.R_types HO161.out BK163.out (by decide)) (fun _ hk => hk.2) (.int .i64 t157)) (fun _ hk => hk.2) (.int .i64 t158)) (fun _ hk => hk.2) (.slice Ao35 t159.length co35)) (fun _ h_ => h_.1))))) (below_size (bw_ HB))); replace HO_4 := Aside0.mk (Kd.S_elder' (by (with_reducible repeat (first | apply Kd.S_alloc | apply Kd.S_drewN | apply Kd.S_drew)); exact (Kd.S_mono (Kd.S_far (p := ⟨gb163, 2, none⟩) (Kd.S_far (p := ⟨gb163, 1, none⟩) (Kd.S_far (p := ⟨gb163, 0, none⟩) (Kd.S_mono HO_4.out (fun k_ hk => (⟨hk, hk.2⟩ : _ ∧ k_ ≠ gb163))) (fun _ hk => hk.2) (.int .i64 t157)) (fun _ hk => hk.2) (.int .i64 t158)) (fun _ hk => hk.2) (.slice Ao35 t159.length co35)) (fun _ h_ => h_.1))) (Kd.R_base ho0) hb); replace HO161 := Aside0.mk (Kd.R_elder' (by (with_reducible repeat (first | apply Kd.R_alloc | apply Kd.R_drewN | apply Kd.R_drew)); exact (Kd.R_mono (Kd.R_far (p := ⟨gb163, 2, none⟩) (Kd.R_far (p := ⟨gb163, 1, none⟩) (Kd.R_far (p := ⟨gb163, 0, none⟩) (Kd.R_types HO161.out BK163.out (by decide)) (fun _ hk => hk.2) (.int .i64 t157)) (fun _ hk => hk.2) (.int .i64 t158)) (fun _ hk => hk.2) (.slice Ao35 t159.length co35)) (fun _ h_ => h_.1))) (Kd.R_base ho0) hb); replace BK144 := Aside0.mk (blk_below (g := gb144) (o := .cells #[.int .i64 x145000_1, .int .i64 x145001_1, .slice none 0 0] 24 (0, 0)) (by (with_reducible repeat (first | refine k_n ?_ _ | refine k_d ?_ | refine k_a ?_ _)); refine blk_far ?_ NB144_163.out _; (with_reducible repeat (first | refine k_n ?_ _ | refine k_d ?_ | refine k_a ?_ _)); refine blk_far ?_ NB144_163.out _; (with_reducible repeat (first | refine k_n ?_ _ | refine k_d ?_ | refine k_a ?_ _)); refine blk_far ?_ NB144_163.out _; (with_reducible repeat (first | refine k_n ?_ _ | refine k_d ?_ | refine k_a ?_ _)); exact BK144.out) hb); replace BK163 := Aside0.mk (blk_below (g := gb163) (o := .cells #[.int .i64 t157, .int .i64 t158, .slice Ao35 t159.length co35] 24 (0, 0)) (by (with_reducible repeat (first | refine k_n ?_ _ | refine k_d ?_ | refine k_a ?_ _)); refine blk_put (cs := #[.int .i64 t157, .int .i64 t158, .slice none 0 0]) ?_ 2 _ rfl; (with_reducible repeat (first | refine k_n ?_ _ | refine k_d ?_ | refine k_a ?_ _)); refine blk_put (cs := #[.int .i64 t157, .int .i64 0, .slice none 0 0]) ?_ 1 _ rfl; (with_reducible repeat (first | refine k_n ?_ _ | refine k_d ?_ | refine k_a ?_ _)); refine blk_put (cs := #[.int .i64 0, .int .i64 0, .slice none 0 0]) ?_ 0 _ rfl; (with_reducible repeat (first | refine k_n ?_ _ | refine k_d ?_ | refine k_a ?_ _)); exact BK163.out) hb); replace HB := Aside0.mk (below_step (bw_ HB) hb); (try clear hb); (try clear hb2); (try clear hk); (try clear hi); (try clear ho0); have hcz37_0 := bc_0 BK144; have hcz37_1 := bc_1 BK144; have hcz37_2 := bc_2 BK144; have hfz37_0 := blk_frozen BK144.out 0; have hfz37_1 := blk_frozen BK144.out 1; have hfz37_2 := blk_frozen BK144.out 2; obtain ⟨Ao38, co38, eo38⟩ := Kd.R_slice HO168.out; subst eo38))
    refine bodyPost_ret (results_ct rfl _ _ gb144 24 #[.int .i64 t164, .int .i64 t165, .slice Ao38 t166.length co38] (0, 0) _ rfl (by (with_reducible repeat (first | refine k_n ?_ _ | refine k_d ?_ | refine k_a ?_ _)); refine blk_put (cs := #[.int .i64 t164, .int .i64 t165, .slice none 0 0]) ?_ 2 _ rfl; (with_reducible repeat (first | refine k_n ?_ _ | refine k_d ?_ | refine k_a ?_ _)); refine blk_put (cs := #[.int .i64 t164, .int .i64 x145001_1, .slice none 0 0]) ?_ 1 _ rfl; (with_reducible repeat (first | refine k_n ?_ _ | refine k_d ?_ | refine k_a ?_ _)); refine blk_put (cs := #[.int .i64 x145000_1, .int .i64 x145001_1, .slice none 0 0]) ?_ 0 _ rfl; (with_reducible repeat (first | refine k_n ?_ _ | refine k_d ?_ | refine k_a ?_ _)); exact BK144.out) Try.underlying24 rfl (by kernel_rfl)) rfl ?_
    exact ⟨_, by first | rfl | (simp [errW_none, errW_some] <;> rfl) | (simp [*, errW_none, errW_some] <;> rfl), by (with_reducible repeat (first | apply Kd.R_alloc | apply Kd.R_drewN | apply Kd.R_drew)); exact Kd.R_mono (Kd.R_far (p := ⟨gb144, 2, none⟩) (Kd.R_far (p := ⟨gb144, 1, none⟩) (Kd.R_far (p := ⟨gb144, 0, none⟩) (Kd.R_types HO168.out BK144.out (by decide)) (fun _ hk => hk.2) (.int .i64 t164)) (fun _ hk => hk.2) (.int .i64 t165)) (fun _ hk => hk.2) (.slice Ao38 t166.length co38)) (fun _ hk => trivial), by repeat (first | (with_reducible first | exact HB.out | apply b_a | apply b_n | apply b_d | refine b_s ?_ GE144.out | refine b_s ?_ GE163.out) | exact HB.out)⟩
   rw [if_pos c7] at H
   have c7b0 : decide (x15_1 < (l0.length : Int)) = true := decide_eq_true c7
   clear c7
   by_cases c8 : 0 ≤ x15_1
   rotate_left
   ·
    rw [if_neg c8] at H
    exact absurd H (by simp)
   rw [if_pos c8] at H
   have c8b0 : decide (0 ≤ x15_1) = true := decide_eq_true c8
   clear c8
   by_cases c9 : x15_1 < (l0.length : Int)
   rotate_left
   ·
    rw [if_neg c9] at H
    exact absurd H (by simp)
   rw [if_pos c9] at H
   have c9b0 : decide (x15_1 < (l0.length : Int)) = true := decide_eq_true c9
   clear c9
   replace H := Option.bind_eq_some_iff.mp H
   obtain ⟨⟨t150, t151, t152, t155⟩, A100, H⟩ := H
   replace H : (if x15_1 < (x4_1.length : Int) then (if t155 = 0 then (grid_Beside.l0 k1 (x4_1.set (x15_1 : Int).toNat (⟨t150, t151, t152⟩ : S24)) l0 (l0.length : Int) (wrap64 (x15_1 + 1))) else (some (0, 0, ([] : List Int), t155))) else (none)) = some (r1, r2, r3, r4) := H
   have A10 := Aside0.mk A100
   clear A100
   by_cases c11 : x15_1 < (x4_1.length : Int)
   rotate_left
   ·
    rw [if_neg c11] at H
    exact absurd H (by simp)
   rw [if_pos c11] at H
   have c11b0 : decide (x15_1 < (x4_1.length : Int)) = true := decide_eq_true c11
   clear c11
   obtain ⟨y156, hy156⟩ : ∃ y_ : List (S24), y_ = (x4_1.set (x15_1 : Int).toNat (⟨t150, t151, t152⟩ : S24)) := ⟨_, rfl⟩
   replace H : (if t155 = 0 then (grid_Beside.l0 k1 y156 l0 (l0.length : Int) (wrap64 (x15_1 + 1))) else (some (0, 0, ([] : List Int), t155))) = some (r1, r2, r3, r4) := by first | (rw [hy156]; with_reducible exact H) | (have H2_ := (Option.bind_some _ _).symm.trans H; rw [hy156]; with_reducible exact H2_) | (have H2_ := (Option.bind_some _ _).symm.trans H; with_reducible exact H2_) | with_reducible exact H | (rw [hy156]; exact H) | exact H
   have Ny156 := Aside0.mk hy156
   clear hy156
   by_cases c13 : t155 = 0
   ·
    rw [if_pos c13] at H
    have c13b0 : (t155 == 0) = true := beq_iff_eq.mpr c13
    have c13b1 : (t155 != 0) = false := bne_eq_false_iff_eq.mpr c13
    clear c13
    have H' := Aside0.mk H
    clear H
    have p148 : 0 ≤ (x15_1 : Int) := of_decide_eq_true (by first | (with_reducible assumption) | assumption)
    have q148 : x15_1 < (l0.length : Int) := of_decide_eq_true (by first | (with_reducible assumption) | assumption)
    obtain ⟨ad148, A148_2, c148_2, e148, hx148_0, hx148_1, hx148_2, hl148_2, hi148_2⟩ := at_T24 HR0.out x15_1 p148 q148
    cases e148
    replace hx148_0 := cb_ HB hx148_0
    replace hx148_1 := cb_ HB hx148_1
    replace hx148_2 := cb_ HB hx148_2
    have HR148_2 := Aside0.mk hi148_2
    have HC148_2 := Aside0.mk hl148_2
    clear hi148_2 hl148_2
    replace p148 := eq_true p148
    replace q148 := eq_true q148
    go_wp2_with (first | ((with_reducible refine gate_dst (N := 6) rfl ?_); refine box_event ?hg (N := 6) ?hd (cs := #[.int .i64 0, .int .i64 0, .slice none 0 0]) (t := 24) ?hr ?_; (case hd => rfl); (case hg => rfl); (case hr => first | (go_simp; done) | (go_simp; rfl)); intro gb149 hg w14 hbox hb; have BK149 := Aside0.mk (hbox); have GW149 := Aside0.mk ((by rw [hg]; exact (below_size (bw_ HB)) : w.heap.size ≤ gb149)); have GE149 := Aside0.mk ((by rw [hg]; exact (below_size (bw_ HB)) : w.heap.size ≤ gb149)); have NB144_149 := Aside0.mk ((by rw [hg]; exact Nat.ne_of_lt (blk_lt (tk_ BK144)) : gb144 ≠ gb149)); have NB149_144 := Aside0.mk ((by rw [hg]; exact Nat.ne_of_gt (blk_lt (tk_ BK144)) : gb149 ≠ gb144)); replace HO_4 := Aside0.mk (Kd.S_below (Kd.S_elderB (tS_ HO_4) gb149 (Nat.le_of_eq hg.symm)) hb); replace BK144 := Aside0.mk (blk_below (tk_ BK144) hb); replace HB := Aside0.mk (below_step (bw_ HB) hb); clear hb hbox hg; have hnb15 := NB149_144.out; have hnc15 := NB144_149.out; have hcz16_0 := bc_0 BK149; have hcz16_1 := bc_1 BK149; have hcz16_2 := bc_2 BK149; have hfz16_0 := blk_frozen BK149.out 0; have hfz16_1 := blk_frozen BK149.out 1; have hfz16_2 := blk_frozen BK149.out 2) | ((with_reducible refine gate_callee (f := 22) rfl ?_); refine goesL_ (some 24) rfl rfl Try.func22 (by kernel_rfl) rfl #[.agg #[.int .i64 ((rd_T24 l0 x15_1).f0), .int .i64 ((rd_T24 l0 x15_1).f1), .slice A148_2 ((rd_T24 l0 x15_1).f2).length c148_2]] rfl (by (try simp only [l_4, l_5, l_6]); first | done | rfl | (simp only [l_7, l_8]; rfl)) ?_; (with_reducible refine (grid_Turn.calls k1 ((rd_T24 l0 x15_1).f0) ((rd_T24 l0 x15_1).f1) _ _ ((rd_T24 l0 x15_1).f2) t150 t151 t152 t155 _ ?side1 ?side2 A10.out).mono ?_); (case side1 => exact Kd.C_below HR148_2.out (bw_ HB)); (case side2 => exact HC148_2.out); rintro e w17 ⟨v153, rfl, ho0, hb⟩; (try clear A10); refine ⟨_, rfl, ?_⟩; have HO154 := Aside0.mk (Kd.R_lower ho0 (below_size (bw_ HB))); replace HO_4 := Aside0.mk (Kd.S_elder' (by (with_reducible repeat (first | apply Kd.S_alloc | apply Kd.S_drewN | apply Kd.S_drew)); exact (Kd.S_mono (Kd.S_far (p := ⟨gb149, 2, none⟩) (Kd.S_far (p := ⟨gb149, 1, none⟩) (Kd.S_far (p := ⟨gb149, 0, none⟩) (Kd.S_mono HO_4.out (fun k_ hk => (⟨hk, hk.2⟩ : _ ∧ k_ ≠ gb149))) (fun _ hk => hk.2) (.int .i64 ((rd_T24 l0 x15_1).f0))) (fun _ hk => hk.2) (.int .i64 ((rd_T24 l0 x15_1).f1))) (fun _ hk => hk.2) (.slice A148_2 ((rd_T24 l0 x15_1).f2).length c148_2)) (fun _ h_ => h_.1))) (Kd.R_base ho0) hb); replace BK144 := Aside0.mk (blk_below (g := gb144) (o := .cells #[.int .i64 x145000_1, .int .i64 x145001_1, .slice none 0 0] 24 (0, 0)) (by (with_reducible repeat (first | refine k_n ?_ _ | refine k_d ?_ | refine k_a ?_ _)); refine blk_far ?_ NB144_149.out _; (with_reducible repeat (first | refine k_n ?_ _ | refine k_d ?_ | refine k_a ?_ _)); refine blk_far ?_ NB144_149.out _; (with_reducible repeat (first | refine k_n ?_ _ | refine k_d ?_ | refine k_a ?_ _)); refine blk_far ?_ NB144_149.out _; (with_reducible repeat (first | refine k_n ?_ _ | refine k_d ?_ | refine k_a ?_ _)); exact BK144.out) hb); replace BK149 := Aside0.mk (blk_below (g := gb149) (o := .cells #[.int .i64 ((rd_T24 l0 x15_1).f0), .int .i64 ((rd_T24 l0 x15_1).f1), .slice A148_2 ((rd_T24 l0 x15_1).f2).length c148_2] 24 (0, 0)) (by (with_reducible repeat (first | refine k_n ?_ _ | refine k_d ?_ | refine k_a ?_ _)); refine blk_put (cs := #[.int .i64 ((rd_T24 l0 x15_1).f0), .int .i64 ((rd_T24 l0 x15_1).f1), .slice none 0 0]) ?_ 2 _ rfl; (with_reducible repeat (first | refine k_n ?_ _ | refine k_d ?_ | refine k_a ?_ _)); refine blk_put (cs := #[.int .i64 ((rd_T24 l0 x15_1).f0), .int .i64 0, .slice none 0 0]) ?_ 1 _ rfl; (with_reducible repeat (first | refine k_n ?_ _ | refine k_d ?_ | refine k_a ?_ _)); refine blk_put (cs := #[.int .i64 0, .int .i64 0, .slice none 0 0]) ?_ 0 _ rfl; (with_reducible repeat (first | refine k_n ?_ _ | refine k_d ?_ | refine k_a ?_ _)); exact BK149.out) hb); replace HB := Aside0.mk (below_step (bw_ HB) hb); (try clear hb); (try clear hb2); (try clear hk); (try clear hi); (try clear ho0); have p12 : 0 ≤ (x15_1 : Int) := of_decide_eq_true (by first | (with_reducible assumption) | assumption); have q12 : (x15_1 : Int) < ((x4_1.length : Int) : Int) := of_decide_eq_true (by first | (with_reducible assumption) | assumption); obtain ⟨go12, co12, eo12, gb12, gl12, cl12, HG12⟩ := Kd.S_form HO_4.out (by omega); (first | cases eo12 | (injection eo12 with ea_ en_ ec_; (first | subst ea_ | (injection ea_ with ea_; subst ea_)); subst ec_; clear en_)); have GB12 := Aside0.mk gb12; have GG12 := Aside0.mk HG12; clear gb12 gl12 HG12; obtain ⟨_, ce12, hcl12, hM12, hcc12, hfr12, _, _⟩ := Kd.S_elem HO_4.out z24 (x15_1 : Int) p12 q12; obtain ⟨ve12_2, rfl, ge12_2⟩ := k24_openM hM12; have hx12_0 : w17.cell? ⟨go12, (x15_1 : Int).toNat * 3, none⟩ = some (.int .i64 ((rd_T24 x4_1 x15_1).f0)) := hcc12 0 _ rfl; have hx12_1 : w17.cell? ⟨go12, (x15_1 : Int).toNat * 3 + 1, none⟩ = some (.int .i64 ((rd_T24 x4_1 x15_1).f1)) := hcc12 1 _ rfl; have hx12_2 : w17.cell? ⟨go12, (x15_1 : Int).toNat * 3 + 2, none⟩ = some (ve12_2) := hcc12 2 _ rfl; have hf12_0 : w17.frozen? ⟨go12, (x15_1 : Int).toNat * 3, none⟩ = false := hfr12 0; have hf12_1 : w17.frozen? ⟨go12, (x15_1 : Int).toNat * 3 + 1, none⟩ = false := hfr12 1; have hf12_2 : w17.frozen? ⟨go12, (x15_1 : Int).toNat * 3 + 2, none⟩ = false := hfr12 2; clear hcl12 hcc12 hfr12 hM12; replace p12 := eq_true p12; replace q12 := eq_true q12; have n_ := Aside0.mk (Kd.S_mono (ok' := (fun k_ => some k_ ≠ (v153 : Value).ownBlock ∧ k_ ≠ gb144 ∧ k_ ≠ gb149)) HO_4.out (fun k_ hk => ⟨hk.2, ⟨hk.1.1, hk.1.2⟩⟩)); clear HO_4; have HO_4 := n_; clear n_; have HX18 := Aside0.mk (show Kd.S k24 24 w17 w.heap.size (fun k_ => ((fun k_ => k_ ≠ gb144 ∧ k_ ≠ gb149)) k_ ∧ ¬ ((fun k_ => some k_ = (v153 : Value).ownBlock)) k_) (.slice (some ⟨go12, 0, none⟩) x4_1.length co12) x4_1 from (by (with_reducible repeat (first | apply Kd.S_alloc | apply Kd.S_drewN | apply Kd.S_drew)); exact Kd.S_mono HO_4.out (fun k_ hk => ⟨⟨hk.2.1, hk.2.2⟩, fun e_ => hk.1 e_⟩))); obtain ⟨oki18, ce18, hcl18, hM18, hcc18, hfr18, hoki18, hH18⟩ := Kd.S_elem HX18.out z24 (x15_1 : Int) (of_decide_eq_true (by first | (with_reducible assumption) | assumption)) (by have h_ : (x15_1 : Int) < ((x4_1.length : Int) : Int) := of_decide_eq_true (by first | (with_reducible assumption) | assumption); first | exact h_ | (have e_ := (Kd.S_reads' HO_4.out).1; omega) | simpa using h_); obtain ⟨ve18_2, rfl, ge18_2⟩ := k24_openM hM18; have HP18 := Kd.S_seg hH18 (of_decide_eq_true (by first | (with_reducible assumption) | assumption)) (by have h_ : (x15_1 : Int) < ((x4_1.length : Int) : Int) := of_decide_eq_true (by first | (with_reducible assumption) | assumption); first | exact h_ | (have e_ := (Kd.S_reads' HO_4.out).1; omega) | simpa using h_) (seg := [.int .i64 t150, .int .i64 t151, v153]) (j := 0) (show 3 ≤ 3 from by decide) (x' := (⟨t150, t151, t152⟩ : S24)) (k24_mkM _ _ _ (⟨t150, t151, t152⟩ : S24) (Kd.R_mono (Kd.R_tight rfl (Kd.R_mono (ok' := fun k_ => ((fun k_ => k_ ≠ gb144 ∧ k_ ≠ gb149)) k_ ∧ k_ ≠ go12) (Kd.R_types (Kd.R_types (Kd.R_apart' (HO154.out) (Kd.S_typed HO_4.out) (by decide)) BK144.out (by decide)) BK149.out (by decide)) (fun k_ hk => ⟨⟨hk.1.2, hk.2⟩, fun e_ => (hk.1.1.2) (by rw [e_]; rfl)⟩))) (fun _ h_ => Or.inr (h_)))) (fun _ hk => hk) (fun k_ hk_ => ((Kd.R_mono (ok' := fun k_ => ((fun k_ => k_ ≠ gb144 ∧ k_ ≠ gb149)) k_ ∧ k_ ≠ go12) (Kd.R_types (Kd.R_types (Kd.R_apart' (HO154.out) (Kd.S_typed HO_4.out) (by decide)) BK144.out (by decide)) BK149.out (by decide)) (fun k_ hk => ⟨⟨hk.1.2, hk.2⟩, fun e_ => (hk.1.1.2) (by rw [e_]; rfl)⟩))).1 k_ hk_.symm); have hx18_0 := hcc18 0 _ rfl; (try simp only [show (k24).sz = 3 from rfl, Nat.mul_one, Nat.add_zero] at hx18_0); have hf18_0 := hfr18 0; (try simp only [show (k24).sz = 3 from rfl, Nat.mul_one, Nat.add_zero] at hf18_0); have hx18_1 := hcc18 1 _ rfl; (try simp only [show (k24).sz = 3 from rfl, Nat.mul_one, Nat.add_zero] at hx18_1); have hf18_1 := hfr18 1; (try simp only [show (k24).sz = 3 from rfl, Nat.mul_one, Nat.add_zero] at hf18_1); have hx18_2 := hcc18 2 _ rfl; (try simp only [show (k24).sz = 3 from rfl, Nat.mul_one, Nat.add_zero] at hx18_2); have hf18_2 := hfr18 2; (try simp only [show (k24).sz = 3 from rfl, Nat.mul_one, Nat.add_zero] at hf18_2); clear hcl18 hcc18 hfr18 hM18 hoki18 hH18) | ((with_reducible refine gate_store (t := 24) (p := 27) rfl ?_); refine store_event (t := 24) (p := 27) (v := ?vo_w19) (w1 := (((w17.setCell ⟨go12, (x15_1 : Int).toNat * 3, none⟩ (.int .i64 t150)).setCell ⟨go12, (x15_1 : Int).toNat * 3 + 1, none⟩ (.int .i64 t151)).setCell ⟨go12, (x15_1 : Int).toNat * 3 + 2, none⟩ (v153))) ?hg ?ho ?hn ?hr ?_; (case ho => rfl); (case hg => rfl); (case hn => rfl); (case hr => first | (go_simp; done) | (obtain ⟨_, _, eo_⟩ := Kd.R_slice HO154.out; subst eo_; first | (go_simp; done) | (go_simp; rfl)) | (go_simp; rfl)); intro w19 hw; have hg : w17.grownBy w19 (some go12) := (by rw [hw]; exact HP18.2); have hp_ : Kd.S k24 24 w19 w.heap.size (fun k_ => k_ ≠ gb144 ∧ k_ ≠ gb149) (.slice (some ⟨go12, 0, none⟩) x4_1.length co12) y156 := (by rw [hw, Ny156.out]; exact HP18.1); clear HP18; have n0_ := Aside0.mk (hp_); have n1_ := Aside0.mk (blk_grown (tk_ BK144) hg (Kd.S_away HO_4.out (fun _ hk => hk.2.1))); have n2_ := Aside0.mk (blk_grown (tk_ BK149) hg (Kd.S_away HO_4.out (fun _ hk => hk.2.2))); have n3_ := Aside0.mk ((by rw [hw]; exact b_s (b_s (b_s (HB.out) GB12.out) GB12.out) GB12.out : Below w.heap.size w w19)); clear HO_4; clear BK144; clear BK149; clear HB; clear HO154; have HO_4 := n0_; have BK144 := n1_; have BK149 := n2_; have HB := n3_; clear n0_ n1_ n2_ n3_; clear hg hw hp_))
    go_roundg k1
    case measure => have := HK1.out; omega
    case rel => exact ⟨(y156), (wrap64 (x15_1 + 1)), (x145000_1), (x145001_1), (by first | rfl | (simp; done) | (simp [*]; done)), H', ⟨by have := HK1.out; omega⟩, ⟨by (with_reducible repeat (first | apply Kd.S_alloc | apply Kd.S_drewN | apply Kd.S_drew)); exact Kd.S_mono HO_4.out (fun _ hk => hk.1)⟩, ⟨tk_ BK144⟩, ⟨by repeat (first | (with_reducible first | exact HB.out | apply b_a | apply b_n | apply b_d | refine b_s ?_ GE144.out | refine b_s ?_ GE149.out) | exact HB.out)⟩⟩
   rw [if_neg c13] at H
   have c13b0 : (t155 == 0) = false := beq_eq_false_iff_ne.mpr c13
   have c13b1 : (t155 != 0) = true := bne_iff_ne.mpr c13
   simp only [Option.some.injEq, Prod.mk.injEq] at H
   obtain ⟨rfl, rfl, rfl, rfl⟩ := H
   have p148 : 0 ≤ (x15_1 : Int) := of_decide_eq_true (by first | (with_reducible assumption) | assumption)
   have q148 : x15_1 < (l0.length : Int) := of_decide_eq_true (by first | (with_reducible assumption) | assumption)
   obtain ⟨ad148, A148_2, c148_2, e148, hx148_0, hx148_1, hx148_2, hl148_2, hi148_2⟩ := at_T24 HR0.out x15_1 p148 q148
   cases e148
   replace hx148_0 := cb_ HB hx148_0
   replace hx148_1 := cb_ HB hx148_1
   replace hx148_2 := cb_ HB hx148_2
   have HR148_2 := Aside0.mk hi148_2
   have HC148_2 := Aside0.mk hl148_2
   clear hi148_2 hl148_2
   replace p148 := eq_true p148
   replace q148 := eq_true q148
   go_wp2_with (first | ((with_reducible refine gate_dst (N := 6) rfl ?_); refine box_event ?hg (N := 6) ?hd (cs := #[.int .i64 0, .int .i64 0, .slice none 0 0]) (t := 24) ?hr ?_; (case hd => rfl); (case hg => rfl); (case hr => first | (go_simp; done) | (go_simp; rfl)); intro gb149 hg w20 hbox hb; have BK149 := Aside0.mk (hbox); have GW149 := Aside0.mk ((by rw [hg]; exact (below_size (bw_ HB)) : w.heap.size ≤ gb149)); have GE149 := Aside0.mk ((by rw [hg]; exact (below_size (bw_ HB)) : w.heap.size ≤ gb149)); have NB144_149 := Aside0.mk ((by rw [hg]; exact Nat.ne_of_lt (blk_lt (tk_ BK144)) : gb144 ≠ gb149)); have NB149_144 := Aside0.mk ((by rw [hg]; exact Nat.ne_of_gt (blk_lt (tk_ BK144)) : gb149 ≠ gb144)); replace HO_4 := Aside0.mk (Kd.S_below (Kd.S_elderB (tS_ HO_4) gb149 (Nat.le_of_eq hg.symm)) hb); replace BK144 := Aside0.mk (blk_below (tk_ BK144) hb); replace HB := Aside0.mk (below_step (bw_ HB) hb); clear hb hbox hg; have hnb21 := NB149_144.out; have hnc21 := NB144_149.out; have hcz22_0 := bc_0 BK149; have hcz22_1 := bc_1 BK149; have hcz22_2 := bc_2 BK149; have hfz22_0 := blk_frozen BK149.out 0; have hfz22_1 := blk_frozen BK149.out 1; have hfz22_2 := blk_frozen BK149.out 2) | ((with_reducible refine gate_callee (f := 22) rfl ?_); refine goesL_ (some 24) rfl rfl Try.func22 (by kernel_rfl) rfl #[.agg #[.int .i64 ((rd_T24 l0 x15_1).f0), .int .i64 ((rd_T24 l0 x15_1).f1), .slice A148_2 ((rd_T24 l0 x15_1).f2).length c148_2]] rfl (by (try simp only [l_4, l_5, l_6]); first | done | rfl | (simp only [l_7, l_8]; rfl)) ?_; (with_reducible refine (grid_Turn.calls k1 ((rd_T24 l0 x15_1).f0) ((rd_T24 l0 x15_1).f1) _ _ ((rd_T24 l0 x15_1).f2) t150 t151 t152 t155 _ ?side1 ?side2 A10.out).mono ?_); (case side1 => exact Kd.C_below HR148_2.out (bw_ HB)); (case side2 => exact HC148_2.out); rintro e w23 ⟨v153, rfl, ho0, hb⟩; (try clear A10); refine ⟨_, rfl, ?_⟩; have HO154 := Aside0.mk (Kd.R_lower ho0 (below_size (bw_ HB))); replace HO_4 := Aside0.mk (Kd.S_elder' (by (with_reducible repeat (first | apply Kd.S_alloc | apply Kd.S_drewN | apply Kd.S_drew)); exact (Kd.S_mono (Kd.S_far (p := ⟨gb149, 2, none⟩) (Kd.S_far (p := ⟨gb149, 1, none⟩) (Kd.S_far (p := ⟨gb149, 0, none⟩) (Kd.S_mono HO_4.out (fun k_ hk => (⟨hk, hk.2⟩ : _ ∧ k_ ≠ gb149))) (fun _ hk => hk.2) (.int .i64 ((rd_T24 l0 x15_1).f0))) (fun _ hk => hk.2) (.int .i64 ((rd_T24 l0 x15_1).f1))) (fun _ hk => hk.2) (.slice A148_2 ((rd_T24 l0 x15_1).f2).length c148_2)) (fun _ h_ => h_.1))) (Kd.R_base ho0) hb); replace BK144 := Aside0.mk (blk_below (g := gb144) (o := .cells #[.int .i64 x145000_1, .int .i64 x145001_1, .slice none 0 0] 24 (0, 0)) (by (with_reducible repeat (first | refine k_n ?_ _ | refine k_d ?_ | refine k_a ?_ _)); refine blk_far ?_ NB144_149.out _; (with_reducible repeat (first | refine k_n ?_ _ | refine k_d ?_ | refine k_a ?_ _)); refine blk_far ?_ NB144_149.out _; (with_reducible repeat (first | refine k_n ?_ _ | refine k_d ?_ | refine k_a ?_ _)); refine blk_far ?_ NB144_149.out _; (with_reducible repeat (first | refine k_n ?_ _ | refine k_d ?_ | refine k_a ?_ _)); exact BK144.out) hb); replace BK149 := Aside0.mk (blk_below (g := gb149) (o := .cells #[.int .i64 ((rd_T24 l0 x15_1).f0), .int .i64 ((rd_T24 l0 x15_1).f1), .slice A148_2 ((rd_T24 l0 x15_1).f2).length c148_2] 24 (0, 0)) (by (with_reducible repeat (first | refine k_n ?_ _ | refine k_d ?_ | refine k_a ?_ _)); refine blk_put (cs := #[.int .i64 ((rd_T24 l0 x15_1).f0), .int .i64 ((rd_T24 l0 x15_1).f1), .slice none 0 0]) ?_ 2 _ rfl; (with_reducible repeat (first | refine k_n ?_ _ | refine k_d ?_ | refine k_a ?_ _)); refine blk_put (cs := #[.int .i64 ((rd_T24 l0 x15_1).f0), .int .i64 0, .slice none 0 0]) ?_ 1 _ rfl; (with_reducible repeat (first | refine k_n ?_ _ | refine k_d ?_ | refine k_a ?_ _)); refine blk_put (cs := #[.int .i64 0, .int .i64 0, .slice none 0 0]) ?_ 0 _ rfl; (with_reducible repeat (first | refine k_n ?_ _ | refine k_d ?_ | refine k_a ?_ _)); exact BK149.out) hb); replace HB := Aside0.mk (below_step (bw_ HB) hb); (try clear hb); (try clear hb2); (try clear hk); (try clear hi); (try clear ho0); have p12 : 0 ≤ (x15_1 : Int) := of_decide_eq_true (by first | (with_reducible assumption) | assumption); have q12 : (x15_1 : Int) < ((x4_1.length : Int) : Int) := of_decide_eq_true (by first | (with_reducible assumption) | assumption); obtain ⟨go12, co12, eo12, gb12, gl12, cl12, HG12⟩ := Kd.S_form HO_4.out (by omega); (first | cases eo12 | (injection eo12 with ea_ en_ ec_; (first | subst ea_ | (injection ea_ with ea_; subst ea_)); subst ec_; clear en_)); have GB12 := Aside0.mk gb12; have GG12 := Aside0.mk HG12; clear gb12 gl12 HG12; obtain ⟨_, ce12, hcl12, hM12, hcc12, hfr12, _, _⟩ := Kd.S_elem HO_4.out z24 (x15_1 : Int) p12 q12; obtain ⟨ve12_2, rfl, ge12_2⟩ := k24_openM hM12; have hx12_0 : w23.cell? ⟨go12, (x15_1 : Int).toNat * 3, none⟩ = some (.int .i64 ((rd_T24 x4_1 x15_1).f0)) := hcc12 0 _ rfl; have hx12_1 : w23.cell? ⟨go12, (x15_1 : Int).toNat * 3 + 1, none⟩ = some (.int .i64 ((rd_T24 x4_1 x15_1).f1)) := hcc12 1 _ rfl; have hx12_2 : w23.cell? ⟨go12, (x15_1 : Int).toNat * 3 + 2, none⟩ = some (ve12_2) := hcc12 2 _ rfl; have hf12_0 : w23.frozen? ⟨go12, (x15_1 : Int).toNat * 3, none⟩ = false := hfr12 0; have hf12_1 : w23.frozen? ⟨go12, (x15_1 : Int).toNat * 3 + 1, none⟩ = false := hfr12 1; have hf12_2 : w23.frozen? ⟨go12, (x15_1 : Int).toNat * 3 + 2, none⟩ = false := hfr12 2; clear hcl12 hcc12 hfr12 hM12; replace p12 := eq_true p12; replace q12 := eq_true q12; have n_ := Aside0.mk (Kd.S_mono (ok' := (fun k_ => some k_ ≠ (v153 : Value).ownBlock ∧ k_ ≠ gb144 ∧ k_ ≠ gb149)) HO_4.out (fun k_ hk => ⟨hk.2, ⟨hk.1.1, hk.1.2⟩⟩)); clear HO_4; have HO_4 := n_; clear n_; have HX24 := Aside0.mk (show Kd.S k24 24 w23 w.heap.size (fun k_ => ((fun k_ => k_ ≠ gb144 ∧ k_ ≠ gb149)) k_ ∧ ¬ ((fun k_ => some k_ = (v153 : Value).ownBlock)) k_) (.slice (some ⟨go12, 0, none⟩) x4_1.length co12) x4_1 from (by (with_reducible repeat (first | apply Kd.S_alloc | apply Kd.S_drewN | apply Kd.S_drew)); exact Kd.S_mono HO_4.out (fun k_ hk => ⟨⟨hk.2.1, hk.2.2⟩, fun e_ => hk.1 e_⟩))); obtain ⟨oki24, ce24, hcl24, hM24, hcc24, hfr24, hoki24, hH24⟩ := Kd.S_elem HX24.out z24 (x15_1 : Int) (of_decide_eq_true (by first | (with_reducible assumption) | assumption)) (by have h_ : (x15_1 : Int) < ((x4_1.length : Int) : Int) := of_decide_eq_true (by first | (with_reducible assumption) | assumption); first | exact h_ | (have e_ := (Kd.S_reads' HO_4.out).1; omega) | simpa using h_); obtain ⟨ve24_2, rfl, ge24_2⟩ := k24_openM hM24; have HP24 := Kd.S_seg hH24 (of_decide_eq_true (by first | (with_reducible assumption) | assumption)) (by have h_ : (x15_1 : Int) < ((x4_1.length : Int) : Int) := of_decide_eq_true (by first | (with_reducible assumption) | assumption); first | exact h_ | (have e_ := (Kd.S_reads' HO_4.out).1; omega) | simpa using h_) (seg := [.int .i64 t150, .int .i64 t151, v153]) (j := 0) (show 3 ≤ 3 from by decide) (x' := (⟨t150, t151, t152⟩ : S24)) (k24_mkM _ _ _ (⟨t150, t151, t152⟩ : S24) (Kd.R_mono (Kd.R_tight rfl (Kd.R_mono (ok' := fun k_ => ((fun k_ => k_ ≠ gb144 ∧ k_ ≠ gb149)) k_ ∧ k_ ≠ go12) (Kd.R_types (Kd.R_types (Kd.R_apart' (HO154.out) (Kd.S_typed HO_4.out) (by decide)) BK144.out (by decide)) BK149.out (by decide)) (fun k_ hk => ⟨⟨hk.1.2, hk.2⟩, fun e_ => (hk.1.1.2) (by rw [e_]; rfl)⟩))) (fun _ h_ => Or.inr (h_)))) (fun _ hk => hk) (fun k_ hk_ => ((Kd.R_mono (ok' := fun k_ => ((fun k_ => k_ ≠ gb144 ∧ k_ ≠ gb149)) k_ ∧ k_ ≠ go12) (Kd.R_types (Kd.R_types (Kd.R_apart' (HO154.out) (Kd.S_typed HO_4.out) (by decide)) BK144.out (by decide)) BK149.out (by decide)) (fun k_ hk => ⟨⟨hk.1.2, hk.2⟩, fun e_ => (hk.1.1.2) (by rw [e_]; rfl)⟩))).1 k_ hk_.symm); have hx24_0 := hcc24 0 _ rfl; (try simp only [show (k24).sz = 3 from rfl, Nat.mul_one, Nat.add_zero] at hx24_0); have hf24_0 := hfr24 0; (try simp only [show (k24).sz = 3 from rfl, Nat.mul_one, Nat.add_zero] at hf24_0); have hx24_1 := hcc24 1 _ rfl; (try simp only [show (k24).sz = 3 from rfl, Nat.mul_one, Nat.add_zero] at hx24_1); have hf24_1 := hfr24 1; (try simp only [show (k24).sz = 3 from rfl, Nat.mul_one, Nat.add_zero] at hf24_1); have hx24_2 := hcc24 2 _ rfl; (try simp only [show (k24).sz = 3 from rfl, Nat.mul_one, Nat.add_zero] at hx24_2); have hf24_2 := hfr24 2; (try simp only [show (k24).sz = 3 from rfl, Nat.mul_one, Nat.add_zero] at hf24_2); clear hcl24 hcc24 hfr24 hM24 hoki24 hH24) | ((with_reducible refine gate_store (t := 24) (p := 27) rfl ?_); refine store_event (t := 24) (p := 27) (v := ?vo_w25) (w1 := (((w23.setCell ⟨go12, (x15_1 : Int).toNat * 3, none⟩ (.int .i64 t150)).setCell ⟨go12, (x15_1 : Int).toNat * 3 + 1, none⟩ (.int .i64 t151)).setCell ⟨go12, (x15_1 : Int).toNat * 3 + 2, none⟩ (v153))) ?hg ?ho ?hn ?hr ?_; (case ho => rfl); (case hg => rfl); (case hn => rfl); (case hr => first | (go_simp; done) | (obtain ⟨_, _, eo_⟩ := Kd.R_slice HO154.out; subst eo_; first | (go_simp; done) | (go_simp; rfl)) | (go_simp; rfl)); intro w25 hw; have hg : w23.grownBy w25 (some go12) := (by rw [hw]; exact HP24.2); have hp_ : Kd.S k24 24 w25 w.heap.size (fun k_ => k_ ≠ gb144 ∧ k_ ≠ gb149) (.slice (some ⟨go12, 0, none⟩) x4_1.length co12) y156 := (by rw [hw, Ny156.out]; exact HP24.1); clear HP24; have n0_ := Aside0.mk (hp_); have n1_ := Aside0.mk (blk_grown (tk_ BK144) hg (Kd.S_away HO_4.out (fun _ hk => hk.2.1))); have n2_ := Aside0.mk (blk_grown (tk_ BK149) hg (Kd.S_away HO_4.out (fun _ hk => hk.2.2))); have n3_ := Aside0.mk ((by rw [hw]; exact b_s (b_s (b_s (HB.out) GB12.out) GB12.out) GB12.out : Below w.heap.size w w25)); clear HO_4; clear BK144; clear BK149; clear HB; clear HO154; have HO_4 := n0_; have BK144 := n1_; have BK149 := n2_; have HB := n3_; clear n0_ n1_ n2_ n3_; clear hg hw hp_; have hcz26_0 := bc_0 BK144; have hcz26_1 := bc_1 BK144; have hcz26_2 := bc_2 BK144; have hfz26_0 := blk_frozen BK144.out 0; have hfz26_1 := blk_frozen BK144.out 1; have hfz26_2 := blk_frozen BK144.out 2))
   refine bodyPost_ret (results_ct rfl _ _ gb144 24 #[.int .i64 0, .int .i64 0, .slice none 0 0] (0, 0) _ rfl (by (with_reducible repeat (first | refine k_n ?_ _ | refine k_d ?_ | refine k_a ?_ _)); refine blk_put (cs := #[.int .i64 0, .int .i64 0, .slice none 0 0]) ?_ 2 _ rfl; (with_reducible repeat (first | refine k_n ?_ _ | refine k_d ?_ | refine k_a ?_ _)); refine blk_put (cs := #[.int .i64 0, .int .i64 x145001_1, .slice none 0 0]) ?_ 1 _ rfl; (with_reducible repeat (first | refine k_n ?_ _ | refine k_d ?_ | refine k_a ?_ _)); refine blk_put (cs := #[.int .i64 x145000_1, .int .i64 x145001_1, .slice none 0 0]) ?_ 0 _ rfl; (with_reducible repeat (first | refine k_n ?_ _ | refine k_d ?_ | refine k_a ?_ _)); exact BK144.out) Try.underlying24 rfl (by kernel_rfl)) rfl ?_
   exact ⟨_, by first | rfl | (simp [errW_none, errW_some] <;> rfl) | (simp [*, errW_none, errW_some] <;> rfl), by first | exact Kd.R_nil _ _ _ _ _ | exact Kd.N_nil _ _ _ _ _ | exact Kd.V_nil _ _ _ _ _ | exact Kd.Q_nil _ _ _ _ _ | exact Kd.S_nil _ _ _ _ _, by repeat (first | (with_reducible first | exact HB.out | apply b_a | apply b_n | apply b_d | refine b_s ?_ GE144.out | refine b_s ?_ GE149.out) | exact HB.out)⟩
/-! ### grid_cut: function 42 -/
def grid_cut.f (k : Nat) (a0_0 : Int) (a0_1 : Int) (l0_2 : List Int) (a1 : Int) (a2 : Int) (a3 : Int) : Option (Int) := (grid_fit.f k (([(⟨a0_0, a0_1, l0_2⟩ : S24)] : List (S24)))).bind fun t174 => (if t174 = true then (if a1 < 0 then (some 2) else (if a1 > a2 then (some 2) else (if a2 > a3 then (some 2) else (some 0)))) else (some 30))
theorem grid_cut.mono : ∀ a0 a1 a2 a3 a4 a5 k, LeO (grid_cut.f k a0 a1 a2 a3 a4 a5) (grid_cut.f (k + 1) a0 a1 a2 a3 a4 a5) := by
 intro a0 a1 a2 a3 a4 a5 k
 unfold grid_cut.f
 repeat' first
   | (with_reducible exact grid_fit.mono _ _)
   | (with_reducible exact LeO.refl _)
   | (with_reducible exact LeO.none _)
   | (with_reducible refine LeO.ite ?_ ?_)
   | (with_reducible refine LeO.bind ?_ (fun _ => ?_))
   | exact grid_fit.mono _ _
   | exact LeO.none _
   | refine LeO.ite ?_ ?_
   | refine LeO.bind ?_ (fun _ => ?_)
set_option maxHeartbeats 60000000 in
set_option maxRecDepth 100000 in
theorem grid_cut.calls (k : Nat) (a0_0 : Int) (a0_1 : Int) (P0_2_ : Nat → Prop) (A0_2 : Option Addr) (c0_2 : Nat) (l0_2 : List Int) (a1 : Int) (a2 : Int) (a3 : Int) (r : Int) (w : World) (hs0_2 : Kd.V (Kd.int .i32) 21 w w.heap.size (fun k_ => P0_2_ k_) (.slice A0_2 l0_2.length c0_2) l0_2) (h : grid_cut.f k a0_0 a0_1 l0_2 a1 a2 a3 = some r) :
  Calls Try.prog 42 #[.agg #[.int .i64 a0_0, .int .i64 a0_1, .slice A0_2 l0_2.length c0_2], .int .i64 a1, .int .i64 a2, .int .i64 a3] w fun e w' => e = .returned (.int .i64 r) ∧ Below w.heap.size w w' := by
 have hu24 := Try.underlying24
 have HO0_2 := Aside0.mk (show Kd.V (Kd.int .i32) 21 w w.heap.size (fun k_ => (P0_2_ k_ ∨ w.heap.size ≤ k_)) (.slice A0_2 l0_2.length c0_2) l0_2 from Kd.V_mono hs0_2 (fun k_ hk => .inl hk))
 have HB := Aside0.mk (Below.refl w.heap.size w)
 have H : ((grid_fit.f k (([(⟨a0_0, a0_1, l0_2⟩ : S24)] : List (S24)))).bind fun t174 => (if t174 = true then (if a1 < 0 then (some 2) else (if a1 > a2 then (some 2) else (if a2 > a3 then (some 2) else (some 0)))) else (some 30))) = some r := h
 clear h
 obtain ⟨y171, hy171⟩ : ∃ y_ : List (S24), y_ = (([(⟨a0_0, a0_1, l0_2⟩ : S24)] : List (S24))) := ⟨_, rfl⟩
 replace H : ((grid_fit.f k y171).bind fun t174 => (if t174 = true then (if a1 < 0 then (some 2) else (if a1 > a2 then (some 2) else (if a2 > a3 then (some 2) else (some 0)))) else (some 30))) = some r := by first | (rw [hy171]; with_reducible exact H) | (have H2_ := (Option.bind_some _ _).symm.trans H; rw [hy171]; with_reducible exact H2_) | (have H2_ := (Option.bind_some _ _).symm.trans H; with_reducible exact H2_) | with_reducible exact H | (rw [hy171]; exact H) | exact H
 have Ny171 := Aside0.mk hy171
 clear hy171
 replace H := Option.bind_eq_some_iff.mp H
 obtain ⟨t174, A50, H⟩ := H
 replace H : (if t174 = true then (if a1 < 0 then (some 2) else (if a1 > a2 then (some 2) else (if a2 > a3 then (some 2) else (some 0)))) else (some 30)) = some r := H
 have A5 := Aside0.mk A50
 clear A50
 by_cases c6 : t174 = true
 rotate_left
 ·
  replace c6 := Bool.eq_false_iff.mpr c6
  subst c6
  have H1 : (some 30) = some r := by rw [if_neg (show ¬ (false = true) by decide)] at H; exact H
  clear H
  have H := H1
  clear H1
  obtain rfl := Option.some.inj H
  go_enter Try.func42, Try.ntmps42
  go_wp2_with (first | ((with_reducible refine gate_dst (N := 4) rfl ?_); refine box_event ?hg (N := 4) ?hd (cs := #[.int .i64 a0_0, .int .i64 a0_1, .slice A0_2 l0_2.length c0_2]) (t := 24) ?hr ?_; (case hd => rfl); (case hg => rfl); (case hr => first | (go_simp; done) | (go_simp; rfl)); intro gb170 hg w34 hbox hb; have BK170 := Aside0.mk (hbox); have GW170 := Aside0.mk ((by rw [hg]; exact (below_size (bw_ HB)) : w.heap.size ≤ gb170)); have GE170 := Aside0.mk ((by rw [hg]; exact (below_size (bw_ HB)) : w.heap.size ≤ gb170)); replace HO0_2 := Aside0.mk (Kd.V_below (Kd.V_elderB (tV_ HO0_2) gb170 (Nat.le_of_eq hg.symm)) hb); replace HB := Aside0.mk (below_step (bw_ HB) hb); clear hb hbox hg; have hcz35_0 := bc_0 BK170; have hcz35_1 := bc_1 BK170; have hcz35_2 := bc_2 BK170; have hfz35_0 := blk_frozen BK170.out 0; have hfz35_1 := blk_frozen BK170.out 1; have hfz35_2 := blk_frozen BK170.out 2) | ((with_reducible refine gate_dst (N := 11) rfl ?_); refine Kd.N_lit k24 _ 24 ?hg (N' := 11) ?hd (xs := ([(⟨a0_0, a0_1, l0_2⟩ : S24)] : List (S24))) (inner := [.int .i64 a0_0, .int .i64 a0_1, .slice A0_2 l0_2.length c0_2]) (ok := (fun k_ => (P0_2_ k_ ∨ w.heap.size ≤ k_) ∧ k_ ≠ gb170)) (okp := (fun k_ => (P0_2_ k_ ∨ w.heap.size ≤ k_) ∧ k_ ≠ gb170)) ?hr ?hp (fun _ hk => hk) ((show ∀ k_, (_ : Nat) ≤ k_ → (fun k_ => (P0_2_ k_ ∨ w.heap.size ≤ k_) ∧ k_ ≠ gb170) k_ from fun k_ hk => ⟨(.inr (Nat.le_trans (below_size (bw_ HB)) hk)), Kd.freshB (tk_ BK170) k_ hk⟩) _ (Nat.le_refl _)) (Below.refl _ _) (Nat.le_refl _) (by simp) ?_; (case hd => rfl); (case hg => rfl); (case hr => first | (go_simp; done) | (go_simp; rfl)); (case hp => exact (Reps.c3 (show Kd.FK k24 _ _ (⟨a0_0, a0_1, l0_2⟩ : S24) [.int .i64 a0_0, .int .i64 a0_1, .slice A0_2 l0_2.length c0_2] from (k24_mkF _ _ (⟨a0_0, a0_1, l0_2⟩ : S24) (Kd.V_reads' (Kd.V_mono (ok' := (fun k_ => (P0_2_ k_ ∨ w.heap.size ≤ k_) ∧ k_ ≠ gb170)) (HO0_2.out) (fun k_ hk => ⟨hk.1, hk.2⟩))).2.1 (Kd.V_F (Kd.V_mono (ok' := (fun k_ => (P0_2_ k_ ∨ w.heap.size ≤ k_) ∧ k_ ≠ gb170)) (HO0_2.out) (fun k_ hk => ⟨hk.1, hk.2⟩))))) (Reps.none _ _))); intro v172 w36 ho37 hb hg_ hnew_; clear hg_ hnew_; (first | rw [← Ny171.out] at ho37 | (simp only [Int.reduceToNat] at ho37; rw [← Ny171.out] at ho37)); have HO173 := Aside0.mk (Kd.N_lower ho37 (below_size (bw_ HB))); replace HO0_2 := Aside0.mk (Kd.V_elder' (tV_ HO0_2) (by first | exact Kd.N_base ho37 | exact Kd.N_base (Kd.S_N ho37)) hb); replace BK170 := Aside0.mk (blk_below (tk_ BK170) hb); replace HB := Aside0.mk (below_step (bw_ HB) hb); clear hb ho37; obtain ⟨Ao38, co38, eo38⟩ := Kd.N_slice HO173.out; subst eo38) | ((with_reducible refine gate_callee (f := 36) rfl ?_); refine goesL_ (some 12) rfl rfl Try.func36 (by kernel_rfl) rfl #[.slice Ao38 y171.length co38] rfl (by (try simp only [l_4, l_5, l_6]); first | done | rfl | (simp only [l_7, l_8]; rfl)) ?_; (with_reducible refine (grid_fit.calls k _ _ y171 false _ ?side1 ?side2 A5.out).mono ?_); (case side1 => repeat (first | exact (Kd.N_reads' HO173.out).2.2 | (with_reducible refine Kd.C_alloc ?_ _) | (with_reducible refine Kd.C_drewN ?_ _) | (with_reducible refine Kd.C_drew ?_))); (case side2 => exact (Kd.N_reads' HO173.out).2.1); rintro e w39 ⟨rfl, hb⟩; (try clear A5); refine ⟨_, rfl, ?_⟩; replace HO0_2 := Aside0.mk (Kd.V_below (tV_ HO0_2) hb); replace HO173 := Aside0.mk (Kd.N_below (tN_ HO173) hb); replace BK170 := Aside0.mk (blk_below (tk_ BK170) hb); replace HB := Aside0.mk (below_step (bw_ HB) hb); (try clear hb); (try clear hb2); (try clear hk); (try clear hi)))
  go_ret
  exact ⟨by first | rfl | (simp [errW_none, errW_some] <;> rfl) | (simp [*, errW_none, errW_some] <;> rfl), by repeat (first | (with_reducible first | exact HB.out | apply b_a | apply b_n | apply b_d | refine b_s ?_ GE170.out) | exact HB.out)⟩

 subst c6
 have H1 : (if a1 < 0 then (some 2) else (if a1 > a2 then (some 2) else (if a2 > a3 then (some 2) else (some 0)))) = some r := by rw [if_pos rfl] at H; exact H
 clear H
 have H := H1
 clear H1
 by_cases c7 : a1 < 0
 ·
  rw [if_pos c7] at H
  have c7b0 : decide (a1 < 0) = true := decide_eq_true c7
  clear c7
  obtain rfl := Option.some.inj H
  go_enter Try.func42, Try.ntmps42
  go_wp2_with (first | ((with_reducible refine gate_dst (N := 4) rfl ?_); refine box_event ?hg (N := 4) ?hd (cs := #[.int .i64 a0_0, .int .i64 a0_1, .slice A0_2 l0_2.length c0_2]) (t := 24) ?hr ?_; (case hd => rfl); (case hg => rfl); (case hr => first | (go_simp; done) | (go_simp; rfl)); intro gb170 hg w8 hbox hb; have BK170 := Aside0.mk (hbox); have GW170 := Aside0.mk ((by rw [hg]; exact (below_size (bw_ HB)) : w.heap.size ≤ gb170)); have GE170 := Aside0.mk ((by rw [hg]; exact (below_size (bw_ HB)) : w.heap.size ≤ gb170)); replace HO0_2 := Aside0.mk (Kd.V_below (Kd.V_elderB (tV_ HO0_2) gb170 (Nat.le_of_eq hg.symm)) hb); replace HB := Aside0.mk (below_step (bw_ HB) hb); clear hb hbox hg; have hcz9_0 := bc_0 BK170; have hcz9_1 := bc_1 BK170; have hcz9_2 := bc_2 BK170; have hfz9_0 := blk_frozen BK170.out 0; have hfz9_1 := blk_frozen BK170.out 1; have hfz9_2 := blk_frozen BK170.out 2) | ((with_reducible refine gate_dst (N := 11) rfl ?_); refine Kd.N_lit k24 _ 24 ?hg (N' := 11) ?hd (xs := ([(⟨a0_0, a0_1, l0_2⟩ : S24)] : List (S24))) (inner := [.int .i64 a0_0, .int .i64 a0_1, .slice A0_2 l0_2.length c0_2]) (ok := (fun k_ => (P0_2_ k_ ∨ w.heap.size ≤ k_) ∧ k_ ≠ gb170)) (okp := (fun k_ => (P0_2_ k_ ∨ w.heap.size ≤ k_) ∧ k_ ≠ gb170)) ?hr ?hp (fun _ hk => hk) ((show ∀ k_, (_ : Nat) ≤ k_ → (fun k_ => (P0_2_ k_ ∨ w.heap.size ≤ k_) ∧ k_ ≠ gb170) k_ from fun k_ hk => ⟨(.inr (Nat.le_trans (below_size (bw_ HB)) hk)), Kd.freshB (tk_ BK170) k_ hk⟩) _ (Nat.le_refl _)) (Below.refl _ _) (Nat.le_refl _) (by simp) ?_; (case hd => rfl); (case hg => rfl); (case hr => first | (go_simp; done) | (go_simp; rfl)); (case hp => exact (Reps.c3 (show Kd.FK k24 _ _ (⟨a0_0, a0_1, l0_2⟩ : S24) [.int .i64 a0_0, .int .i64 a0_1, .slice A0_2 l0_2.length c0_2] from (k24_mkF _ _ (⟨a0_0, a0_1, l0_2⟩ : S24) (Kd.V_reads' (Kd.V_mono (ok' := (fun k_ => (P0_2_ k_ ∨ w.heap.size ≤ k_) ∧ k_ ≠ gb170)) (HO0_2.out) (fun k_ hk => ⟨hk.1, hk.2⟩))).2.1 (Kd.V_F (Kd.V_mono (ok' := (fun k_ => (P0_2_ k_ ∨ w.heap.size ≤ k_) ∧ k_ ≠ gb170)) (HO0_2.out) (fun k_ hk => ⟨hk.1, hk.2⟩))))) (Reps.none _ _))); intro v172 w10 ho11 hb hg_ hnew_; clear hg_ hnew_; (first | rw [← Ny171.out] at ho11 | (simp only [Int.reduceToNat] at ho11; rw [← Ny171.out] at ho11)); have HO173 := Aside0.mk (Kd.N_lower ho11 (below_size (bw_ HB))); replace HO0_2 := Aside0.mk (Kd.V_elder' (tV_ HO0_2) (by first | exact Kd.N_base ho11 | exact Kd.N_base (Kd.S_N ho11)) hb); replace BK170 := Aside0.mk (blk_below (tk_ BK170) hb); replace HB := Aside0.mk (below_step (bw_ HB) hb); clear hb ho11; obtain ⟨Ao12, co12, eo12⟩ := Kd.N_slice HO173.out; subst eo12) | ((with_reducible refine gate_callee (f := 36) rfl ?_); refine goesL_ (some 12) rfl rfl Try.func36 (by kernel_rfl) rfl #[.slice Ao12 y171.length co12] rfl (by (try simp only [l_4, l_5, l_6]); first | done | rfl | (simp only [l_7, l_8]; rfl)) ?_; (with_reducible refine (grid_fit.calls k _ _ y171 true _ ?side1 ?side2 A5.out).mono ?_); (case side1 => repeat (first | exact (Kd.N_reads' HO173.out).2.2 | (with_reducible refine Kd.C_alloc ?_ _) | (with_reducible refine Kd.C_drewN ?_ _) | (with_reducible refine Kd.C_drew ?_))); (case side2 => exact (Kd.N_reads' HO173.out).2.1); rintro e w13 ⟨rfl, hb⟩; (try clear A5); refine ⟨_, rfl, ?_⟩; replace HO0_2 := Aside0.mk (Kd.V_below (tV_ HO0_2) hb); replace HO173 := Aside0.mk (Kd.N_below (tN_ HO173) hb); replace BK170 := Aside0.mk (blk_below (tk_ BK170) hb); replace HB := Aside0.mk (below_step (bw_ HB) hb); (try clear hb); (try clear hb2); (try clear hk); (try clear hi)))
  go_ret
  exact ⟨by first | rfl | (simp [errW_none, errW_some] <;> rfl) | (simp [*, errW_none, errW_some] <;> rfl), by repeat (first | (with_reducible first | exact HB.out | apply b_a | apply b_n | apply b_d | refine b_s ?_ GE170.out) | exact HB.out)⟩
 rw [if_neg c7] at H
 have c7b0 : decide (a1 < 0) = false := decide_eq_false c7
 clear c7
 by_cases c14 : a1 > a2
 ·
  rw [if_pos c14] at H
  have c14b0 : decide (a2 < a1) = true := decide_eq_true c14
  clear c14
  obtain rfl := Option.some.inj H
  go_enter Try.func42, Try.ntmps42
  go_wp2_with (first | ((with_reducible refine gate_dst (N := 4) rfl ?_); refine box_event ?hg (N := 4) ?hd (cs := #[.int .i64 a0_0, .int .i64 a0_1, .slice A0_2 l0_2.length c0_2]) (t := 24) ?hr ?_; (case hd => rfl); (case hg => rfl); (case hr => first | (go_simp; done) | (go_simp; rfl)); intro gb170 hg w15 hbox hb; have BK170 := Aside0.mk (hbox); have GW170 := Aside0.mk ((by rw [hg]; exact (below_size (bw_ HB)) : w.heap.size ≤ gb170)); have GE170 := Aside0.mk ((by rw [hg]; exact (below_size (bw_ HB)) : w.heap.size ≤ gb170)); replace HO0_2 := Aside0.mk (Kd.V_below (Kd.V_elderB (tV_ HO0_2) gb170 (Nat.le_of_eq hg.symm)) hb); replace HB := Aside0.mk (below_step (bw_ HB) hb); clear hb hbox hg; have hcz16_0 := bc_0 BK170; have hcz16_1 := bc_1 BK170; have hcz16_2 := bc_2 BK170; have hfz16_0 := blk_frozen BK170.out 0; have hfz16_1 := blk_frozen BK170.out 1; have hfz16_2 := blk_frozen BK170.out 2) | ((with_reducible refine gate_dst (N := 11) rfl ?_); refine Kd.N_lit k24 _ 24 ?hg (N' := 11) ?hd (xs := ([(⟨a0_0, a0_1, l0_2⟩ : S24)] : List (S24))) (inner := [.int .i64 a0_0, .int .i64 a0_1, .slice A0_2 l0_2.length c0_2]) (ok := (fun k_ => (P0_2_ k_ ∨ w.heap.size ≤ k_) ∧ k_ ≠ gb170)) (okp := (fun k_ => (P0_2_ k_ ∨ w.heap.size ≤ k_) ∧ k_ ≠ gb170)) ?hr ?hp (fun _ hk => hk) ((show ∀ k_, (_ : Nat) ≤ k_ → (fun k_ => (P0_2_ k_ ∨ w.heap.size ≤ k_) ∧ k_ ≠ gb170) k_ from fun k_ hk => ⟨(.inr (Nat.le_trans (below_size (bw_ HB)) hk)), Kd.freshB (tk_ BK170) k_ hk⟩) _ (Nat.le_refl _)) (Below.refl _ _) (Nat.le_refl _) (by simp) ?_; (case hd => rfl); (case hg => rfl); (case hr => first | (go_simp; done) | (go_simp; rfl)); (case hp => exact (Reps.c3 (show Kd.FK k24 _ _ (⟨a0_0, a0_1, l0_2⟩ : S24) [.int .i64 a0_0, .int .i64 a0_1, .slice A0_2 l0_2.length c0_2] from (k24_mkF _ _ (⟨a0_0, a0_1, l0_2⟩ : S24) (Kd.V_reads' (Kd.V_mono (ok' := (fun k_ => (P0_2_ k_ ∨ w.heap.size ≤ k_) ∧ k_ ≠ gb170)) (HO0_2.out) (fun k_ hk => ⟨hk.1, hk.2⟩))).2.1 (Kd.V_F (Kd.V_mono (ok' := (fun k_ => (P0_2_ k_ ∨ w.heap.size ≤ k_) ∧ k_ ≠ gb170)) (HO0_2.out) (fun k_ hk => ⟨hk.1, hk.2⟩))))) (Reps.none _ _))); intro v172 w17 ho18 hb hg_ hnew_; clear hg_ hnew_; (first | rw [← Ny171.out] at ho18 | (simp only [Int.reduceToNat] at ho18; rw [← Ny171.out] at ho18)); have HO173 := Aside0.mk (Kd.N_lower ho18 (below_size (bw_ HB))); replace HO0_2 := Aside0.mk (Kd.V_elder' (tV_ HO0_2) (by first | exact Kd.N_base ho18 | exact Kd.N_base (Kd.S_N ho18)) hb); replace BK170 := Aside0.mk (blk_below (tk_ BK170) hb); replace HB := Aside0.mk (below_step (bw_ HB) hb); clear hb ho18; obtain ⟨Ao19, co19, eo19⟩ := Kd.N_slice HO173.out; subst eo19) | ((with_reducible refine gate_callee (f := 36) rfl ?_); refine goesL_ (some 12) rfl rfl Try.func36 (by kernel_rfl) rfl #[.slice Ao19 y171.length co19] rfl (by (try simp only [l_4, l_5, l_6]); first | done | rfl | (simp only [l_7, l_8]; rfl)) ?_; (with_reducible refine (grid_fit.calls k _ _ y171 true _ ?side1 ?side2 A5.out).mono ?_); (case side1 => repeat (first | exact (Kd.N_reads' HO173.out).2.2 | (with_reducible refine Kd.C_alloc ?_ _) | (with_reducible refine Kd.C_drewN ?_ _) | (with_reducible refine Kd.C_drew ?_))); (case side2 => exact (Kd.N_reads' HO173.out).2.1); rintro e w20 ⟨rfl, hb⟩; (try clear A5); refine ⟨_, rfl, ?_⟩; replace HO0_2 := Aside0.mk (Kd.V_below (tV_ HO0_2) hb); replace HO173 := Aside0.mk (Kd.N_below (tN_ HO173) hb); replace BK170 := Aside0.mk (blk_below (tk_ BK170) hb); replace HB := Aside0.mk (below_step (bw_ HB) hb); (try clear hb); (try clear hb2); (try clear hk); (try clear hi)))
  go_ret
  exact ⟨by first | rfl | (simp [errW_none, errW_some] <;> rfl) | (simp [*, errW_none, errW_some] <;> rfl), by repeat (first | (with_reducible first | exact HB.out | apply b_a | apply b_n | apply b_d | refine b_s ?_ GE170.out) | exact HB.out)⟩
 rw [if_neg c14] at H
 have c14b0 : decide (a2 < a1) = false := decide_eq_false c14
 clear c14
 by_cases c21 : a2 > a3
 ·
  rw [if_pos c21] at H
  have c21b0 : decide (a3 < a2) = true := decide_eq_true c21
  clear c21
  obtain rfl := Option.some.inj H
  go_enter Try.func42, Try.ntmps42
  go_wp2_with (first | ((with_reducible refine gate_dst (N := 4) rfl ?_); refine box_event ?hg (N := 4) ?hd (cs := #[.int .i64 a0_0, .int .i64 a0_1, .slice A0_2 l0_2.length c0_2]) (t := 24) ?hr ?_; (case hd => rfl); (case hg => rfl); (case hr => first | (go_simp; done) | (go_simp; rfl)); intro gb170 hg w22 hbox hb; have BK170 := Aside0.mk (hbox); have GW170 := Aside0.mk ((by rw [hg]; exact (below_size (bw_ HB)) : w.heap.size ≤ gb170)); have GE170 := Aside0.mk ((by rw [hg]; exact (below_size (bw_ HB)) : w.heap.size ≤ gb170)); replace HO0_2 := Aside0.mk (Kd.V_below (Kd.V_elderB (tV_ HO0_2) gb170 (Nat.le_of_eq hg.symm)) hb); replace HB := Aside0.mk (below_step (bw_ HB) hb); clear hb hbox hg; have hcz23_0 := bc_0 BK170; have hcz23_1 := bc_1 BK170; have hcz23_2 := bc_2 BK170; have hfz23_0 := blk_frozen BK170.out 0; have hfz23_1 := blk_frozen BK170.out 1; have hfz23_2 := blk_frozen BK170.out 2) | ((with_reducible refine gate_dst (N := 11) rfl ?_); refine Kd.N_lit k24 _ 24 ?hg (N' := 11) ?hd (xs := ([(⟨a0_0, a0_1, l0_2⟩ : S24)] : List (S24))) (inner := [.int .i64 a0_0, .int .i64 a0_1, .slice A0_2 l0_2.length c0_2]) (ok := (fun k_ => (P0_2_ k_ ∨ w.heap.size ≤ k_) ∧ k_ ≠ gb170)) (okp := (fun k_ => (P0_2_ k_ ∨ w.heap.size ≤ k_) ∧ k_ ≠ gb170)) ?hr ?hp (fun _ hk => hk) ((show ∀ k_, (_ : Nat) ≤ k_ → (fun k_ => (P0_2_ k_ ∨ w.heap.size ≤ k_) ∧ k_ ≠ gb170) k_ from fun k_ hk => ⟨(.inr (Nat.le_trans (below_size (bw_ HB)) hk)), Kd.freshB (tk_ BK170) k_ hk⟩) _ (Nat.le_refl _)) (Below.refl _ _) (Nat.le_refl _) (by simp) ?_; (case hd => rfl); (case hg => rfl); (case hr => first | (go_simp; done) | (go_simp; rfl)); (case hp => exact (Reps.c3 (show Kd.FK k24 _ _ (⟨a0_0, a0_1, l0_2⟩ : S24) [.int .i64 a0_0, .int .i64 a0_1, .slice A0_2 l0_2.length c0_2] from (k24_mkF _ _ (⟨a0_0, a0_1, l0_2⟩ : S24) (Kd.V_reads' (Kd.V_mono (ok' := (fun k_ => (P0_2_ k_ ∨ w.heap.size ≤ k_) ∧ k_ ≠ gb170)) (HO0_2.out) (fun k_ hk => ⟨hk.1, hk.2⟩))).2.1 (Kd.V_F (Kd.V_mono (ok' := (fun k_ => (P0_2_ k_ ∨ w.heap.size ≤ k_) ∧ k_ ≠ gb170)) (HO0_2.out) (fun k_ hk => ⟨hk.1, hk.2⟩))))) (Reps.none _ _))); intro v172 w24 ho25 hb hg_ hnew_; clear hg_ hnew_; (first | rw [← Ny171.out] at ho25 | (simp only [Int.reduceToNat] at ho25; rw [← Ny171.out] at ho25)); have HO173 := Aside0.mk (Kd.N_lower ho25 (below_size (bw_ HB))); replace HO0_2 := Aside0.mk (Kd.V_elder' (tV_ HO0_2) (by first | exact Kd.N_base ho25 | exact Kd.N_base (Kd.S_N ho25)) hb); replace BK170 := Aside0.mk (blk_below (tk_ BK170) hb); replace HB := Aside0.mk (below_step (bw_ HB) hb); clear hb ho25; obtain ⟨Ao26, co26, eo26⟩ := Kd.N_slice HO173.out; subst eo26) | ((with_reducible refine gate_callee (f := 36) rfl ?_); refine goesL_ (some 12) rfl rfl Try.func36 (by kernel_rfl) rfl #[.slice Ao26 y171.length co26] rfl (by (try simp only [l_4, l_5, l_6]); first | done | rfl | (simp only [l_7, l_8]; rfl)) ?_; (with_reducible refine (grid_fit.calls k _ _ y171 true _ ?side1 ?side2 A5.out).mono ?_); (case side1 => repeat (first | exact (Kd.N_reads' HO173.out).2.2 | (with_reducible refine Kd.C_alloc ?_ _) | (with_reducible refine Kd.C_drewN ?_ _) | (with_reducible refine Kd.C_drew ?_))); (case side2 => exact (Kd.N_reads' HO173.out).2.1); rintro e w27 ⟨rfl, hb⟩; (try clear A5); refine ⟨_, rfl, ?_⟩; replace HO0_2 := Aside0.mk (Kd.V_below (tV_ HO0_2) hb); replace HO173 := Aside0.mk (Kd.N_below (tN_ HO173) hb); replace BK170 := Aside0.mk (blk_below (tk_ BK170) hb); replace HB := Aside0.mk (below_step (bw_ HB) hb); (try clear hb); (try clear hb2); (try clear hk); (try clear hi)))
  go_ret
  exact ⟨by first | rfl | (simp [errW_none, errW_some] <;> rfl) | (simp [*, errW_none, errW_some] <;> rfl), by repeat (first | (with_reducible first | exact HB.out | apply b_a | apply b_n | apply b_d | refine b_s ?_ GE170.out) | exact HB.out)⟩
 rw [if_neg c21] at H
 have c21b0 : decide (a3 < a2) = false := decide_eq_false c21
 clear c21
 obtain rfl := Option.some.inj H
 go_enter Try.func42, Try.ntmps42
 go_wp2_with (first | ((with_reducible refine gate_dst (N := 4) rfl ?_); refine box_event ?hg (N := 4) ?hd (cs := #[.int .i64 a0_0, .int .i64 a0_1, .slice A0_2 l0_2.length c0_2]) (t := 24) ?hr ?_; (case hd => rfl); (case hg => rfl); (case hr => first | (go_simp; done) | (go_simp; rfl)); intro gb170 hg w28 hbox hb; have BK170 := Aside0.mk (hbox); have GW170 := Aside0.mk ((by rw [hg]; exact (below_size (bw_ HB)) : w.heap.size ≤ gb170)); have GE170 := Aside0.mk ((by rw [hg]; exact (below_size (bw_ HB)) : w.heap.size ≤ gb170)); replace HO0_2 := Aside0.mk (Kd.V_below (Kd.V_elderB (tV_ HO0_2) gb170 (Nat.le_of_eq hg.symm)) hb); replace HB := Aside0.mk (below_step (bw_ HB) hb); clear hb hbox hg; have hcz29_0 := bc_0 BK170; have hcz29_1 := bc_1 BK170; have hcz29_2 := bc_2 BK170; have hfz29_0 := blk_frozen BK170.out 0; have hfz29_1 := blk_frozen BK170.out 1; have hfz29_2 := blk_frozen BK170.out 2) | ((with_reducible refine gate_dst (N := 11) rfl ?_); refine Kd.N_lit k24 _ 24 ?hg (N' := 11) ?hd (xs := ([(⟨a0_0, a0_1, l0_2⟩ : S24)] : List (S24))) (inner := [.int .i64 a0_0, .int .i64 a0_1, .slice A0_2 l0_2.length c0_2]) (ok := (fun k_ => (P0_2_ k_ ∨ w.heap.size ≤ k_) ∧ k_ ≠ gb170)) (okp := (fun k_ => (P0_2_ k_ ∨ w.heap.size ≤ k_) ∧ k_ ≠ gb170)) ?hr ?hp (fun _ hk => hk) ((show ∀ k_, (_ : Nat) ≤ k_ → (fun k_ => (P0_2_ k_ ∨ w.heap.size ≤ k_) ∧ k_ ≠ gb170) k_ from fun k_ hk => ⟨(.inr (Nat.le_trans (below_size (bw_ HB)) hk)), Kd.freshB (tk_ BK170) k_ hk⟩) _ (Nat.le_refl _)) (Below.refl _ _) (Nat.le_refl _) (by simp) ?_; (case hd => rfl); (case hg => rfl); (case hr => first | (go_simp; done) | (go_simp; rfl)); (case hp => exact (Reps.c3 (show Kd.FK k24 _ _ (⟨a0_0, a0_1, l0_2⟩ : S24) [.int .i64 a0_0, .int .i64 a0_1, .slice A0_2 l0_2.length c0_2] from (k24_mkF _ _ (⟨a0_0, a0_1, l0_2⟩ : S24) (Kd.V_reads' (Kd.V_mono (ok' := (fun k_ => (P0_2_ k_ ∨ w.heap.size ≤ k_) ∧ k_ ≠ gb170)) (HO0_2.out) (fun k_ hk => ⟨hk.1, hk.2⟩))).2.1 (Kd.V_F (Kd.V_mono (ok' := (fun k_ => (P0_2_ k_ ∨ w.heap.size ≤ k_) ∧ k_ ≠ gb170)) (HO0_2.out) (fun k_ hk => ⟨hk.1, hk.2⟩))))) (Reps.none _ _))); intro v172 w30 ho31 hb hg_ hnew_; clear hg_ hnew_; (first | rw [← Ny171.out] at ho31 | (simp only [Int.reduceToNat] at ho31; rw [← Ny171.out] at ho31)); have HO173 := Aside0.mk (Kd.N_lower ho31 (below_size (bw_ HB))); replace HO0_2 := Aside0.mk (Kd.V_elder' (tV_ HO0_2) (by first | exact Kd.N_base ho31 | exact Kd.N_base (Kd.S_N ho31)) hb); replace BK170 := Aside0.mk (blk_below (tk_ BK170) hb); replace HB := Aside0.mk (below_step (bw_ HB) hb); clear hb ho31; obtain ⟨Ao32, co32, eo32⟩ := Kd.N_slice HO173.out; subst eo32) | ((with_reducible refine gate_callee (f := 36) rfl ?_); refine goesL_ (some 12) rfl rfl Try.func36 (by kernel_rfl) rfl #[.slice Ao32 y171.length co32] rfl (by (try simp only [l_4, l_5, l_6]); first | done | rfl | (simp only [l_7, l_8]; rfl)) ?_; (with_reducible refine (grid_fit.calls k _ _ y171 true _ ?side1 ?side2 A5.out).mono ?_); (case side1 => repeat (first | exact (Kd.N_reads' HO173.out).2.2 | (with_reducible refine Kd.C_alloc ?_ _) | (with_reducible refine Kd.C_drewN ?_ _) | (with_reducible refine Kd.C_drew ?_))); (case side2 => exact (Kd.N_reads' HO173.out).2.1); rintro e w33 ⟨rfl, hb⟩; (try clear A5); refine ⟨_, rfl, ?_⟩; replace HO0_2 := Aside0.mk (Kd.V_below (tV_ HO0_2) hb); replace HO173 := Aside0.mk (Kd.N_below (tN_ HO173) hb); replace BK170 := Aside0.mk (blk_below (tk_ BK170) hb); replace HB := Aside0.mk (below_step (bw_ HB) hb); (try clear hb); (try clear hb2); (try clear hk); (try clear hi)))
 go_ret
 exact ⟨by first | rfl | (simp [errW_none, errW_some] <;> rfl) | (simp [*, errW_none, errW_some] <;> rfl), by repeat (first | (with_reducible first | exact HB.out | apply b_a | apply b_n | apply b_d | refine b_s ?_ GE170.out) | exact HB.out)⟩
/-! ### slices_Clone_int32_int32: function 43 -/
def slices_Clone_int32_int32.f (l0 : List Int) : Option (List Int) := (some (([] : List Int) : List Int)).bind fun y175 => (if y175.length + l0.length < 35184372088832 then (some (y175 ++ l0)) else (none))
set_option maxHeartbeats 60000000 in
set_option maxRecDepth 100000 in
theorem slices_Clone_int32_int32.calls_some (b0 : Addr) (c0 : Nat) (l0 : List Int) (r : List Int) (w : World) (hr0 : Kd.C (Kd.int .i32) w (some b0) l0.length l0) (hc0 : l0.length ≤ c0) (h : slices_Clone_int32_int32.f l0 = some r) :
  Calls Try.prog 43 #[.slice (some b0) l0.length c0] w fun e w' => ∃ v0_ : Value, e = .returned (v0_) ∧ Kd.R (Kd.int .i32) 21 w' w.heap.size (fun _ => True) v0_ r ∧ Below w.heap.size w w' := by
 have hq_ : ∀ W : World, (binOp .eql 22 (.slice (some b0) l0.length c0) (.slice none 0 0)).run Try.prog W = .ok (.bool false) W := fun W => Go.Lib.run_eql_slice_nil W 22 21 (some b0) l0.length c0 0 0 Try.underlying22
 have HR0 := Aside0.mk hr0
 have HC0 := Aside0.mk hc0
 clear hr0 hc0
 have HB := Aside0.mk (Below.refl w.heap.size w)
 have H : ((some (([] : List Int) : List Int)).bind fun y175 => (if y175.length + l0.length < 35184372088832 then (some (y175 ++ l0)) else (none))) = some r := h
 clear h
 obtain ⟨y175, hy175⟩ : ∃ y_ : List Int, y_ = (([] : List Int)) := ⟨_, rfl⟩
 replace H : (if y175.length + l0.length < 35184372088832 then (some (y175 ++ l0)) else (none)) = some r := by first | (rw [hy175]; with_reducible exact H) | (have H2_ := (Option.bind_some _ _).symm.trans H; rw [hy175]; with_reducible exact H2_) | (have H2_ := (Option.bind_some _ _).symm.trans H; with_reducible exact H2_) | with_reducible exact H | (rw [hy175]; exact H) | exact H
 have Ny175 := Aside0.mk hy175
 clear hy175
 by_cases c2 : y175.length + l0.length < 35184372088832
 rotate_left
 ·
  rw [if_neg c2] at H
  exact absurd H (by simp)

 rw [if_pos c2] at H
 have LMc2 := Aside0.mk c2
 clear c2
 obtain ⟨y178, hy178⟩ : ∃ y_ : List Int, y_ = (y175 ++ l0) := ⟨_, rfl⟩
 replace H : (some y178) = some r := by first | (rw [hy178]; with_reducible exact H) | (have H2_ := (Option.bind_some _ _).symm.trans H; rw [hy178]; with_reducible exact H2_) | (have H2_ := (Option.bind_some _ _).symm.trans H; with_reducible exact H2_) | with_reducible exact H | (rw [hy178]; exact H) | exact H
 have Ny178 := Aside0.mk hy178
 clear hy178
 obtain rfl := Option.some.inj H
 go_enter Try.func43, Try.ntmps43
 go_wp2_with (first | ((with_reducible refine gate_dst (N := 5) rfl ?_); refine Kd.R_lit (Kd.int .i32) _ 21 ?hg (N := 5) ?hd (xs := ([] : List Int)) (inner := []) (ok := fun _ => True) (okp := fun _ => True) ?hr ?hp (fun _ hk => hk) trivial (Below.refl _ _) (Nat.le_refl _) (by simp) ?_; (case hd => rfl); (case hg => rfl); (case hr => first | (go_simp; done) | (go_simp; rfl)); (case hp => exact (Reps.none _ _)); intro v176 w3 ho4 hb hg_ hnew_; clear hg_ hnew_; (first | rw [← Ny175.out] at ho4 | (simp only [Int.reduceToNat] at ho4; rw [← Ny175.out] at ho4)); have HO177 := Aside0.mk (Kd.R_lower ho4 (below_size (bw_ HB))); replace HB := Aside0.mk (below_step (bw_ HB) hb); clear hb ho4) | ((with_reducible refine gate_builtin (b := .append) (xs := #[.tmp 5, .tmp 6]) rfl ?_); at_builtin; refine Kd.R_append_rows (Kd.int .i32) (w0 := w) w.heap.size rfl (.tmp 5) (.tmp 6) 22 21 (.int .i32 0) 4 rfl Try.underlying22 info21 rfl (by decide) (by omega) v176 y175 l0 _ _ _ (fun _ => True) (fun _ => False) rfl rfl ?aO ?aR (fun _ _ h => h) (fun _ h => h.elim) ?aF ?aB ?aS ?aL ?_; (case aR => repeat (first | exact (Kd.C_below HR0.out HB.out) | (with_reducible refine Kd.C_alloc ?_ _) | (with_reducible refine Kd.C_drewN ?_ _) | (with_reducible refine Kd.C_drew ?_))); (case aB => exact (bw_ HB)); (case aF => exact (fun _ _ => trivial)); (case aO => exact (tR_ HO177)); (case aS => exact (below_size (bw_ HB))); (case aL => have := LMc2.out; omega); intro v179 w5 ho hb hg hat; rw [← Ny178.out] at ho; have n0_ := Aside0.mk (hb); have n1_ := Aside0.mk (ho); clear HB; clear HO177; have HB := n0_; have HO180 := n1_; clear n0_ n1_; clear ho hb hg hat))
 go_ret
 exact ⟨_, by first | rfl | (simp [errW_none, errW_some] <;> rfl) | (simp [*, errW_none, errW_some] <;> rfl), by (with_reducible repeat (first | apply Kd.R_alloc | apply Kd.R_drewN | apply Kd.R_drew)); exact HO180.out, by repeat (first | (with_reducible first | exact HB.out | apply b_a | apply b_n | apply b_d) | exact HB.out)⟩
set_option maxHeartbeats 8000000 in
set_option maxRecDepth 100000 in
theorem slices_Clone_int32_int32.calls (A0 : Option Addr) (c0 : Nat) (l0 : List Int) (r : List Int) (w : World) (hr0 : Kd.C (Kd.int .i32) w A0 l0.length l0) (hc0 : l0.length ≤ c0) (h : slices_Clone_int32_int32.f l0 = some r) :
  Calls Try.prog 43 #[.slice A0 l0.length c0] w fun e w' => ∃ v0_ : Value, e = .returned (v0_) ∧ Kd.R (Kd.int .i32) 21 w' w.heap.size (fun _ => True) v0_ r ∧ Below w.heap.size w w' := by
 cases A0 with
 | some b0 => exact slices_Clone_int32_int32.calls_some b0 c0 l0 r w hr0 hc0 h
 | none =>
  have hz : l0 = [] := by
   rcases Nat.eq_zero_or_pos l0.length with h0 | h0
   ·
    exact List.length_eq_zero_iff.1 h0
   ·
    obtain ⟨ad, e_, _⟩ := hr0.2.2 h0
    cases e_
  subst hz
  have hr_ : r = [] := by
   have h2 := h
   simp [slices_Clone_int32_int32.f] at h2
   exact h2
  subst hr_
  clear h hr0
  have hq_ : ∀ (W : World) (m : Nat), (binOp .eql 22 (.slice none m c0) (.slice none 0 0)).run Try.prog W = .ok (.bool true) W := fun W m => Go.Lib.run_eql_slice_nil W 22 21 none m c0 0 0 Try.underlying22
  go_enter Try.func43, Try.ntmps43
  go_wp2
  go_ret
  exact ⟨.slice none 0 0, rfl, Kd.R_nil _ _ _ _ _, Below.refl _ _⟩

/-! ### grid_Rows: function 30 -/
def grid_Rows.f (k : Nat) (a0_0 : Int) (a0_1 : Int) (l0_2 : List Int) (a1 : Int) (a2 : Int) : Option (Int × Int × List Int × Int) := (grid_cut.f k a0_0 a0_1 l0_2 a1 a2 a0_0).bind fun t183 => (if t183 = 0 then (if 0 ≤ (wrap64 (a1 * a0_1)) then (if (wrap64 (a1 * a0_1)) ≤ (wrap64 (a2 * a0_1)) then (if (wrap64 (a2 * a0_1)) ≤ (l0_2.length : Int) then ((slices_Clone_int32_int32.f ((l0_2.take ((wrap64 (a2 * a0_1)) : Int).toNat).drop ((wrap64 (a1 * a0_1)) : Int).toNat)).bind fun t185 => (some (wrap64 (a2 - a1), a0_1, t185, 0))) else (none)) else (none)) else (none)) else (some (0, 0, ([] : List Int), t183)))
theorem grid_Rows.mono : ∀ a0 a1 a2 a3 a4 k, LeO (grid_Rows.f k a0 a1 a2 a3 a4) (grid_Rows.f (k + 1) a0 a1 a2 a3 a4) := by
 intro a0 a1 a2 a3 a4 k
 unfold grid_Rows.f
 repeat' first
   | (with_reducible exact grid_cut.mono _ _ _ _ _ _ _)
   | (with_reducible exact LeO.refl _)
   | (with_reducible exact LeO.none _)
   | (with_reducible refine LeO.ite ?_ ?_)
   | (with_reducible refine LeO.bind ?_ (fun _ => ?_))
   | exact grid_cut.mono _ _ _ _ _ _ _
   | exact LeO.none _
   | refine LeO.ite ?_ ?_
   | refine LeO.bind ?_ (fun _ => ?_)
def grid_Rows.T4 : Bool × List (List Nat × List Nat) := (true, [([], []), ([], []), ([0, 1], [0, 1]), ([], []), ([3], [3]), ([], []), ([5], [5]), ([], []), ([], []), ([8], [8]), ([7, 9], [7, 9]), ([], []), ([], []), ([12], [12]), ([11, 13], [11, 13]), ([6, 10, 14], [6, 10, 14]), ([15], [15]), ([2, 4, 16], [2, 4, 16]), ([17, 16, 0, 1, 2, 3, 4, 5, 6, 7, 8, 9, 10, 11, 12, 13, 14, 15, 16, 17], [17]), ([18, 0, 1, 2, 3, 4, 5, 6, 7, 8, 9, 10, 11, 12, 13, 14, 15, 16, 17, 18], [])])
def grid_Rows.B4 : List Nat := [0, 0, 3, 0, 8, 0, 32, 0, 0, 256, 896, 0, 0, 4096, 14336, 32736, 65504, 131071, 262143, 524287]
theorem grid_Rows.tab4 : rtab .any (opsOf Try.f30 4) = grid_Rows.T4 := by kernel_rfl
theorem grid_Rows.bits4 : waitsOk grid_Rows.T4.2 grid_Rows.B4 = true := by kernel_rfl
set_option maxHeartbeats 60000000 in
set_option maxRecDepth 100000 in
theorem grid_Rows.calls (k : Nat) (a0_0 : Int) (a0_1 : Int) (A0_2 : Option Addr) (c0_2 : Nat) (l0_2 : List Int) (a1 : Int) (a2 : Int) (r1 : Int) (r2 : Int) (r3 : List Int) (r4 : Int) (w : World) (hr0_2 : Kd.C (Kd.int .i32) w A0_2 l0_2.length l0_2) (hc0_2 : l0_2.length ≤ c0_2) (h : grid_Rows.f k a0_0 a0_1 l0_2 a1 a2 = some (r1, r2, r3, r4)) :
  Calls Try.prog 30 #[.agg #[.int .i64 a0_0, .int .i64 a0_1, .slice A0_2 l0_2.length c0_2], .int .i64 a1, .int .i64 a2] w fun e w' => ∃ v2_ : Value, e = .returned (.tuple #[.agg #[.int .i64 r1, .int .i64 r2, v2_], .int .i64 r4]) ∧ Kd.R (Kd.int .i32) 21 w' w.heap.size (fun _ => True) v2_ r3 ∧ Below w.heap.size w w' := by
 have hu24 := Try.underlying24
 have HR0_2 := Aside0.mk hr0_2
 have HC0_2 := Aside0.mk hc0_2
 clear hr0_2 hc0_2
 have HB := Aside0.mk (Below.refl w.heap.size w)
 have H : ((grid_cut.f k a0_0 a0_1 l0_2 a1 a2 a0_0).bind fun t183 => (if t183 = 0 then (if 0 ≤ (wrap64 (a1 * a0_1)) then (if (wrap64 (a1 * a0_1)) ≤ (wrap64 (a2 * a0_1)) then (if (wrap64 (a2 * a0_1)) ≤ (l0_2.length : Int) then ((slices_Clone_int32_int32.f ((l0_2.take ((wrap64 (a2 * a0_1)) : Int).toNat).drop ((wrap64 (a1 * a0_1)) : Int).toNat)).bind fun t185 => (some (wrap64 (a2 - a1), a0_1, t185, 0))) else (none)) else (none)) else (none)) else (some (0, 0, ([] : List Int), t183)))) = some (r1, r2, r3, r4) := h
 clear h
 replace H := Option.bind_eq_some_iff.mp H
 obtain ⟨t183, A40, H⟩ := H
 replace H : (if t183 = 0 then (if 0 ≤ (wrap64 (a1 * a0_1)) then (if (wrap64 (a1 * a0_1)) ≤ (wrap64 (a2 * a0_1)) then (if (wrap64 (a2 * a0_1)) ≤ (l0_2.length : Int) then ((slices_Clone_int32_int32.f ((l0_2.take ((wrap64 (a2 * a0_1)) : Int).toNat).drop ((wrap64 (a1 * a0_1)) : Int).toNat)).bind fun t185 => (some (wrap64 (a2 - a1), a0_1, t185, 0))) else (none)) else (none)) else (none)) else (some (0, 0, ([] : List Int), t183))) = some (r1, r2, r3, r4) := H
 have A4 := Aside0.mk A40
 clear A40
 by_cases c5 : t183 = 0
 rotate_left
 ·
  rw [if_neg c5] at H
  have c5b0 : (t183 == 0) = false := beq_eq_false_iff_ne.mpr c5
  have c5b1 : (t183 != 0) = true := bne_iff_ne.mpr c5
  simp only [Option.some.injEq, Prod.mk.injEq] at H
  obtain ⟨rfl, rfl, rfl, rfl⟩ := H
  go_enter Try.func30, Try.ntmps30
  go_wp2_with (first | ((with_reducible refine gate_dst (N := 3) rfl ?_); refine box_event ?hg (N := 3) ?hd (cs := #[.int .i64 a0_0, .int .i64 a0_1, .slice A0_2 l0_2.length c0_2]) (t := 24) ?hr ?_; (case hd => rfl); (case hg => rfl); (case hr => first | (go_simp; done) | (go_simp; rfl)); intro gb181 hg w23 hbox hb; have BK181 := Aside0.mk (hbox); have GW181 := Aside0.mk ((by rw [hg]; exact (below_size (bw_ HB)) : w.heap.size ≤ gb181)); have GE181 := Aside0.mk ((by rw [hg]; exact (below_size (bw_ HB)) : w.heap.size ≤ gb181)); replace HB := Aside0.mk (below_step (bw_ HB) hb); clear hb hbox hg) | ((with_reducible refine gate_dst (N := 6) rfl ?_); refine box_event ?hg (N := 6) ?hd (cs := #[.int .i64 0, .int .i64 0, .slice none 0 0]) (t := 24) ?hr ?_; (case hd => rfl); (case hg => rfl); (case hr => first | (go_simp; done) | (go_simp; rfl)); intro gb182 hg w24 hbox hb; have BK182 := Aside0.mk (hbox); have GW182 := Aside0.mk ((by rw [hg]; exact (below_size (bw_ HB)) : w.heap.size ≤ gb182)); have GE182 := Aside0.mk ((by rw [hg]; exact (below_size (bw_ HB)) : w.heap.size ≤ gb182)); have NB181_182 := Aside0.mk ((by rw [hg]; exact Nat.ne_of_lt (blk_lt (tk_ BK181)) : gb181 ≠ gb182)); have NB182_181 := Aside0.mk ((by rw [hg]; exact Nat.ne_of_gt (blk_lt (tk_ BK181)) : gb182 ≠ gb181)); replace BK181 := Aside0.mk (blk_below (tk_ BK181) hb); replace HB := Aside0.mk (below_step (bw_ HB) hb); clear hb hbox hg; have hnb25 := NB181_182.out; have hnc25 := NB182_181.out; have hcz26_0 := bc_0 BK181; have hcz26_1 := bc_1 BK181; have hcz26_2 := bc_2 BK181; have hfz26_0 := blk_frozen BK181.out 0; have hfz26_1 := blk_frozen BK181.out 1; have hfz26_2 := blk_frozen BK181.out 2) | ((with_reducible refine gate_callee (f := 42) rfl ?_); refine goesL_ (some 14) rfl rfl Try.func42 (by kernel_rfl) rfl #[.agg #[.int .i64 a0_0, .int .i64 a0_1, .slice A0_2 l0_2.length c0_2], .int .i64 a1, .int .i64 a2, .int .i64 a0_0] rfl (by (try simp only [l_4, l_5, l_6]); first | done | rfl | (simp only [l_7, l_8]; rfl)) ?_; (with_reducible refine (grid_cut.calls k a0_0 a0_1 (fun k_ => k_ < w.heap.size) _ _ l0_2 a1 a2 a0_0 t183 _ ?side1 A4.out).mono ?_); (case side1 => exact Kd.V_mk HC0_2.out (Kd.F_below (Kd.C_F (Kd.heap_int .i32) HR0_2.out) (bw_ HB))); rintro e w27 ⟨rfl, hb⟩; (try clear A4); refine ⟨_, rfl, ?_⟩; replace BK181 := Aside0.mk (blk_below (tk_ BK181) hb); replace BK182 := Aside0.mk (blk_below (tk_ BK182) hb); replace HB := Aside0.mk (below_step (bw_ HB) hb); (try clear hb); (try clear hb2); (try clear hk); (try clear hi); have hcz28_0 := bc_0 BK182; have hcz28_1 := bc_1 BK182; have hcz28_2 := bc_2 BK182; have hfz28_0 := blk_frozen BK182.out 0; have hfz28_1 := blk_frozen BK182.out 1; have hfz28_2 := blk_frozen BK182.out 2))
  refine bodyPost_ret (results_ct rfl _ _ gb182 24 #[.int .i64 0, .int .i64 0, .slice none 0 0] (0, 0) _ rfl (by (with_reducible repeat (first | refine k_n ?_ _ | refine k_d ?_ | refine k_a ?_ _)); refine blk_put (cs := #[.int .i64 0, .int .i64 0, .slice none 0 0]) ?_ 2 _ rfl; (with_reducible repeat (first | refine k_n ?_ _ | refine k_d ?_ | refine k_a ?_ _)); refine blk_put (cs := #[.int .i64 0, .int .i64 0, .slice none 0 0]) ?_ 1 _ rfl; (with_reducible repeat (first | refine k_n ?_ _ | refine k_d ?_ | refine k_a ?_ _)); refine blk_put (cs := #[.int .i64 0, .int .i64 0, .slice none 0 0]) ?_ 0 _ rfl; (with_reducible repeat (first | refine k_n ?_ _ | refine k_d ?_ | refine k_a ?_ _)); exact BK182.out) Try.underlying24 rfl (by kernel_rfl)) rfl ?_
  exact ⟨_, by first | rfl | (simp [errW_none, errW_some] <;> rfl) | (simp [*, errW_none, errW_some] <;> rfl), by first | exact Kd.R_nil _ _ _ _ _ | exact Kd.N_nil _ _ _ _ _ | exact Kd.V_nil _ _ _ _ _ | exact Kd.Q_nil _ _ _ _ _ | exact Kd.S_nil _ _ _ _ _, by repeat (first | (with_reducible first | exact HB.out | apply b_a | apply b_n | apply b_d | refine b_s ?_ GE181.out | refine b_s ?_ GE182.out) | exact HB.out)⟩

 rw [if_pos c5] at H
 have c5b0 : (t183 == 0) = true := beq_iff_eq.mpr c5
 have c5b1 : (t183 != 0) = false := bne_eq_false_iff_eq.mpr c5
 clear c5
 obtain ⟨ji6, hji6⟩ : ∃ j_ : Int, (wrap64 (a1 * a0_1)) = j_ := ⟨_, rfl⟩
 replace H : (if 0 ≤ (ji6) then (if (ji6) ≤ (wrap64 (a2 * a0_1)) then (if (wrap64 (a2 * a0_1)) ≤ (l0_2.length : Int) then ((slices_Clone_int32_int32.f ((l0_2.take ((wrap64 (a2 * a0_1)) : Int).toNat).drop ((ji6) : Int).toNat)).bind fun t185 => (some (wrap64 (a2 - a1), a0_1, t185, 0))) else (none)) else (none)) else (none)) = some (r1, r2, r3, r4) := by first | (rw [hji6] at H; exact H) | (simp only [hji6] at H ⊢; exact H)
 (try rw [hji6] at A4)
 have hji6w : (IntKind.i64.wrap (a1 * a0_1)) = ji6 := (i64_w _).trans hji6
 by_cases c7 : 0 ≤ (ji6)
 rotate_left
 ·
  rw [if_neg c7] at H
  exact absurd H (by simp)
 rw [if_pos c7] at H
 have c7b0 := eq_true c7
 have c7b1 : decide (0 ≤ (ji6)) = true := decide_eq_true c7
 clear c7
 by_cases c8 : (ji6) ≤ (wrap64 (a2 * a0_1))
 rotate_left
 ·
  rw [if_neg c8] at H
  exact absurd H (by simp)
 rw [if_pos c8] at H
 have c8b0 := eq_true c8
 have c8b1 : decide ((ji6) ≤ (wrap64 (a2 * a0_1))) = true := decide_eq_true c8
 clear c8
 by_cases c9 : (wrap64 (a2 * a0_1)) ≤ (l0_2.length : Int)
 rotate_left
 ·
  rw [if_neg c9] at H
  exact absurd H (by simp)
 rw [if_pos c9] at H
 have c9b0 := eq_true c9
 have c9b1 : decide ((wrap64 (a2 * a0_1)) ≤ (l0_2.length : Int)) = true := decide_eq_true c9
 clear c9
 replace H := Option.bind_eq_some_iff.mp H
 obtain ⟨t185, A100, H⟩ := H
 replace H : (some (wrap64 (a2 - a1), a0_1, t185, 0)) = some (r1, r2, r3, r4) := H
 have A10 := Aside0.mk A100
 clear A100
 simp only [Option.some.injEq, Prod.mk.injEq] at H
 obtain ⟨rfl, rfl, rfl, rfl⟩ := H
 go_enter Try.func30, Try.ntmps30
 try go_wp2_with (first | ((with_reducible refine gate_dst (N := 3) rfl ?_); refine box_event ?hg (N := 3) ?hd (cs := #[.int .i64 a0_0, .int .i64 a0_1, .slice A0_2 l0_2.length c0_2]) (t := 24) ?hr ?_; (case hd => rfl); (case hg => rfl); (case hr => first | (go_simp; done) | (go_simp; rfl)); intro gb181 hg w11 hbox hb; have BK181 := Aside0.mk (hbox); have GW181 := Aside0.mk ((by rw [hg]; exact (below_size (bw_ HB)) : w.heap.size ≤ gb181)); have GE181 := Aside0.mk ((by rw [hg]; exact (below_size (bw_ HB)) : w.heap.size ≤ gb181)); replace HB := Aside0.mk (below_step (bw_ HB) hb); clear hb hbox hg) | ((with_reducible refine gate_dst (N := 6) rfl ?_); refine box_event ?hg (N := 6) ?hd (cs := #[.int .i64 0, .int .i64 0, .slice none 0 0]) (t := 24) ?hr ?_; (case hd => rfl); (case hg => rfl); (case hr => first | (go_simp; done) | (go_simp; rfl)); intro gb182 hg w12 hbox hb; have BK182 := Aside0.mk (hbox); have GW182 := Aside0.mk ((by rw [hg]; exact (below_size (bw_ HB)) : w.heap.size ≤ gb182)); have GE182 := Aside0.mk ((by rw [hg]; exact (below_size (bw_ HB)) : w.heap.size ≤ gb182)); have NB181_182 := Aside0.mk ((by rw [hg]; exact Nat.ne_of_lt (blk_lt (tk_ BK181)) : gb181 ≠ gb182)); have NB182_181 := Aside0.mk ((by rw [hg]; exact Nat.ne_of_gt (blk_lt (tk_ BK181)) : gb182 ≠ gb181)); replace BK181 := Aside0.mk (blk_below (tk_ BK181) hb); replace HB := Aside0.mk (below_step (bw_ HB) hb); clear hb hbox hg; have hnb13 := NB181_182.out; have hnc13 := NB182_181.out; have hcz14_0 := bc_0 BK181; have hcz14_1 := bc_1 BK181; have hcz14_2 := bc_2 BK181; have hfz14_0 := blk_frozen BK181.out 0; have hfz14_1 := blk_frozen BK181.out 1; have hfz14_2 := blk_frozen BK181.out 2) | ((with_reducible refine gate_callee (f := 42) rfl ?_); refine goesL_ (some 14) rfl rfl Try.func42 (by kernel_rfl) rfl #[.agg #[.int .i64 a0_0, .int .i64 a0_1, .slice A0_2 l0_2.length c0_2], .int .i64 a1, .int .i64 a2, .int .i64 a0_0] rfl (by (try simp only [l_4, l_5, l_6]); first | done | rfl | (simp only [l_7, l_8]; rfl)) ?_; (with_reducible refine (grid_cut.calls k a0_0 a0_1 (fun k_ => k_ < w.heap.size) _ _ l0_2 a1 a2 a0_0 t183 _ ?side1 A4.out).mono ?_); (case side1 => exact Kd.V_mk HC0_2.out (Kd.F_below (Kd.C_F (Kd.heap_int .i32) HR0_2.out) (bw_ HB))); rintro e w15 ⟨rfl, hb⟩; (try clear A4); refine ⟨_, rfl, ?_⟩; replace BK181 := Aside0.mk (blk_below (tk_ BK181) hb); replace BK182 := Aside0.mk (blk_below (tk_ BK182) hb); replace HB := Aside0.mk (below_step (bw_ HB) hb); (try clear hb); (try clear hb2); (try clear hk); (try clear hi)))
 replace BK181 := Aside0.mk (k_d BK181.out)
 replace BK182 := Aside0.mk (k_d BK182.out)
 replace HB := Aside0.mk (b_d HB.out)
 obtain ⟨i017, hi017, _, hsz17, _⟩ := info_parts info21
 obtain ⟨A17, hcut17, hA17, hC17⟩ := print_mid_of (P := Try.prog) (Value.int .i32) 0 22 21 .i64 .i64 Try.underlying22 hi017 hsz17 A0_2 c0_2 l0_2 (ji6) (wrap64 (a2 * a0_1)) (of_decide_eq_true (by first | (with_reducible assumption) | assumption)) (by first | omega | exact of_decide_eq_true (by first | (with_reducible assumption) | assumption)) (of_decide_eq_true (by first | (with_reducible assumption) | assumption)) HC0_2.out
 have HR184 := Aside0.mk (Kd.C_of_reads (h1 := fun _ => rfl) (hA17 _ (Kd.reads_of_C HR0_2.out)))
 have HC184 := Aside0.mk hC17
 clear hA17 hC17 hi017 hsz17
 refine start_ (n := 20) (S := fun w' => w'.cell? ⟨gb181, 0, none⟩ = some (.int .i64 a0_0) ∧ w'.cell? ⟨gb181, 1, none⟩ = some (.int .i64 a0_1) ∧ w'.cell? ⟨gb181, 2, none⟩ = some (.slice A0_2 l0_2.length c0_2)) (ds := []) #[false, false, false, false, false, false, false, false, false, false, false, false, false, false, false, false, false, false, false, false] (by kernel_rfl) rfl rfl ⟨(blk_cell BK181.out 0).trans rfl, (blk_cell BK181.out 1).trans rfl, (blk_cell BK181.out 2).trans rfl⟩ (fun hHeld => ?_); refine with_tabW grid_Rows.tab4 grid_Rows.bits4 (fun HT_ HW_ => ?_)
 generalize w15.drew = w16 at BK181 BK182 HB HR184 hHeld ⊢
 refine pu_ (i := 0) (N := some 19) (bs_ 20 1) rfl rfl HT_ ?_
 refine pu_ (i := 1) (N := some 20) (bs_ 20 3) rfl rfl HT_ ?_
 refine pu_ (i := 2) (N := some 21) (bs_ 20 7) rfl rfl HT_ ?_
 refine pu_ (i := 3) (N := some 22) (bs_ 20 15) rfl rfl HT_ ?_
 refine pu_ (i := 5) (N := some 24) (bs_ 20 47) rfl rfl HT_ ?_
 refine pu_ (i := 7) (N := some 26) (bs_ 20 175) rfl rfl HT_ ?_
 refine pu_ (i := 8) (N := some 27) (bs_ 20 431) rfl rfl HT_ ?_
 refine pu_ (i := 11) (N := some 30) (bs_ 20 2479) rfl rfl HT_ ?_
 refine pu_ (i := 12) (N := some 31) (bs_ 20 6575) rfl rfl HT_ ?_
 refine take_ (i := 4) (N := some 23) (v := ?_) (a' := ?_) (bs_ 20 6591) rfl rfl (take_ofW HT_.out HW_.out (by kernel_rfl)) (fun _ _ _ h => h) (Or.inl ⟨by rfl, ?_⟩) hHeld ?_ ?_
 rotate_left
 ·
  rintro w' ⟨s0, s1, s2⟩
  go_simp
  with_reducible rfl
 rotate_left
 ·
  simp only [Act.put, l_1, l_2, l_3, i64_w, i32_w]
  rfl
 refine take_ (i := 6) (N := some 25) (v := ?_) (a' := ?_) (bs_ 20 6655) rfl rfl (take_ofW HT_.out HW_.out (by kernel_rfl)) (fun _ _ _ h => h) (Or.inl ⟨by rfl, ?_⟩) hHeld ?_ ?_
 rotate_left
 ·
  rintro w' ⟨s0, s1, s2⟩
  go_simp
  with_reducible rfl
 rotate_left
 ·
  simp only [Act.put, l_1, l_2, l_3, i64_w, i32_w]
  rfl
 refine take_ (i := 9) (N := some 28) (v := ?_) (a' := ?_) (bs_ 20 7167) rfl rfl (take_ofW HT_.out HW_.out (by kernel_rfl)) (fun _ _ _ h => h) (Or.inl ⟨by rfl, ?_⟩) hHeld ?_ ?_
 rotate_left
 ·
  rintro w' ⟨s0, s1, s2⟩
  go_simp
  with_reducible rfl
 rotate_left
 ·
  simp only [Act.put, l_1, l_2, l_3, i64_w, i32_w]
  rfl
 refine pu_ (i := 10) (N := some 29) (bs_ 20 8191) rfl rfl HT_ ?_
 refine take_ (i := 13) (N := some 32) (v := ?_) (a' := ?_) (bs_ 20 16383) rfl rfl (take_ofW HT_.out HW_.out (by kernel_rfl)) (fun _ _ _ h => h) (Or.inl ⟨by rfl, ?_⟩) hHeld ?_ ?_
 rotate_left
 ·
  rintro w' ⟨s0, s1, s2⟩
  go_simp
  with_reducible rfl
 rotate_left
 ·
  simp only [Act.put, l_1, l_2, l_3, i64_w, i32_w]
  rfl
 refine pu_ (i := 14) (N := some 33) (bs_ 20 32767) rfl rfl HT_ ?_
 refine pu_ (i := 15) (N := some 34) (bs_ 20 65535) rfl rfl HT_ ?_
 refine one_ (i := 16) (N := some 35) (bs_ 20 131071) rfl rfl (one_of HT_.out (by kernel_rfl)) (by decide) (fun K hK => ?_)
 refine goes_ Try.func43 (by kernel_rfl) rfl #[.slice A17 ((l0_2.take ((wrap64 (a2 * a0_1)) : Int).toNat).drop ((ji6) : Int).toNat).length (c0_2 - (ji6).toNat)] (by rfl) rfl rfl (by (try simp only [l_4, l_5, l_6]); first | done | (rw [show ((l0_2.take ((wrap64 (a2 * a0_1)) : Int).toNat).drop ((ji6) : Int).toNat).length = ((wrap64 (a2 * a0_1)).toNat - (ji6).toNat) from (by rw [l_7, l_8]; have h_ : ((wrap64 (a2 * a0_1)) : Int) ≤ (l0_2.length : Int) := of_decide_eq_true (by first | (with_reducible assumption) | assumption); omega)] <;> rfl) | (simp only [hji6]; rfl) | rfl | (simp only [l_7, l_8]; rfl)) ?_
 with_reducible refine (slices_Clone_int32_int32.calls _ _ ((l0_2.take ((wrap64 (a2 * a0_1)) : Int).toNat).drop ((ji6) : Int).toNat) t185 _ ?side1 ?side2 A10.out).mono ?_
 (case side1 => repeat (first | exact (Kd.C_below HR184.out HB.out) | (with_reducible refine Kd.C_alloc ?_ _) | (with_reducible refine Kd.C_drewN ?_ _) | (with_reducible refine Kd.C_drew ?_)))
 (case side2 => exact HC184.out)
 rintro e w18 ⟨v186, rfl, ho0, hb⟩
 refine ⟨_, rfl, ?_⟩
 have HO187 := Aside0.mk (Kd.R_lower ho0 (below_size (bw_ HB)))
 replace BK181 := Aside0.mk (blk_below (tk_ BK181) hb)
 replace BK182 := Aside0.mk (blk_below (tk_ BK182) hb)
 replace HB := Aside0.mk (below_step (bw_ HB) hb)
 (try clear hb)
 (try clear hb2)
 (try clear hk)
 (try clear hi)
 (try clear ho0)
 obtain ⟨Ao19, co19, eo19⟩ := Kd.R_slice HO187.out
 (first | subst eo19 | (injection eo19 with f1_ f2_ f3_; have f4_ := f1_.symm; have f5_ := f3_.symm; clear f1_ f2_ f3_; subst f4_; subst f5_))
 refine hK.out _ _ ⟨(blk_cell BK181.out 0).trans rfl, (blk_cell BK181.out 1).trans rfl, (blk_cell BK181.out 2).trans rfl⟩ (fun hHeld => ?_)
 clear hK K
 refine no_ (N := some 35) ?_
 refine pu_ (i := 17) (N := some 36) (bs_ 20 262143) rfl rfl HT_ ?_
 refine one_ (i := 18) (N := none) (bs_ 20 524287) rfl rfl (one_of HT_.out (by kernel_rfl)) (by decide) (fun K hK => ?_)
 have hs20 := bc_0 BK182
 have hfs20 := blk_frozen BK182.out 0
 have hns20_0 := NB181_182.out
 have hms20_0 := NB182_181.out
 have hs21 := bc_1 BK182
 have hfs21 := blk_frozen BK182.out 1
 have hns21_0 := NB181_182.out
 have hms21_0 := NB182_181.out
 have hs22 := bc_2 BK182
 have hfs22 := blk_frozen BK182.out 2
 have hns22_0 := NB181_182.out
 have hms22_0 := NB182_181.out
 refine skip_ (w1 := ?_) (by rfl) rfl ?_ ?_
 rotate_left
 ·
  go_simp
  rfl
 refine hK.out _ _ ⟨((cell_far (p := ⟨gb182, _, none⟩) NB181_182.out _).trans (((cell_far (p := ⟨gb182, _, none⟩) NB181_182.out _).trans (((cell_far (p := ⟨gb182, _, none⟩) NB181_182.out _).trans (hHeld.1)))))), ((cell_far (p := ⟨gb182, _, none⟩) NB181_182.out _).trans (((cell_far (p := ⟨gb182, _, none⟩) NB181_182.out _).trans (((cell_far (p := ⟨gb182, _, none⟩) NB181_182.out _).trans (hHeld.2.1)))))), ((cell_far (p := ⟨gb182, _, none⟩) NB181_182.out _).trans (((cell_far (p := ⟨gb182, _, none⟩) NB181_182.out _).trans (((cell_far (p := ⟨gb182, _, none⟩) NB181_182.out _).trans (hHeld.2.2))))))⟩ (fun hHeld => ?_)
 clear hK K
 refine pu_ (i := 19) (N := some 7) (bs_ 20 1048575) rfl rfl HT_ ?_
 refine done_ (done_of HT_.out (by kernel_rfl)) ?_
 try go_wp2
 refine bodyPost_ret (results_ct rfl _ _ gb182 24 #[.int .i64 (wrap64 (a2 - a1)), .int .i64 a0_1, .slice Ao19 t185.length co19] (0, 0) _ rfl (by (with_reducible repeat (first | refine k_n ?_ _ | refine k_d ?_ | refine k_a ?_ _)); refine blk_put (cs := #[.int .i64 (wrap64 (a2 - a1)), .int .i64 a0_1, .slice none 0 0]) ?_ 2 _ rfl; (with_reducible repeat (first | refine k_n ?_ _ | refine k_d ?_ | refine k_a ?_ _)); refine blk_put (cs := #[.int .i64 (wrap64 (a2 - a1)), .int .i64 0, .slice none 0 0]) ?_ 1 _ rfl; (with_reducible repeat (first | refine k_n ?_ _ | refine k_d ?_ | refine k_a ?_ _)); refine blk_put (cs := #[.int .i64 0, .int .i64 0, .slice none 0 0]) ?_ 0 _ rfl; (with_reducible repeat (first | refine k_n ?_ _ | refine k_d ?_ | refine k_a ?_ _)); exact BK182.out) Try.underlying24 rfl (by kernel_rfl)) rfl ?_
 exact ⟨_, by first | rfl | (simp [errW_none, errW_some] <;> rfl) | (simp only [← hji6]; first | rfl | (simp [errW_none, errW_some] <;> rfl)) | (simp [*, errW_none, errW_some] <;> rfl), by (with_reducible repeat (first | apply Kd.R_alloc | apply Kd.R_drewN | apply Kd.R_drew)); exact Kd.R_mono (Kd.R_far (p := ⟨gb182, 2, none⟩) (Kd.R_far (p := ⟨gb182, 1, none⟩) (Kd.R_far (p := ⟨gb182, 0, none⟩) (Kd.R_types HO187.out BK182.out (by decide)) (fun _ hk => hk.2) (.int .i64 (wrap64 (a2 - a1)))) (fun _ hk => hk.2) (.int .i64 a0_1)) (fun _ hk => hk.2) (.slice Ao19 t185.length co19)) (fun _ hk => trivial), by repeat (first | (with_reducible first | exact HB.out | apply b_a | apply b_n | apply b_d | refine b_s ?_ GE181.out | refine b_s ?_ GE182.out) | exact HB.out)⟩
end Go.Proofs.Ytggcgacndknlaaa.QGridParts
