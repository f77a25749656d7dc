-- Written by a program of this session (a turned copy of the print) out of the translation. Lean checks it.
import Derived.Test.YtggcgacndknlaaaQGridLaysx0
import Derived.Test.YtggcgacndknlaaaQGridLaysx6
import Derived.Test.YtggcgacndknlaaaQGridLaysx8
namespace Go.Proofs.Ytggcgacndknlaaa.QGridLays
open Go.RowKit Go.Proofs.YtggcgacndknlaaaW.PrintWords Go.Proofs.YtggcgacndknlaaaW.PrintLast Go.Proofs.YtggcgacndknlaaaW.PrintMore
attribute [local go_sem] max2_int min2_int max_two min_two max_three min_three max_four min_four   -- for this text's walks alone
open Go.Proofs.YtggcgacndknlaaaW.PrintWords renaming below_alloc → b_a, pw_below_drewN → b_n, below_drew1 → b_d, below_set → b_s, blk_drewN → k_n, blk_drew → k_d, blk_alloc → k_a
open List renaming setIfInBounds_toArray → l_1, set_cons_zero → l_2, set_cons_succ → l_3, map_toArray → l_4, map_cons → l_5, map_nil → l_6, length_drop → l_7, length_take → l_8
set_option linter.unusedVariables false
set_option linter.unusedSimpArgs false

/-! ### pelotonref03_Add: function 29 -/
mutual
def pelotonref03_Add.l0 : Nat → List (S24) → Int → Option (Int × Int × List Int × Bool)
 | 0, _, _ => none
 | k + 1, x0, x4 => if x4 < (x0.length : Int) then (if 0 ≤ x4 then ((pelotonref03_Fit.f ((rd_T24 x0 x4).f0) ((rd_T24 x0 x4).f1) ((rd_T24 x0 x4).f2)).bind fun t236 => (if t236 = true then (if 0 < (x0.length : Int) then (if ((rd_T24 x0 x4).f0) = ((rd_T24 x0 0).f0) then (if ((rd_T24 x0 x4).f1) = ((rd_T24 x0 0).f1) then (pelotonref03_Add.l0 k x0 (wrap64 (x4 + 1))) else (some (0, 0, ([] : List Int), false))) else (some (0, 0, ([] : List Int), false))) else (none)) else (some (0, 0, ([] : List Int), false)))) else (none)) else (if (x0.length : Int) = 0 then (some (0, 0, ([] : List Int), true)) else (if 0 < (x0.length : Int) then (pelotonref03_Add.l1 k x0 0 ((rd_T24 x0 0).f0) ((rd_T24 x0 0).f1) ([] : List Int)) else (none)))
def pelotonref03_Add.l1 : Nat → List (S24) → Int → Int → Int → List Int → Option (Int × Int × List Int × Bool)
 | 0, _, _, _, _, _ => none
 | k + 1, x0, x6, x244000, x244001, x244002 => if 0 < (x0.length : Int) then (if x6 < (((rd_T24 x0 0).f2).length : Int) then (pelotonref03_Add.l2 k x0 x6 ([] : List Int) 0 x244000 x244001 x244002) else (some (x244000, x244001, x244002, true))) else (none)
def pelotonref03_Add.l2 : Nat → List (S24) → Int → List Int → Int → Int → Int → List Int → Option (Int × Int × List Int × Bool)
 | 0, _, _, _, _, _, _, _ => none
 | k + 1, x0, x6, x7, x8, x244000, x244001, x244002 => if x8 < (x0.length : Int) then (if 0 ≤ x8 then (if 0 ≤ x6 then (if x6 < (((rd_T24 x0 x8).f2).length : Int) then (if x7.length < 17592186044416 then (pelotonref03_Add.l2 k x0 x6 (x7 ++ [wrap64 (rd ((rd_T24 x0 x8).f2) x6)]) (wrap64 (x8 + 1)) x244000 x244001 x244002) else (none)) else (none)) else (none)) else (none)) else ((pelotonref01_Wrap.f k x7).bind fun t250 => (if x244002.length < 35184372088832 then (pelotonref03_Add.l1 k x0 (wrap64 (x6 + 1)) x244000 x244001 (x244002 ++ [t250])) else (none)))
end
def pelotonref03_Add.f (k : Nat) (l0 : List (S24)) : Option (Int × Int × List Int × Bool) := pelotonref03_Add.l0 k l0 0
theorem pelotonref03_Add.mono_l : ∀ k, (∀ y0 y1, LeO (pelotonref03_Add.l0 k y0 y1) (pelotonref03_Add.l0 (k + 1) y0 y1)) ∧ (∀ y0 y1 y2 y3 y4, LeO (pelotonref03_Add.l1 k y0 y1 y2 y3 y4) (pelotonref03_Add.l1 (k + 1) y0 y1 y2 y3 y4)) ∧ (∀ y0 y1 y2 y3 y4 y5 y6, LeO (pelotonref03_Add.l2 k y0 y1 y2 y3 y4 y5 y6) (pelotonref03_Add.l2 (k + 1) y0 y1 y2 y3 y4 y5 y6))
 | 0 => ⟨fun _ _ r h => by simp [pelotonref03_Add.l0] at h, fun _ _ _ _ _ r h => by simp [pelotonref03_Add.l1] at h, fun _ _ _ _ _ _ _ r h => by simp [pelotonref03_Add.l2] at h⟩
 | k + 1 => by
  obtain ⟨ih0, ih1, ih2⟩ := pelotonref03_Add.mono_l k
  refine ⟨?_, ?_, ?_⟩
  ·
   intro y0 y1
   unfold pelotonref03_Add.l0
   repeat' first
   | (with_reducible exact ih0 _ _)
   | (with_reducible exact ih1 _ _ _ _ _)
   | (with_reducible exact ih2 _ _ _ _ _ _ _)
   | (with_reducible exact pelotonref01_Wrap.mono _ _)
   | (with_reducible exact LeO.refl _)
   | (with_reducible exact LeO.none _)
   | (with_reducible refine LeO.ite ?_ ?_)
   | (with_reducible refine LeO.bind ?_ (fun _ => ?_))
   | exact ih0 _ _
   | exact ih1 _ _ _ _ _
   | exact ih2 _ _ _ _ _ _ _
   | exact pelotonref01_Wrap.mono _ _
   | exact LeO.none _
   | refine LeO.ite ?_ ?_
   | refine LeO.bind ?_ (fun _ => ?_)
  ·
   intro y0 y1 y2 y3 y4
   unfold pelotonref03_Add.l1
   repeat' first
   | (with_reducible exact ih0 _ _)
   | (with_reducible exact ih1 _ _ _ _ _)
   | (with_reducible exact ih2 _ _ _ _ _ _ _)
   | (with_reducible exact pelotonref01_Wrap.mono _ _)
   | (with_reducible exact LeO.refl _)
   | (with_reducible exact LeO.none _)
   | (with_reducible refine LeO.ite ?_ ?_)
   | (with_reducible refine LeO.bind ?_ (fun _ => ?_))
   | exact ih0 _ _
   | exact ih1 _ _ _ _ _
   | exact ih2 _ _ _ _ _ _ _
   | exact pelotonref01_Wrap.mono _ _
   | exact LeO.none _
   | refine LeO.ite ?_ ?_
   | refine LeO.bind ?_ (fun _ => ?_)
  ·
   intro y0 y1 y2 y3 y4 y5 y6
   unfold pelotonref03_Add.l2
   repeat' first
   | (with_reducible exact ih0 _ _)
   | (with_reducible exact ih1 _ _ _ _ _)
   | (with_reducible exact ih2 _ _ _ _ _ _ _)
   | (with_reducible exact pelotonref01_Wrap.mono _ _)
   | (with_reducible exact LeO.refl _)
   | (with_reducible exact LeO.none _)
   | (with_reducible refine LeO.ite ?_ ?_)
   | (with_reducible refine LeO.bind ?_ (fun _ => ?_))
   | exact ih0 _ _
   | exact ih1 _ _ _ _ _
   | exact ih2 _ _ _ _ _ _ _
   | exact pelotonref01_Wrap.mono _ _
   | exact LeO.none _
   | refine LeO.ite ?_ ?_
   | refine LeO.bind ?_ (fun _ => ?_)
theorem pelotonref03_Add.mono : ∀ a0 k, LeO (pelotonref03_Add.f k a0) (pelotonref03_Add.f (k + 1) a0) := by
 intro a0 k
 obtain ⟨ih0, ih1, ih2⟩ := pelotonref03_Add.mono_l k
 unfold pelotonref03_Add.f
 repeat' first
   | (with_reducible exact ih0 _ _)
   | (with_reducible exact ih1 _ _ _ _ _)
   | (with_reducible exact ih2 _ _ _ _ _ _ _)
   | (with_reducible exact pelotonref01_Wrap.mono _ _)
   | (with_reducible exact LeO.refl _)
   | (with_reducible exact LeO.none _)
   | (with_reducible refine LeO.ite ?_ ?_)
   | (with_reducible refine LeO.bind ?_ (fun _ => ?_))
   | exact ih0 _ _
   | exact ih1 _ _ _ _ _
   | exact ih2 _ _ _ _ _ _ _
   | exact pelotonref01_Wrap.mono _ _
   | exact LeO.none _
   | refine LeO.ite ?_ ?_
   | refine LeO.bind ?_ (fun _ => ?_)
def pelotonref03_Add.T4 : Bool × List (List Nat × List Nat) := (true, [([], []), ([], []), ([0, 1], [0, 1]), ([2], [2]), ([3], [3]), ([4], [4]), ([5, 4], [5]), ([6], [6]), ([6], [6]), ([7, 8, 6], [6, 7, 8]), ([9, 6], [6, 9]), ([10, 6], [6, 10]), ([6], [6]), ([12, 6], [6, 12]), ([13, 6], [6, 13]), ([14, 6], [6, 14]), ([11, 15, 6], [6, 11, 15]), ([6, 16], [6, 16]), ([17, 6], [17]), ([18], [18]), ([18], [18]), ([19, 20, 18], [18, 19, 20]), ([21, 18], [18, 21]), ([22, 18], [18, 22]), ([18], [18]), ([24, 18], [18, 24]), ([25, 18], [18, 25]), ([26, 18], [18, 26]), ([23, 27, 18], [18, 23, 27]), ([18, 28], [18, 28])])
def pelotonref03_Add.B4 : List Nat := [0, 0, 3, 7, 15, 31, 63, 127, 127, 511, 1023, 2047, 127, 4223, 12415, 28799, 65535, 131071, 262143, 524287, 524287, 2097151, 4194303, 8388607, 524287, 17301503, 50855935, 117964799, 268435455, 536870911]
theorem pelotonref03_Add.tab4 : rtab .any (opsOf Try.f29 4) = pelotonref03_Add.T4 := by kernel_rfl
theorem pelotonref03_Add.bits4 : waitsOk pelotonref03_Add.T4.2 pelotonref03_Add.B4 = true := by kernel_rfl
def pelotonref03_Add.T8 : Bool × List (List Nat × List Nat) := (true, [([], []), ([0], [0]), ([1], [1]), ([2], [2]), ([], []), ([4], [4]), ([5], [5]), ([6], [6]), ([3, 7], [3, 7]), ([], []), ([9, 8, 0, 1, 2, 3, 4, 5, 6, 7, 8, 9], [8, 9])])
def pelotonref03_Add.B8 : List Nat := [0, 1, 3, 7, 0, 16, 48, 112, 255, 0, 1023]
theorem pelotonref03_Add.tab8 : rtab .any (opsOf Try.f29 8) = pelotonref03_Add.T8 := by kernel_rfl
theorem pelotonref03_Add.bits8 : waitsOk pelotonref03_Add.T8.2 pelotonref03_Add.B8 = true := by kernel_rfl
def pelotonref03_Add.T17 : Bool × List (List Nat × List Nat) := (true, [([], []), ([0], [0]), ([], []), ([2], [2]), ([3], [3]), ([1, 4, 3], [1, 4]), ([0, 1, 2, 3, 4, 5], []), ([6, 5, 5, 0, 1, 2, 3, 4, 5], [5, 6])])
def pelotonref03_Add.B17 : List Nat := [0, 1, 0, 4, 12, 31, 63, 127]
theorem pelotonref03_Add.tab17 : rtab .any (opsOf Try.f29 17) = pelotonref03_Add.T17 := by kernel_rfl
theorem pelotonref03_Add.bits17 : waitsOk pelotonref03_Add.T17.2 pelotonref03_Add.B17 = true := by kernel_rfl
set_option maxHeartbeats 60000000 in
set_option maxRecDepth 100000 in
theorem pelotonref03_Add.calls (k : Nat) (A0 : Option Addr) (c0 : Nat) (l0 : List (S24)) (r1 : Int) (r2 : Int) (r3 : List Int) (r4 : Bool) (w : World) (hr0 : Kd.C k24 w A0 l0.length l0) (hc0 : l0.length ≤ c0) (h : pelotonref03_Add.f k l0 = some (r1, r2, r3, r4)) :
  Calls Try.prog 29 #[.slice A0 l0.length c0] w fun e w' => ∃ v2_ : Value, e = .returned (.tuple #[.agg #[.int .i64 r1, .int .i64 r2, v2_], .bool r4]) ∧ Kd.R (Kd.int .i32) 21 w' w.heap.size (fun _ => True) v2_ r3 ∧ Below w.heap.size w w' := by
 have hu24 := Try.underlying24
 have HR0 := Aside0.mk hr0
 have HC0 := Aside0.mk hc0
 clear hr0 hc0
 have HB := Aside0.mk (Below.refl w.heap.size w)
 have H : (pelotonref03_Add.l0 k l0 0) = some (r1, r2, r3, r4) := h
 clear h
 have H' := Aside0.mk H
 clear H
 go_enter Try.func29, Try.ntmps29
 go_wp2_with (first | ((with_reducible refine gate_dst (N := 2) rfl ?_); refine box_event ?hg (N := 2) ?hd (cs := #[.int .i64 0, .int .i64 0, .slice none 0 0]) (t := 24) ?hr ?_; (case hd => rfl); (case hg => rfl); (case hr => first | (go_simp; done) | (go_simp; rfl)); intro gb234 hg w2 hbox hb; have BK234 := Aside0.mk (hbox); have GW234 := Aside0.mk ((by rw [hg]; exact (below_size (bw_ HB)) : w.heap.size ≤ gb234)); have GE234 := Aside0.mk ((by rw [hg]; exact (below_size (bw_ HB)) : w.heap.size ≤ gb234)); replace HB := Aside0.mk (below_step (bw_ HB) hb); clear hb hbox hg))
 go_loopg [4] k (fun kq v4 w' => ∃ (x4_1 : Int) (x235000_1 : Int) (x235001_1 : Int), v4 = .int .i64 x4_1 ∧ Aside0 (pelotonref03_Add.l0 kq l0 x4_1 = some (r1, r2, r3, r4)) ∧ Aside0 (kq ≤ k) ∧ Aside0 (w'.heap[gb234]? = some (.cells #[.int .i64 x235000_1, .int .i64 x235001_1, (.slice none 0 0)] 24 (0, 0))) ∧ Aside0 (Below w.heap.size w w'))
 case atStart => exact ⟨(0), (0), (0), (by first | rfl | (simp; done) | (simp [*]; done)), H', ⟨Nat.le_refl _⟩, ⟨tk_ BK234⟩, ⟨by repeat (first | (with_reducible first | exact HB.out | apply b_a | apply b_n | apply b_d | refine b_s ?_ GE234.out) | exact HB.out)⟩⟩
 case round =>
  clear H'
  try clear c2
  try clear p2
  obtain ⟨x4_1, x235000_1, x235001_1, rfl, HA, HK1, BK234, HB⟩ := hrel
  cases gk with
  | zero => exact absurd HA.out (by simp [pelotonref03_Add.l0])
  | succ k1 =>
   have H := HA.out
   clear HA
   simp only [pelotonref03_Add.l0] at H
   by_cases c3 : x4_1 < (l0.length : Int)
   rotate_left
   ·
    rw [if_neg c3] at H
    have c3b0 : decide (x4_1 < (l0.length : Int)) = false := decide_eq_false c3
    clear c3
    by_cases c19 : (l0.length : Int) = 0
    ·
     rw [if_pos c19] at H
     have c19b0 : ((l0.length : Int) == 0) = true := beq_iff_eq.mpr c19
     have c19b1 : ((l0.length : Int) != 0) = false := bne_eq_false_iff_eq.mpr c19
     clear c19
     simp only [Option.some.injEq, Prod.mk.injEq] at H
     obtain ⟨rfl, rfl, rfl, rfl⟩ := H
     have hcz20_0 := bc_0 BK234
     have hcz20_1 := bc_1 BK234
     have hcz20_2 := bc_2 BK234
     have hfz20_0 := blk_frozen BK234.out 0
     have hfz20_1 := blk_frozen BK234.out 1
     have hfz20_2 := blk_frozen BK234.out 2
     go_wp2
     refine bodyPost_ret (results_ct rfl _ _ gb234 24 #[.int .i64 0, .int .i64 0, .slice none 0 0] (0, 0) _ rfl (by (with_reducible repeat (first | refine k_n ?_ _ | refine k_d ?_ | refine k_a ?_ _)); refine blk_put (cs := #[.int .i64 0, .int .i64 0, .slice none 0 0]) ?_ 2 _ rfl; (with_reducible repeat (first | refine k_n ?_ _ | refine k_d ?_ | refine k_a ?_ _)); refine blk_put (cs := #[.int .i64 0, .int .i64 x235001_1, .slice none 0 0]) ?_ 1 _ rfl; (with_reducible repeat (first | refine k_n ?_ _ | refine k_d ?_ | refine k_a ?_ _)); refine blk_put (cs := #[.int .i64 x235000_1, .int .i64 x235001_1, .slice none 0 0]) ?_ 0 _ rfl; (with_reducible repeat (first | refine k_n ?_ _ | refine k_d ?_ | refine k_a ?_ _)); exact BK234.out) Try.underlying24 rfl (by kernel_rfl)) rfl ?_
     exact ⟨_, by first | rfl | (simp [errW_none, errW_some] <;> rfl) | (simp [*, errW_none, errW_some] <;> rfl), by first | exact Kd.R_nil _ _ _ _ _ | exact Kd.N_nil _ _ _ _ _ | exact Kd.V_nil _ _ _ _ _ | exact Kd.Q_nil _ _ _ _ _ | exact Kd.S_nil _ _ _ _ _, by repeat (first | (with_reducible first | exact HB.out | apply b_a | apply b_n | apply b_d | refine b_s ?_ GE234.out) | exact HB.out)⟩
    rw [if_neg c19] at H
    have c19b0 : ((l0.length : Int) == 0) = false := beq_eq_false_iff_ne.mpr c19
    have c19b1 : ((l0.length : Int) != 0) = true := bne_iff_ne.mpr c19
    have c19b2 : ¬ (l0 = []) := fun h_ => c19 (by rw [h_]; rfl)
    by_cases c21 : 0 < (l0.length : Int)
    rotate_left
    ·
     rw [if_neg c21] at H
     exact absurd H (by simp)

    rw [if_pos c21] at H
    have c21b0 : decide (0 < (l0.length : Int)) = true := decide_eq_true c21
    have c21b1 : decide (0 < l0.length) = true := decide_eq_true (by omega)
    clear c21
    have H' := Aside0.mk H
    clear H
    try go_wp2
    replace BK234 := Aside0.mk (k_d BK234.out)
    replace HB := Aside0.mk (b_d HB.out)
    have p241 : 0 ≤ (0 : Int) := (by omega)
    have q241 : 0 < (l0.length : Int) := of_decide_eq_true (by first | (with_reducible assumption) | assumption)
    obtain ⟨ad241, A241_2, c241_2, e241, hx241_0, hx241_1, hx241_2, hl241_2, hi241_2⟩ := at_T24 HR0.out 0 p241 q241
    have hw241_2 := hx241_2
    (try rw [show ((0 : Int)).toNat = 0 from rfl] at hw241_2)
    (try rw [show 0 * 3 = 0 from rfl] at hw241_2)
    (try rw [Addr.add_zero'] at hw241_2)
    have hw241_1 := hx241_1
    (try rw [show ((0 : Int)).toNat = 0 from rfl] at hw241_1)
    (try rw [show 0 * 3 = 0 from rfl] at hw241_1)
    (try rw [Addr.add_zero'] at hw241_1)
    have hw241_0 := hx241_0
    (try rw [show ((0 : Int)).toNat = 0 from rfl] at hw241_0)
    (try rw [show 0 * 3 = 0 from rfl] at hw241_0)
    (try rw [Addr.add_zero'] at hw241_0)
    cases e241
    have qi241 : (0 < l0.length) = True := eq_true (by omega)
    (try rw [show ((0 : Int)).toNat = 0 from rfl] at hx241_0)
    (try rw [show 0 * 3 = 0 from rfl] at hx241_0)
    (try rw [Addr.add_zero'] at hx241_0)
    (try rw [show ((0 : Int)).toNat = 0 from rfl] at hx241_1)
    (try rw [show 0 * 3 = 0 from rfl] at hx241_1)
    (try rw [Addr.add_zero'] at hx241_1)
    (try rw [show ((0 : Int)).toNat = 0 from rfl] at hx241_2)
    (try rw [show 0 * 3 = 0 from rfl] at hx241_2)
    (try rw [Addr.add_zero'] at hx241_2)
    replace hx241_0 := cb_ HB hx241_0
    replace hx241_1 := cb_ HB hx241_1
    replace hx241_2 := cb_ HB hx241_2
    have HR241_2 := Aside0.mk hi241_2
    have HC241_2 := Aside0.mk hl241_2
    clear hi241_2 hl241_2
    replace p241 := eq_true p241
    replace q241 := eq_true q241
    have p242 : 0 ≤ (0 : Int) := (by omega)
    have q242 : 0 < (l0.length : Int) := of_decide_eq_true (by first | (with_reducible assumption) | assumption)
    obtain ⟨ad242, A242_2, c242_2, e242, hx242_0, hx242_1, hx242_2, hl242_2, hi242_2⟩ := at_T24 HR0.out 0 p242 q242
    have hw242_2 := hx242_2
    (try rw [show ((0 : Int)).toNat = 0 from rfl] at hw242_2)
    (try rw [show 0 * 3 = 0 from rfl] at hw242_2)
    (try rw [Addr.add_zero'] at hw242_2)
    have hw242_1 := hx242_1
    (try rw [show ((0 : Int)).toNat = 0 from rfl] at hw242_1)
    (try rw [show 0 * 3 = 0 from rfl] at hw242_1)
    (try rw [Addr.add_zero'] at hw242_1)
    have hw242_0 := hx242_0
    (try rw [show ((0 : Int)).toNat = 0 from rfl] at hw242_0)
    (try rw [show 0 * 3 = 0 from rfl] at hw242_0)
    (try rw [Addr.add_zero'] at hw242_0)
    obtain rfl : ad241 = ad242 := (by injection e242)
    have qi242 : (0 < l0.length) = True := eq_true (by omega)
    (try rw [show ((0 : Int)).toNat = 0 from rfl] at hx242_0)
    (try rw [show 0 * 3 = 0 from rfl] at hx242_0)
    (try rw [Addr.add_zero'] at hx242_0)
    (try rw [show ((0 : Int)).toNat = 0 from rfl] at hx242_1)
    (try rw [show 0 * 3 = 0 from rfl] at hx242_1)
    (try rw [Addr.add_zero'] at hx242_1)
    (try rw [show ((0 : Int)).toNat = 0 from rfl] at hx242_2)
    (try rw [show 0 * 3 = 0 from rfl] at hx242_2)
    (try rw [Addr.add_zero'] at hx242_2)
    replace hx242_0 := cb_ HB hx242_0
    replace hx242_1 := cb_ HB hx242_1
    replace hx242_2 := cb_ HB hx242_2
    have HR242_2 := Aside0.mk hi242_2
    have HC242_2 := Aside0.mk hl242_2
    clear hi242_2 hl242_2
    replace p242 := eq_true p242
    replace q242 := eq_true q242
    have ea_ := Option.some.inj (hx241_2.symm.trans hx242_2)
    injection ea_ with ea_ en_ ec_
    subst ea_
    subst ec_
    clear en_
    refine start_ (n := 11) (S := fun w' => w'.cell? ad241 = some (.int .i64 ((rd_T24 l0 0).f0)) ∧ w'.cell? ⟨ad241.block, ad241.off + 1, none⟩ = some (.int .i64 ((rd_T24 l0 0).f1)) ∧ w'.cell? ⟨ad241.block, ad241.off + 2, none⟩ = some (.slice A241_2 ((rd_T24 l0 0).f2).length c241_2) ∧ w'.cell? ad241 = some (.int .i64 ((rd_T24 l0 0).f0)) ∧ w'.cell? ⟨ad241.block, ad241.off + 1, none⟩ = some (.int .i64 ((rd_T24 l0 0).f1)) ∧ w'.cell? ⟨ad241.block, ad241.off + 2, none⟩ = some (.slice A241_2 ((rd_T24 l0 0).f2).length c241_2)) (ds := []) #[false, false, false, false, false, false, false, false, false, false, false] (by kernel_rfl) rfl rfl ⟨(cb_ HB hw241_0), (cb_ HB hw241_1), (cb_ HB hw241_2), (cb_ HB hw242_0), (cb_ HB hw242_1), (cb_ HB hw242_2)⟩ (fun hHeld => ?_); refine with_tabW pelotonref03_Add.tab8 pelotonref03_Add.bits8 (fun HT_ HW_ => ?_)
    generalize wr.drew = w22 at BK234 HB HR241_2 HR242_2 hx241_0 hx241_1 hx241_2 hx242_0 hx242_1 hx242_2 hHeld ⊢
    refine pu_ (i := 0) (N := some 50) (bs_ 11 1) rfl rfl HT_ ?_
    refine pu_ (i := 1) (N := some 51) (bs_ 11 3) rfl rfl HT_ ?_
    refine pu_ (i := 2) (N := some 52) (bs_ 11 7) rfl rfl HT_ ?_
    refine pu_ (i := 4) (N := some 54) (bs_ 11 23) rfl rfl HT_ ?_
    refine pu_ (i := 5) (N := some 55) (bs_ 11 55) rfl rfl HT_ ?_
    refine pu_ (i := 6) (N := some 56) (bs_ 11 119) rfl rfl HT_ ?_
    refine take_ (i := 3) (N := some 53) (v := ?_) (a' := ?_) (bs_ 11 127) rfl rfl (take_ofW HT_.out HW_.out (by kernel_rfl)) (fun _ _ _ h => h) (Or.inl ⟨by rfl, ?_⟩) hHeld ?_ ?_
    rotate_left
    ·
     rintro w' ⟨s0, s1, s2, s3, s4, s5⟩
     go_simp
     with_reducible rfl
    rotate_left
    ·
     simp only [Act.put, l_1, l_2, l_3, i64_w, i32_w]
     rfl
    refine take_ (i := 7) (N := some 57) (v := ?_) (a' := ?_) (bs_ 11 255) rfl rfl (take_ofW HT_.out HW_.out (by kernel_rfl)) (fun _ _ _ h => h) (Or.inl ⟨by rfl, ?_⟩) hHeld ?_ ?_
    rotate_left
    ·
     rintro w' ⟨s0, s1, s2, s3, s4, s5⟩
     go_simp
     with_reducible rfl
    rotate_left
    ·
     simp only [Act.put, l_1, l_2, l_3, i64_w, i32_w]
     rfl
    refine pu_ (i := 8) (N := some 58) (bs_ 11 511) rfl rfl HT_ ?_
    refine one_ (i := 9) (N := some 5) (bs_ 11 1023) rfl rfl (one_of HT_.out (by kernel_rfl)) (by decide) (fun K hK => ?_)
    refine box_step ?hg (N := 5) ?hd (cs := #[.int .i64 0, .int .i64 0, .slice none 0 0]) (t := 24) ?hr ?_; (case hd => rfl); (case hg => rfl); (case hr => first | (go_simp; done) | (go_simp; rfl))
    intro gb243 hg w23 hbox hb
    have BK243 := Aside0.mk (hbox)
    have GW243 := Aside0.mk ((by rw [hg]; exact (below_size (bw_ HB)) : w.heap.size ≤ gb243))
    have GE243 := Aside0.mk ((by rw [hg]; exact (below_size (bw_ HB)) : w.heap.size ≤ gb243))
    have NB234_243 := Aside0.mk ((by rw [hg]; exact Nat.ne_of_lt (blk_lt (tk_ BK234)) : gb234 ≠ gb243))
    have NB243_234 := Aside0.mk ((by rw [hg]; exact Nat.ne_of_gt (blk_lt (tk_ BK234)) : gb243 ≠ gb234))
    replace BK234 := Aside0.mk (blk_below (tk_ BK234) hb)
    replace HB := Aside0.mk (below_step (bw_ HB) hb)
    clear hb hbox hg
    refine hK.out _ _ ⟨(cb_ HB hw241_0), (cb_ HB hw241_1), (cb_ HB hw241_2), (cb_ HB hw242_0), (cb_ HB hw242_1), (cb_ HB hw242_2)⟩ (fun hHeld => ?_)
    clear hK K
    refine no_ (N := some 5) ?_
    refine one_ (i := 10) (N := none) (bs_ 11 2047) rfl rfl (one_of HT_.out (by kernel_rfl)) (by decide) (fun K hK => ?_)
    have hs24 := bc_0 BK243
    have hfs24 := blk_frozen BK243.out 0
    have hns24_0 := NB234_243.out
    have hms24_0 := NB243_234.out
    have hs25 := bc_1 BK243
    have hfs25 := blk_frozen BK243.out 1
    have hns25_0 := NB234_243.out
    have hms25_0 := NB243_234.out
    have hs26 := bc_2 BK243
    have hfs26 := blk_frozen BK243.out 2
    have hns26_0 := NB234_243.out
    have hms26_0 := NB243_234.out
    refine skip_ (w1 := ?_) (by rfl) rfl ?_ ?_
    rotate_left
    ·
     go_simp
     rfl
    refine hK.out _ _ ⟨((cell_far (p := ⟨gb243, _, none⟩) (by first | exact Nat.ne_of_lt (Nat.lt_of_lt_of_le (by have := World.block_lt_of_cell? _ _ hw241_0; first | rwa [add_block] at this | exact this) GW243.out) | (rw [add_block]; exact Nat.ne_of_lt (Nat.lt_of_lt_of_le (by have := World.block_lt_of_cell? _ _ hw241_0; first | rwa [add_block] at this | exact this) GW243.out)) | (show (Addr.add _ _).block ≠ _; rw [add_block]; exact Nat.ne_of_lt (Nat.lt_of_lt_of_le (by have := World.block_lt_of_cell? _ _ hw241_0; first | rwa [add_block] at this | exact this) GW243.out)) | (dsimp only; exact Nat.ne_of_lt (Nat.lt_of_lt_of_le (by have := World.block_lt_of_cell? _ _ hw241_0; first | rwa [add_block] at this | exact this) GW243.out))) _).trans (((cell_far (p := ⟨gb243, _, none⟩) (by first | exact Nat.ne_of_lt (Nat.lt_of_lt_of_le (by have := World.block_lt_of_cell? _ _ hw241_0; first | rwa [add_block] at this | exact this) GW243.out) | (rw [add_block]; exact Nat.ne_of_lt (Nat.lt_of_lt_of_le (by have := World.block_lt_of_cell? _ _ hw241_0; first | rwa [add_block] at this | exact this) GW243.out)) | (show (Addr.add _ _).block ≠ _; rw [add_block]; exact Nat.ne_of_lt (Nat.lt_of_lt_of_le (by have := World.block_lt_of_cell? _ _ hw241_0; first | rwa [add_block] at this | exact this) GW243.out)) | (dsimp only; exact Nat.ne_of_lt (Nat.lt_of_lt_of_le (by have := World.block_lt_of_cell? _ _ hw241_0; first | rwa [add_block] at this | exact this) GW243.out))) _).trans (((cell_far (p := ⟨gb243, _, none⟩) (by first | exact Nat.ne_of_lt (Nat.lt_of_lt_of_le (by have := World.block_lt_of_cell? _ _ hw241_0; first | rwa [add_block] at this | exact this) GW243.out) | (rw [add_block]; exact Nat.ne_of_lt (Nat.lt_of_lt_of_le (by have := World.block_lt_of_cell? _ _ hw241_0; first | rwa [add_block] at this | exact this) GW243.out)) | (show (Addr.add _ _).block ≠ _; rw [add_block]; exact Nat.ne_of_lt (Nat.lt_of_lt_of_le (by have := World.block_lt_of_cell? _ _ hw241_0; first | rwa [add_block] at this | exact this) GW243.out)) | (dsimp only; exact Nat.ne_of_lt (Nat.lt_of_lt_of_le (by have := World.block_lt_of_cell? _ _ hw241_0; first | rwa [add_block] at this | exact this) GW243.out))) _).trans (hHeld.1)))))), ((cell_far (p := ⟨gb243, _, none⟩) (by first | exact Nat.ne_of_lt (Nat.lt_of_lt_of_le (by have := World.block_lt_of_cell? _ _ hw241_1; first | rwa [add_block] at this | exact this) GW243.out) | (rw [add_block]; exact Nat.ne_of_lt (Nat.lt_of_lt_of_le (by have := World.block_lt_of_cell? _ _ hw241_1; first | rwa [add_block] at this | exact this) GW243.out)) | (show (Addr.add _ _).block ≠ _; rw [add_block]; exact Nat.ne_of_lt (Nat.lt_of_lt_of_le (by have := World.block_lt_of_cell? _ _ hw241_1; first | rwa [add_block] at this | exact this) GW243.out)) | (dsimp only; exact Nat.ne_of_lt (Nat.lt_of_lt_of_le (by have := World.block_lt_of_cell? _ _ hw241_1; first | rwa [add_block] at this | exact this) GW243.out))) _).trans (((cell_far (p := ⟨gb243, _, none⟩) (by first | exact Nat.ne_of_lt (Nat.lt_of_lt_of_le (by have := World.block_lt_of_cell? _ _ hw241_1; first | rwa [add_block] at this | exact this) GW243.out) | (rw [add_block]; exact Nat.ne_of_lt (Nat.lt_of_lt_of_le (by have := World.block_lt_of_cell? _ _ hw241_1; first | rwa [add_block] at this | exact this) GW243.out)) | (show (Addr.add _ _).block ≠ _; rw [add_block]; exact Nat.ne_of_lt (Nat.lt_of_lt_of_le (by have := World.block_lt_of_cell? _ _ hw241_1; first | rwa [add_block] at this | exact this) GW243.out)) | (dsimp only; exact Nat.ne_of_lt (Nat.lt_of_lt_of_le (by have := World.block_lt_of_cell? _ _ hw241_1; first | rwa [add_block] at this | exact this) GW243.out))) _).trans (((cell_far (p := ⟨gb243, _, none⟩) (by first | exact Nat.ne_of_lt (Nat.lt_of_lt_of_le (by have := World.block_lt_of_cell? _ _ hw241_1; first | rwa [add_block] at this | exact this) GW243.out) | (rw [add_block]; exact Nat.ne_of_lt (Nat.lt_of_lt_of_le (by have := World.block_lt_of_cell? _ _ hw241_1; first | rwa [add_block] at this | exact this) GW243.out)) | (show (Addr.add _ _).block ≠ _; rw [add_block]; exact Nat.ne_of_lt (Nat.lt_of_lt_of_le (by have := World.block_lt_of_cell? _ _ hw241_1; first | rwa [add_block] at this | exact this) GW243.out)) | (dsimp only; exact Nat.ne_of_lt (Nat.lt_of_lt_of_le (by have := World.block_lt_of_cell? _ _ hw241_1; first | rwa [add_block] at this | exact this) GW243.out))) _).trans (hHeld.2.1)))))), ((cell_far (p := ⟨gb243, _, none⟩) (by first | exact Nat.ne_of_lt (Nat.lt_of_lt_of_le (by have := World.block_lt_of_cell? _ _ hw241_2; first | rwa [add_block] at this | exact this) GW243.out) | (rw [add_block]; exact Nat.ne_of_lt (Nat.lt_of_lt_of_le (by have := World.block_lt_of_cell? _ _ hw241_2; first | rwa [add_block] at this | exact this) GW243.out)) | (show (Addr.add _ _).block ≠ _; rw [add_block]; exact Nat.ne_of_lt (Nat.lt_of_lt_of_le (by have := World.block_lt_of_cell? _ _ hw241_2; first | rwa [add_block] at this | exact this) GW243.out)) | (dsimp only; exact Nat.ne_of_lt (Nat.lt_of_lt_of_le (by have := World.block_lt_of_cell? _ _ hw241_2; first | rwa [add_block] at this | exact this) GW243.out))) _).trans (((cell_far (p := ⟨gb243, _, none⟩) (by first | exact Nat.ne_of_lt (Nat.lt_of_lt_of_le (by have := World.block_lt_of_cell? _ _ hw241_2; first | rwa [add_block] at this | exact this) GW243.out) | (rw [add_block]; exact Nat.ne_of_lt (Nat.lt_of_lt_of_le (by have := World.block_lt_of_cell? _ _ hw241_2; first | rwa [add_block] at this | exact this) GW243.out)) | (show (Addr.add _ _).block ≠ _; rw [add_block]; exact Nat.ne_of_lt (Nat.lt_of_lt_of_le (by have := World.block_lt_of_cell? _ _ hw241_2; first | rwa [add_block] at this | exact this) GW243.out)) | (dsimp only; exact Nat.ne_of_lt (Nat.lt_of_lt_of_le (by have := World.block_lt_of_cell? _ _ hw241_2; first | rwa [add_block] at this | exact this) GW243.out))) _).trans (((cell_far (p := ⟨gb243, _, none⟩) (by first | exact Nat.ne_of_lt (Nat.lt_of_lt_of_le (by have := World.block_lt_of_cell? _ _ hw241_2; first | rwa [add_block] at this | exact this) GW243.out) | (rw [add_block]; exact Nat.ne_of_lt (Nat.lt_of_lt_of_le (by have := World.block_lt_of_cell? _ _ hw241_2; first | rwa [add_block] at this | exact this) GW243.out)) | (show (Addr.add _ _).block ≠ _; rw [add_block]; exact Nat.ne_of_lt (Nat.lt_of_lt_of_le (by have := World.block_lt_of_cell? _ _ hw241_2; first | rwa [add_block] at this | exact this) GW243.out)) | (dsimp only; exact Nat.ne_of_lt (Nat.lt_of_lt_of_le (by have := World.block_lt_of_cell? _ _ hw241_2; first | rwa [add_block] at this | exact this) GW243.out))) _).trans (hHeld.2.2.1)))))), ((cell_far (p := ⟨gb243, _, none⟩) (by first | exact Nat.ne_of_lt (Nat.lt_of_lt_of_le (by have := World.block_lt_of_cell? _ _ hw242_0; first | rwa [add_block] at this | exact this) GW243.out) | (rw [add_block]; exact Nat.ne_of_lt (Nat.lt_of_lt_of_le (by have := World.block_lt_of_cell? _ _ hw242_0; first | rwa [add_block] at this | exact this) GW243.out)) | (show (Addr.add _ _).block ≠ _; rw [add_block]; exact Nat.ne_of_lt (Nat.lt_of_lt_of_le (by have := World.block_lt_of_cell? _ _ hw242_0; first | rwa [add_block] at this | exact this) GW243.out)) | (dsimp only; exact Nat.ne_of_lt (Nat.lt_of_lt_of_le (by have := World.block_lt_of_cell? _ _ hw242_0; first | rwa [add_block] at this | exact this) GW243.out))) _).trans (((cell_far (p := ⟨gb243, _, none⟩) (by first | exact Nat.ne_of_lt (Nat.lt_of_lt_of_le (by have := World.block_lt_of_cell? _ _ hw242_0; first | rwa [add_block] at this | exact this) GW243.out) | (rw [add_block]; exact Nat.ne_of_lt (Nat.lt_of_lt_of_le (by have := World.block_lt_of_cell? _ _ hw242_0; first | rwa [add_block] at this | exact this) GW243.out)) | (show (Addr.add _ _).block ≠ _; rw [add_block]; exact Nat.ne_of_lt (Nat.lt_of_lt_of_le (by have := World.block_lt_of_cell? _ _ hw242_0; first | rwa [add_block] at this | exact this) GW243.out)) | (dsimp only; exact Nat.ne_of_lt (Nat.lt_of_lt_of_le (by have := World.block_lt_of_cell? _ _ hw242_0; first | rwa [add_block] at this | exact this) GW243.out))) _).trans (((cell_far (p := ⟨gb243, _, none⟩) (by first | exact Nat.ne_of_lt (Nat.lt_of_lt_of_le (by have := World.block_lt_of_cell? _ _ hw242_0; first | rwa [add_block] at this | exact this) GW243.out) | (rw [add_block]; exact Nat.ne_of_lt (Nat.lt_of_lt_of_le (by have := World.block_lt_of_cell? _ _ hw242_0; first | rwa [add_block] at this | exact this) GW243.out)) | (show (Addr.add _ _).block ≠ _; rw [add_block]; exact Nat.ne_of_lt (Nat.lt_of_lt_of_le (by have := World.block_lt_of_cell? _ _ hw242_0; first | rwa [add_block] at this | exact this) GW243.out)) | (dsimp only; exact Nat.ne_of_lt (Nat.lt_of_lt_of_le (by have := World.block_lt_of_cell? _ _ hw242_0; first | rwa [add_block] at this | exact this) GW243.out))) _).trans (hHeld.2.2.2.1)))))), ((cell_far (p := ⟨gb243, _, none⟩) (by first | exact Nat.ne_of_lt (Nat.lt_of_lt_of_le (by have := World.block_lt_of_cell? _ _ hw242_1; first | rwa [add_block] at this | exact this) GW243.out) | (rw [add_block]; exact Nat.ne_of_lt (Nat.lt_of_lt_of_le (by have := World.block_lt_of_cell? _ _ hw242_1; first | rwa [add_block] at this | exact this) GW243.out)) | (show (Addr.add _ _).block ≠ _; rw [add_block]; exact Nat.ne_of_lt (Nat.lt_of_lt_of_le (by have := World.block_lt_of_cell? _ _ hw242_1; first | rwa [add_block] at this | exact this) GW243.out)) | (dsimp only; exact Nat.ne_of_lt (Nat.lt_of_lt_of_le (by have := World.block_lt_of_cell? _ _ hw242_1; first | rwa [add_block] at this | exact this) GW243.out))) _).trans (((cell_far (p := ⟨gb243, _, none⟩) (by first | exact Nat.ne_of_lt (Nat.lt_of_lt_of_le (by have := World.block_lt_of_cell? _ _ hw242_1; first | rwa [add_block] at this | exact this) GW243.out) | (rw [add_block]; exact Nat.ne_of_lt (Nat.lt_of_lt_of_le (by have := World.block_lt_of_cell? _ _ hw242_1; first | rwa [add_block] at this | exact this) GW243.out)) | (show (Addr.add _ _).block ≠ _; rw [add_block]; exact Nat.ne_of_lt (Nat.lt_of_lt_of_le (by have := World.block_lt_of_cell? _ _ hw242_1; first | rwa [add_block] at this | exact this) GW243.out)) | (dsimp only; exact Nat.ne_of_lt (Nat.lt_of_lt_of_le (by have := World.block_lt_of_cell? _ _ hw242_1; first | rwa [add_block] at this | exact this) GW243.out))) _).trans (((cell_far (p := ⟨gb243, _, none⟩) (by first | exact Nat.ne_of_lt (Nat.lt_of_lt_of_le (by have := World.block_lt_of_cell? _ _ hw242_1; first | rwa [add_block] at this | exact this) GW243.out) | (rw [add_block]; exact Nat.ne_of_lt (Nat.lt_of_lt_of_le (by have := World.block_lt_of_cell? _ _ hw242_1; first | rwa [add_block] at this | exact this) GW243.out)) | (show (Addr.add _ _).block ≠ _; rw [add_block]; exact Nat.ne_of_lt (Nat.lt_of_lt_of_le (by have := World.block_lt_of_cell? _ _ hw242_1; first | rwa [add_block] at this | exact this) GW243.out)) | (dsimp only; exact Nat.ne_of_lt (Nat.lt_of_lt_of_le (by have := World.block_lt_of_cell? _ _ hw242_1; first | rwa [add_block] at this | exact this) GW243.out))) _).trans (hHeld.2.2.2.2.1)))))), ((cell_far (p := ⟨gb243, _, none⟩) (by first | exact Nat.ne_of_lt (Nat.lt_of_lt_of_le (by have := World.block_lt_of_cell? _ _ hw242_2; first | rwa [add_block] at this | exact this) GW243.out) | (rw [add_block]; exact Nat.ne_of_lt (Nat.lt_of_lt_of_le (by have := World.block_lt_of_cell? _ _ hw242_2; first | rwa [add_block] at this | exact this) GW243.out)) | (show (Addr.add _ _).block ≠ _; rw [add_block]; exact Nat.ne_of_lt (Nat.lt_of_lt_of_le (by have := World.block_lt_of_cell? _ _ hw242_2; first | rwa [add_block] at this | exact this) GW243.out)) | (dsimp only; exact Nat.ne_of_lt (Nat.lt_of_lt_of_le (by have := World.block_lt_of_cell? _ _ hw242_2; first | rwa [add_block] at this | exact this) GW243.out))) _).trans (((cell_far (p := ⟨gb243, _, none⟩) (by first | exact Nat.ne_of_lt (Nat.lt_of_lt_of_le (by have := World.block_lt_of_cell? _ _ hw242_2; first | rwa [add_block] at this | exact this) GW243.out) | (rw [add_block]; exact Nat.ne_of_lt (Nat.lt_of_lt_of_le (by have := World.block_lt_of_cell? _ _ hw242_2; first | rwa [add_block] at this | exact this) GW243.out)) | (show (Addr.add _ _).block ≠ _; rw [add_block]; exact Nat.ne_of_lt (Nat.lt_of_lt_of_le (by have := World.block_lt_of_cell? _ _ hw242_2; first | rwa [add_block] at this | exact this) GW243.out)) | (dsimp only; exact Nat.ne_of_lt (Nat.lt_of_lt_of_le (by have := World.block_lt_of_cell? _ _ hw242_2; first | rwa [add_block] at this | exact this) GW243.out))) _).trans (((cell_far (p := ⟨gb243, _, none⟩) (by first | exact Nat.ne_of_lt (Nat.lt_of_lt_of_le (by have := World.block_lt_of_cell? _ _ hw242_2; first | rwa [add_block] at this | exact this) GW243.out) | (rw [add_block]; exact Nat.ne_of_lt (Nat.lt_of_lt_of_le (by have := World.block_lt_of_cell? _ _ hw242_2; first | rwa [add_block] at this | exact this) GW243.out)) | (show (Addr.add _ _).block ≠ _; rw [add_block]; exact Nat.ne_of_lt (Nat.lt_of_lt_of_le (by have := World.block_lt_of_cell? _ _ hw242_2; first | rwa [add_block] at this | exact this) GW243.out)) | (dsimp only; exact Nat.ne_of_lt (Nat.lt_of_lt_of_le (by have := World.block_lt_of_cell? _ _ hw242_2; first | rwa [add_block] at this | exact this) GW243.out))) _).trans (hHeld.2.2.2.2.2))))))⟩ (fun hHeld => ?_)
    clear hK K
    refine done_ (done_of HT_.out (by kernel_rfl)) ?_
    try go_wp2
    go_loopg [6] k1 (fun kq v6 w' => ∃ (x6_2 : Int) (x244002_2 : List Int) (u244002 : Value), v6 = .int .i64 x6_2 ∧ Aside0 (pelotonref03_Add.l1 kq l0 x6_2 ((rd_T24 l0 0).f0) ((rd_T24 l0 0).f1) x244002_2 = some (r1, r2, r3, r4)) ∧ Aside0 (kq ≤ k1) ∧ Aside0 (Kd.R (Kd.int .i32) 21 w' w.heap.size (fun _ => True) u244002 x244002_2) ∧ Aside0 (w'.heap[gb234]? = some (.cells #[.int .i64 x235000_1, .int .i64 x235001_1, (.slice none 0 0)] 24 (0, 0))) ∧ Aside0 (w'.heap[gb243]? = some (.cells #[.int .i64 ((rd_T24 l0 0).f0), .int .i64 ((rd_T24 l0 0).f1), u244002] 24 (0, 0))) ∧ Aside0 (Below w.heap.size w w'))
    case atStart => exact ⟨(0), (([] : List Int)), (.slice none 0 0), (by first | rfl | (simp; done) | (simp [*]; done)), H', ⟨Nat.le_refl _⟩, ⟨by first | exact Kd.R_nil _ _ _ _ _ | exact Kd.N_nil _ _ _ _ _ | exact Kd.V_nil _ _ _ _ _ | exact Kd.Q_nil _ _ _ _ _ | exact Kd.S_nil _ _ _ _ _⟩, ⟨by (with_reducible repeat (first | refine k_n ?_ _ | refine k_d ?_ | refine k_a ?_ _)); refine blk_far ?_ NB234_243.out _; (with_reducible repeat (first | refine k_n ?_ _ | refine k_d ?_ | refine k_a ?_ _)); refine blk_far ?_ NB234_243.out _; (with_reducible repeat (first | refine k_n ?_ _ | refine k_d ?_ | refine k_a ?_ _)); refine blk_far ?_ NB234_243.out _; (with_reducible repeat (first | refine k_n ?_ _ | refine k_d ?_ | refine k_a ?_ _)); exact BK234.out⟩, ⟨by (with_reducible repeat (first | refine k_n ?_ _ | refine k_d ?_ | refine k_a ?_ _)); refine blk_put (cs := #[.int .i64 ((rd_T24 l0 0).f0), .int .i64 ((rd_T24 l0 0).f1), .slice none 0 0]) ?_ 2 _ rfl; (with_reducible repeat (first | refine k_n ?_ _ | refine k_d ?_ | refine k_a ?_ _)); refine blk_put (cs := #[.int .i64 ((rd_T24 l0 0).f0), .int .i64 0, .slice none 0 0]) ?_ 1 _ rfl; (with_reducible repeat (first | refine k_n ?_ _ | refine k_d ?_ | refine k_a ?_ _)); refine blk_put (cs := #[.int .i64 0, .int .i64 0, .slice none 0 0]) ?_ 0 _ rfl; (with_reducible repeat (first | refine k_n ?_ _ | refine k_d ?_ | refine k_a ?_ _)); exact BK243.out⟩, ⟨by repeat (first | (with_reducible first | exact HB.out | apply b_a | apply b_n | apply b_d | refine b_s ?_ GE234.out | refine b_s ?_ GE243.out) | exact HB.out)⟩⟩
    case round =>
     clear H'
     try clear c1
     try clear c2
     try clear p2
     try clear q2
     try clear hx2
     try clear qi2
     try clear c3
     try clear c3b0
     try clear c4
     try clear c6
     try clear c7
     try clear c19
     try clear c19b0
     try clear c19b1
     try clear c19b2
     try clear c21
     try clear c21b0
     try clear c21b1
     try clear c23
     try clear p23
     try clear q23
     try clear hx23
     try clear c24
     try clear p24
     try clear q24
     try clear hx24
     try clear qi24
     try clear hcz15_0
     try clear hcz15_1
     try clear hcz15_2
     try clear hcz18_0
     try clear hcz18_1
     try clear hcz18_2
     try clear hcz20_0
     try clear hcz20_1
     try clear hcz20_2
     try clear hfz15_0
     try clear hfz15_1
     try clear hfz15_2
     try clear hfz18_0
     try clear hfz18_1
     try clear hfz18_2
     try clear hfz20_0
     try clear hfz20_1
     try clear hfz20_2
     try clear hx235_0
     try clear hx235_1
     try clear hx235_2
     try clear hx241_0
     try clear hx241_1
     try clear hx241_2
     try clear hx242_0
     try clear hx242_1
     try clear hx242_2
     try clear p235
     try clear p241
     try clear p242
     try clear q235
     try clear q241
     try clear q242
     obtain ⟨x6_2, x244002_2, u244002, rfl, HA, HK2, HO_244002, BK234, BK243, HB⟩ := hrel
     cases gk with
     | zero => exact absurd HA.out (by simp [pelotonref03_Add.l1])
     | succ k2 =>
      have H := HA.out
      clear HA
      simp only [pelotonref03_Add.l1] at H
      by_cases c27 : 0 < (l0.length : Int)
      rotate_left
      ·
       rw [if_neg c27] at H
       exact absurd H (by simp)
      rw [if_pos c27] at H
      have c27b0 : decide (0 < (l0.length : Int)) = true := decide_eq_true c27
      have c27b1 : decide (0 < l0.length) = true := decide_eq_true (by omega)
      clear c27
      by_cases c28 : x6_2 < (((rd_T24 l0 0).f2).length : Int)
      rotate_left
      ·
       rw [if_neg c28] at H
       have c28b0 : decide (x6_2 < (((rd_T24 l0 0).f2).length : Int)) = false := decide_eq_false c28
       clear c28
       simp only [Option.some.injEq, Prod.mk.injEq] at H
       obtain ⟨rfl, rfl, rfl, rfl⟩ := H
       have p244 : 0 ≤ (0 : Int) := (by omega)
       have q244 : 0 < (l0.length : Int) := of_decide_eq_true (by first | (with_reducible assumption) | assumption)
       obtain ⟨ad244, A244_2, c244_2, e244, hx244_0, hx244_1, hx244_2, hl244_2, hi244_2⟩ := at_T24 HR0.out 0 p244 q244
       obtain rfl : ad241 = ad244 := (by injection e244)
       have qi244 : (0 < l0.length) = True := eq_true (by omega)
       (try rw [show ((0 : Int)).toNat = 0 from rfl] at hx244_0)
       (try rw [show 0 * 3 = 0 from rfl] at hx244_0)
       (try rw [Addr.add_zero'] at hx244_0)
       (try rw [show ((0 : Int)).toNat = 0 from rfl] at hx244_1)
       (try rw [show 0 * 3 = 0 from rfl] at hx244_1)
       (try rw [Addr.add_zero'] at hx244_1)
       (try rw [show ((0 : Int)).toNat = 0 from rfl] at hx244_2)
       (try rw [show 0 * 3 = 0 from rfl] at hx244_2)
       (try rw [Addr.add_zero'] at hx244_2)
       replace hx244_0 := cb_ HB hx244_0
       replace hx244_1 := cb_ HB hx244_1
       replace hx244_2 := cb_ HB hx244_2
       have HR244_2 := Aside0.mk hi244_2
       have HC244_2 := Aside0.mk hl244_2
       clear hi244_2 hl244_2
       replace p244 := eq_true p244
       replace q244 := eq_true q244
       have hnb42 := NB243_234.out
       have hnc42 := NB234_243.out
       have hcz43_0 := bc_0 BK243
       have hcz43_1 := bc_1 BK243
       have hcz43_2 := bc_2 BK243
       have hfz43_0 := blk_frozen BK243.out 0
       have hfz43_1 := blk_frozen BK243.out 1
       have hfz43_2 := blk_frozen BK243.out 2
       have hcz44_0 := bc_0 BK234
       have hcz44_1 := bc_1 BK234
       have hcz44_2 := bc_2 BK234
       have hfz44_0 := blk_frozen BK234.out 0
       have hfz44_1 := blk_frozen BK234.out 1
       have hfz44_2 := blk_frozen BK234.out 2
       obtain ⟨Ao45, co45, eo45⟩ := Kd.R_slice HO_244002.out
       subst eo45
       go_wp2
       refine bodyPost_ret (results_ct rfl _ _ gb234 24 #[.int .i64 ((rd_T24 l0 0).f0), .int .i64 ((rd_T24 l0 0).f1), .slice Ao45 x244002_2.length co45] (0, 0) _ rfl (by (with_reducible repeat (first | refine k_n ?_ _ | refine k_d ?_ | refine k_a ?_ _)); refine blk_put (cs := #[.int .i64 ((rd_T24 l0 0).f0), .int .i64 ((rd_T24 l0 0).f1), .slice none 0 0]) ?_ 2 _ rfl; (with_reducible repeat (first | refine k_n ?_ _ | refine k_d ?_ | refine k_a ?_ _)); refine blk_put (cs := #[.int .i64 ((rd_T24 l0 0).f0), .int .i64 x235001_1, .slice none 0 0]) ?_ 1 _ rfl; (with_reducible repeat (first | refine k_n ?_ _ | refine k_d ?_ | refine k_a ?_ _)); refine blk_put (cs := #[.int .i64 x235000_1, .int .i64 x235001_1, .slice none 0 0]) ?_ 0 _ rfl; (with_reducible repeat (first | refine k_n ?_ _ | refine k_d ?_ | refine k_a ?_ _)); exact BK234.out) Try.underlying24 rfl (by kernel_rfl)) rfl ?_
       exact ⟨_, by first | rfl | (simp [errW_none, errW_some] <;> rfl) | (simp [*, errW_none, errW_some] <;> rfl), by (with_reducible repeat (first | apply Kd.R_alloc | apply Kd.R_drewN | apply Kd.R_drew)); exact Kd.R_mono (Kd.R_far (p := ⟨gb234, 2, none⟩) (Kd.R_far (p := ⟨gb234, 1, none⟩) (Kd.R_far (p := ⟨gb234, 0, none⟩) (Kd.R_types HO_244002.out BK234.out (by decide)) (fun _ hk => hk.2) (.int .i64 ((rd_T24 l0 0).f0))) (fun _ hk => hk.2) (.int .i64 ((rd_T24 l0 0).f1))) (fun _ hk => hk.2) (.slice Ao45 x244002_2.length co45)) (fun _ hk => trivial), by repeat (first | (with_reducible first | exact HB.out | apply b_a | apply b_n | apply b_d | refine b_s ?_ GE234.out | refine b_s ?_ GE243.out) | exact HB.out)⟩
      rw [if_pos c28] at H
      have c28b0 : decide (x6_2 < (((rd_T24 l0 0).f2).length : Int)) = true := decide_eq_true c28
      clear c28
      have H' := Aside0.mk H
      clear H
      have p244 : 0 ≤ (0 : Int) := (by omega)
      have q244 : 0 < (l0.length : Int) := of_decide_eq_true (by first | (with_reducible assumption) | assumption)
      obtain ⟨ad244, A244_2, c244_2, e244, hx244_0, hx244_1, hx244_2, hl244_2, hi244_2⟩ := at_T24 HR0.out 0 p244 q244
      obtain rfl : ad241 = ad244 := (by injection e244)
      have qi244 : (0 < l0.length) = True := eq_true (by omega)
      (try rw [show ((0 : Int)).toNat = 0 from rfl] at hx244_0)
      (try rw [show 0 * 3 = 0 from rfl] at hx244_0)
      (try rw [Addr.add_zero'] at hx244_0)
      (try rw [show ((0 : Int)).toNat = 0 from rfl] at hx244_1)
      (try rw [show 0 * 3 = 0 from rfl] at hx244_1)
      (try rw [Addr.add_zero'] at hx244_1)
      (try rw [show ((0 : Int)).toNat = 0 from rfl] at hx244_2)
      (try rw [show 0 * 3 = 0 from rfl] at hx244_2)
      (try rw [Addr.add_zero'] at hx244_2)
      replace hx244_0 := cb_ HB hx244_0
      replace hx244_1 := cb_ HB hx244_1
      replace hx244_2 := cb_ HB hx244_2
      have HR244_2 := Aside0.mk hi244_2
      have HC244_2 := Aside0.mk hl244_2
      clear hi244_2 hl244_2
      replace p244 := eq_true p244
      replace q244 := eq_true q244
      go_wp2
      go_loopg [7, 8] k2 (fun kq v7 v8 w' => ∃ (x7_3 : List Int) (x8_3 : Int), v8 = .int .i64 x8_3 ∧ Aside0 (pelotonref03_Add.l2 kq l0 x6_2 x7_3 x8_3 ((rd_T24 l0 0).f0) ((rd_T24 l0 0).f1) x244002_2 = some (r1, r2, r3, r4)) ∧ Aside0 (kq ≤ k2) ∧ Aside0 (Kd.R (Kd.int .i64) 2 w' w.heap.size (fun _ => True) v7 x7_3) ∧ Aside0 (Kd.R (Kd.int .i32) 21 w' w.heap.size (fun _ => True) u244002 x244002_2) ∧ Aside0 (w'.heap[gb234]? = some (.cells #[.int .i64 x235000_1, .int .i64 x235001_1, (.slice none 0 0)] 24 (0, 0))) ∧ Aside0 (w'.heap[gb243]? = some (.cells #[.int .i64 ((rd_T24 l0 0).f0), .int .i64 ((rd_T24 l0 0).f1), u244002] 24 (0, 0))) ∧ Aside0 (Below w.heap.size w w'))
      case atStart => exact ⟨(([] : List Int)), (0), (by first | rfl | (simp; done) | (simp [*]; done)), H', ⟨Nat.le_refl _⟩, ⟨by first | exact Kd.R_nil _ _ _ _ _ | exact Kd.N_nil _ _ _ _ _ | exact Kd.V_nil _ _ _ _ _ | exact Kd.Q_nil _ _ _ _ _ | exact Kd.S_nil _ _ _ _ _⟩, ⟨tR_ HO_244002⟩, ⟨tk_ BK234⟩, ⟨tk_ BK243⟩, ⟨by repeat (first | (with_reducible first | exact HB.out | apply b_a | apply b_n | apply b_d | refine b_s ?_ GE234.out | refine b_s ?_ GE243.out) | exact HB.out)⟩⟩
      case round =>
       clear H'
       try clear c1
       try clear c2
       try clear p2
       try clear q2
       try clear hx2
       try clear qi2
       try clear c3
       try clear c3b0
       try clear c4
       try clear c6
       try clear c7
       try clear c19
       try clear c19b0
       try clear c19b1
       try clear c19b2
       try clear c21
       try clear c21b0
       try clear c21b1
       try clear c23
       try clear p23
       try clear q23
       try clear hx23
       try clear c24
       try clear p24
       try clear q24
       try clear hx24
       try clear qi24
       try clear c27
       try clear c27b0
       try clear c27b1
       try clear c28
       try clear c28b0
       try clear hcz15_0
       try clear hcz15_1
       try clear hcz15_2
       try clear hcz18_0
       try clear hcz18_1
       try clear hcz18_2
       try clear hcz20_0
       try clear hcz20_1
       try clear hcz20_2
       try clear hfz15_0
       try clear hfz15_1
       try clear hfz15_2
       try clear hfz18_0
       try clear hfz18_1
       try clear hfz18_2
       try clear hfz20_0
       try clear hfz20_1
       try clear hfz20_2
       try clear hx235_0
       try clear hx235_1
       try clear hx235_2
       try clear hx241_0
       try clear hx241_1
       try clear hx241_2
       try clear hx242_0
       try clear hx242_1
       try clear hx242_2
       try clear hx244_0
       try clear hx244_1
       try clear hx244_2
       try clear p2
       try clear p23
       try clear p235
       try clear p24
       try clear p241
       try clear p242
       try clear p244
       try clear q2
       try clear q23
       try clear q235
       try clear q24
       try clear q241
       try clear q242
       try clear q244
       obtain ⟨x7_3, x8_3, rfl, HA, HK3, HO_7, HO_244002, BK234, BK243, HB⟩ := hrel
       cases gk with
       | zero => exact absurd HA.out (by simp [pelotonref03_Add.l2])
       | succ k3 =>
        have H := HA.out
        clear HA
        simp only [pelotonref03_Add.l2] at H
        by_cases c29 : x8_3 < (l0.length : Int)
        ·
         rw [if_pos c29] at H
         have c29b0 : decide (x8_3 < (l0.length : Int)) = true := decide_eq_true c29
         clear c29
         by_cases c30 : 0 ≤ x8_3
         rotate_left
         ·
          rw [if_neg c30] at H
          exact absurd H (by simp)
         rw [if_pos c30] at H
         have c30b0 : decide (0 ≤ x8_3) = true := decide_eq_true c30
         clear c30
         by_cases c31 : 0 ≤ x6_2
         rotate_left
         ·
          rw [if_neg c31] at H
          exact absurd H (by simp)
         rw [if_pos c31] at H
         have c31b0 : decide (0 ≤ x6_2) = true := decide_eq_true c31
         clear c31
         by_cases c32 : x6_2 < (((rd_T24 l0 x8_3).f2).length : Int)
         rotate_left
         ·
          rw [if_neg c32] at H
          exact absurd H (by simp)
         rw [if_pos c32] at H
         have c32b0 : decide (x6_2 < (((rd_T24 l0 x8_3).f2).length : Int)) = true := decide_eq_true c32
         clear c32
         by_cases c33 : x7_3.length < 17592186044416
         rotate_left
         ·
          rw [if_neg c33] at H
          exact absurd H (by simp)
         rw [if_pos c33] at H
         have LMc33 := Aside0.mk c33
         clear c33
         obtain ⟨y247, hy247⟩ : ∃ y_ : List Int, y_ = (x7_3 ++ [wrap64 (rd ((rd_T24 l0 x8_3).f2) x6_2)]) := ⟨_, rfl⟩
         replace H : (pelotonref03_Add.l2 k3 l0 x6_2 y247 (wrap64 (x8_3 + 1)) ((rd_T24 l0 0).f0) ((rd_T24 l0 0).f1) x244002_2) = some (r1, r2, r3, r4) := by first | (rw [hy247]; with_reducible exact H) | (have H2_ := (Option.bind_some _ _).symm.trans H; rw [hy247]; with_reducible exact H2_) | (have H2_ := (Option.bind_some _ _).symm.trans H; with_reducible exact H2_) | with_reducible exact H | (rw [hy247]; exact H) | exact H
         have Ny247 := Aside0.mk hy247
         clear hy247
         have H' := Aside0.mk H
         clear H
         have p245 : 0 ≤ (x8_3 : Int) := of_decide_eq_true (by first | (with_reducible assumption) | assumption)
         have q245 : x8_3 < (l0.length : Int) := of_decide_eq_true (by first | (with_reducible assumption) | assumption)
         obtain ⟨ad245, A245_2, c245_2, e245, hx245_0, hx245_1, hx245_2, hl245_2, hi245_2⟩ := at_T24 HR0.out x8_3 p245 q245
         obtain rfl : ad241 = ad245 := (by injection e245)
         replace hx245_0 := cb_ HB hx245_0
         replace hx245_1 := cb_ HB hx245_1
         replace hx245_2 := cb_ HB hx245_2
         have HR245_2 := Aside0.mk hi245_2
         have HC245_2 := Aside0.mk hl245_2
         clear hi245_2 hl245_2
         replace p245 := eq_true p245
         replace q245 := eq_true q245
         have p246 : 0 ≤ (x6_2 : Int) := of_decide_eq_true (by first | (with_reducible assumption) | assumption)
         have q246 : x6_2 < (((rd_T24 l0 x8_3).f2).length : Int) := of_decide_eq_true (by first | (with_reducible assumption) | assumption)
         obtain ⟨ad246, e246, hx246_0⟩ := Kd.at_int HR245_2.out x6_2 p246 q246
         cases e246
         replace hx246_0 := cb_ HB hx246_0
         replace p246 := eq_true p246
         replace q246 := eq_true q246
         go_wp2_with (first | ((with_reducible refine gate_builtin (b := .append) (xs := #[.tmp 74, .tmp 84]) rfl ?_); at_builtin; refine Kd.R_append (Kd.int .i64) (w0 := w) w.heap.size rfl (.tmp 74) (.tmp 84) 55 2 (.int .i64 0) 8 rfl Try.underlying55 info2 rfl (by decide) (by omega) u7 x7_3 (wrap64 (rd ((rd_T24 l0 x8_3).f2) x6_2)) [.int .i64 (wrap64 (rd ((rd_T24 l0 x8_3).f2) x6_2))] (fun _ => True) (fun _ => False) rfl rfl ?aP (fun _ hk => hk.elim) ?aF ?aO ?aB ?aS ?aL ?_; (case aP => exact rfl); (case aB => exact (bw_ HB)); (case aF => exact (fun _ _ => trivial)); (case aO => exact (tR_ HO_7)); (case aS => exact (below_size (bw_ HB))); (case aL => have := LMc33.out; omega); intro v248 w34 ho hb hg hat; rw [← Ny247.out] at ho; have n0_ := Aside0.mk (Kd.R_over' (tR_ HO_244002) (Kd.R_typed (tR_ HO_7)) (by decide) hg); have n1_ := Aside0.mk (blk_grown (tk_ BK234) hg (Kd.R_ne HO_7.out BK234.out (by decide))); have n2_ := Aside0.mk (blk_grown (tk_ BK243) hg (Kd.R_ne HO_7.out BK243.out (by decide))); have n3_ := Aside0.mk (hb); have n4_ := Aside0.mk (ho); clear HO_244002; clear BK234; clear BK243; clear HB; clear HO_7; have HO_244002 := n0_; have BK234 := n1_; have BK243 := n2_; have HB := n3_; have HO249 := n4_; clear n0_ n1_ n2_ n3_ n4_; clear ho hb hg hat))
         go_roundg k3
         case measure => have := HK1.out; have := HK2.out; have := HK3.out; omega
         case rel => exact ⟨(y247), (wrap64 (x8_3 + 1)), (by first | rfl | (simp; done) | (simp [*]; done)), H', ⟨by have := HK1.out; have := HK2.out; have := HK3.out; omega⟩, ⟨tR_ HO249⟩, ⟨tR_ HO_244002⟩, ⟨tk_ BK234⟩, ⟨tk_ BK243⟩, ⟨by repeat (first | (with_reducible first | exact HB.out | apply b_a | apply b_n | apply b_d | refine b_s ?_ GE234.out | refine b_s ?_ GE243.out) | exact HB.out)⟩⟩
        rw [if_neg c29] at H
        have c29b0 : decide (x8_3 < (l0.length : Int)) = false := decide_eq_false c29
        clear c29
        replace H := Option.bind_eq_some_iff.mp H
        obtain ⟨t250, A350, H⟩ := H
        replace H : (if x244002_2.length < 35184372088832 then (pelotonref03_Add.l1 k3 l0 (wrap64 (x6_2 + 1)) ((rd_T24 l0 0).f0) ((rd_T24 l0 0).f1) (x244002_2 ++ [t250])) else (none)) = some (r1, r2, r3, r4) := H
        have A35 := Aside0.mk A350
        clear A350
        by_cases c36 : x244002_2.length < 35184372088832
        rotate_left
        ·
         rw [if_neg c36] at H
         exact absurd H (by simp)
        rw [if_pos c36] at H
        have LMc36 := Aside0.mk c36
        clear c36
        obtain ⟨y251, hy251⟩ : ∃ y_ : List Int, y_ = (x244002_2 ++ [t250]) := ⟨_, rfl⟩
        replace H : (pelotonref03_Add.l1 k3 l0 (wrap64 (x6_2 + 1)) ((rd_T24 l0 0).f0) ((rd_T24 l0 0).f1) y251) = some (r1, r2, r3, r4) := by first | (rw [hy251]; with_reducible exact H) | (have H2_ := (Option.bind_some _ _).symm.trans H; rw [hy251]; with_reducible exact H2_) | (have H2_ := (Option.bind_some _ _).symm.trans H; with_reducible exact H2_) | with_reducible exact H | (rw [hy251]; exact H) | exact H
        have Ny251 := Aside0.mk hy251
        clear hy251
        have H' := Aside0.mk H
        clear H
        try go_wp2
        replace HO_7 := Aside0.mk (Kd.R_drew HO_7.out)
        replace HO_244002 := Aside0.mk (Kd.R_drew HO_244002.out)
        replace BK234 := Aside0.mk (k_d BK234.out)
        replace BK243 := Aside0.mk (k_d BK243.out)
        replace HB := Aside0.mk (b_d HB.out)
        obtain ⟨Ao38, co38, eo38⟩ := Kd.R_slice HO_7.out
        (first | subst eo38 | (injection eo38 with f1_ f2_ f3_; have f4_ := f1_.symm; have f5_ := f3_.symm; clear f1_ f2_ f3_; subst f4_; subst f5_))
        refine start_ (n := 8) (S := fun w' => w'.cell? ⟨gb243, 0, none⟩ = some (.int .i64 ((rd_T24 l0 0).f0)) ∧ w'.cell? ⟨gb243, 1, none⟩ = some (.int .i64 ((rd_T24 l0 0).f1)) ∧ w'.cell? ⟨gb243, 2, none⟩ = some (u244002)) (ds := [7]) #[false, false, false, false, false, false, false, false] (by kernel_rfl) rfl rfl ⟨(blk_cell BK243.out 0).trans rfl, (blk_cell BK243.out 1).trans rfl, (blk_cell BK243.out 2).trans rfl⟩ (fun hHeld => ?_); refine with_tabW pelotonref03_Add.tab17 pelotonref03_Add.bits17 (fun HT_ HW_ => ?_)
        generalize wr.drew = w37 at HO_7 HO_244002 BK234 BK243 HB hHeld ⊢
        refine pu_ (i := 0) (N := some 86) (bs_ 8 1) rfl rfl HT_ ?_
        refine pu_ (i := 2) (N := some 88) (bs_ 8 5) rfl rfl HT_ ?_
        refine take_ (i := 1) (N := some 87) (v := ?_) (a' := ?_) (bs_ 8 7) rfl rfl (take_ofW HT_.out HW_.out (by kernel_rfl)) (fun _ _ _ h => h) (Or.inl ⟨by rfl, ?_⟩) hHeld ?_ ?_
        rotate_left
        ·
         rintro w' ⟨s0, s1, s2⟩
         go_simp
         with_reducible rfl
        rotate_left
        ·
         simp only [Act.put, l_1, l_2, l_3, i64_w, i32_w]
         rfl
        refine one_ (i := 3) (N := some 89) (bs_ 8 15) rfl rfl (one_of HT_.out (by kernel_rfl)) (by decide) (fun K hK => ?_)
        refine goes_ Try.func38 (by kernel_rfl) rfl #[.slice Ao38 x7_3.length co38] (by rfl) rfl rfl (by (try simp only [l_4, l_5, l_6]); first | done | rfl | (simp only [l_7, l_8]; rfl)) ?_
        with_reducible refine (pelotonref01_Wrap.calls k3 _ _ x7_3 t250 _ ?side1 ?side2 A35.out).mono ?_
        (case side1 => repeat (first | exact (Kd.R_reads' HO_7.out).2.2 | (with_reducible refine Kd.C_alloc ?_ _) | (with_reducible refine Kd.C_drewN ?_ _) | (with_reducible refine Kd.C_drew ?_)))
        (case side2 => exact (Kd.R_reads' HO_7.out).2.1)
        rintro e w' ⟨rfl, ⟨nd, rfl⟩⟩
        refine ⟨_, rfl, ?_⟩
        refine hK.out _ _ ⟨(blk_cell BK243.out 0).trans rfl, (blk_cell BK243.out 1).trans rfl, (blk_cell BK243.out 2).trans rfl⟩ (fun hHeld => ?_)
        clear hK K
        refine no_ (N := some 89) ?_
        refine one_ (i := 4) (N := some 90) (bs_ 8 31) rfl rfl (one_of HT_.out (by kernel_rfl)) (by decide) (fun K hK => ?_)
        refine value_ (w1 := ?_) (v := ?_) (by rfl) rfl ?_ ?_
        rotate_left 2
        ·
         go_simp
         constructor
         ·
          rfl
         ·
          rfl
        refine hK.out _ _ ⟨(blk_cell (k_a BK243.out _) 0).trans rfl, (blk_cell (k_a BK243.out _) 1).trans rfl, (blk_cell (k_a BK243.out _) 2).trans rfl⟩ (fun hHeld => ?_)
        clear hK K
        refine no_ (N := some 90) ?_
        refine one_ (i := 5) (N := some 91) (bs_ 8 63) rfl rfl (one_of HT_.out (by kernel_rfl)) (by decide) (fun K hK => ?_)
        refine Kd.R_append_step (Kd.int .i32) (w0 := w) w.heap.size (by rfl) (.tmp 87) (.tmp 90) 22 21 (.int .i32 0) 4 rfl Try.underlying22 info21 rfl (by decide) (by omega) u244002 x244002_2 t250 [.int .i32 t250] (fun _ => True) (fun _ => False) rfl rfl ?aP (fun _ hk => hk.elim) ?aF ?aO ?aB ?aS ?aL ?_
        (case aP => exact rfl)
        (case aB => exact (bw_ HB))
        (case aF => exact (fun _ _ => trivial))
        (case aO => exact (tR_ HO_244002))
        (case aS => exact (below_size (bw_ HB)))
        (case aL => have := LMc36.out; omega)
        intro v252 w39 ho hb hg hat
        rw [← Ny251.out] at ho
        have n0_ := Aside0.mk (Kd.R_over' (tR_ HO_7) (Kd.R_typed (tR_ HO_244002)) (by decide) hg)
        have n1_ := Aside0.mk (blk_grown (tk_ BK234) hg (Kd.R_ne HO_244002.out BK234.out (by decide)))
        have n2_ := Aside0.mk (blk_grown (tk_ BK243) hg (Kd.R_ne HO_244002.out BK243.out (by decide)))
        have n3_ := Aside0.mk (hb)
        have n4_ := Aside0.mk (ho)
        clear HO_7
        clear BK234
        clear BK243
        clear HB
        clear HO_244002
        have HO_7 := n0_
        have BK234 := n1_
        have BK243 := n2_
        have HB := n3_
        have HO253 := n4_
        clear n0_ n1_ n2_ n3_ n4_
        clear ho hb hg hat
        obtain ⟨Ao40, co40, eo40⟩ := Kd.R_slice HO253.out
        (first | subst eo40 | (injection eo40 with f1_ f2_ f3_; have f4_ := f1_.symm; have f5_ := f3_.symm; clear f1_ f2_ f3_; subst f4_; subst f5_))
        refine hK.out _ _ ⟨(blk_cell BK243.out 0).trans rfl, (blk_cell BK243.out 1).trans rfl, (blk_cell BK243.out 2).trans rfl⟩ (fun hHeld => ?_)
        clear hK K
        refine no_ (N := some 91) ?_
        refine pu_ (i := 6) (N := some 92) (bs_ 8 127) rfl rfl HT_ ?_
        refine last_ (i := 7) (N := none) (bs_ 8 255) rfl rfl (one_of HT_.out (by kernel_rfl)) (by decide) (fun K hK => ?_)
        have hs41 := bc_2 BK243
        have hfs41 := blk_frozen BK243.out 2
        have hns41_0 := NB234_243.out
        have hms41_0 := NB243_234.out
        refine skip_ (w1 := ?_) (by rfl) rfl ?_ ?_
        rotate_left
        ·
         go_simp
         rfl
        refine hK.out _ _ ?_
        clear hK K
        refine done_ (done_of HT_.out (by kernel_rfl)) ?_
        try go_wp2
        go_roundg k3
        case measure => have := HK1.out; have := HK2.out; have := HK3.out; omega
        case rel => exact ⟨(wrap64 (x6_2 + 1)), (y251), (.slice Ao40 y251.length co40), (by first | rfl | (simp; done) | (simp [*]; done)), H', ⟨by have := HK1.out; have := HK2.out; have := HK3.out; omega⟩, ⟨by (with_reducible repeat (first | apply Kd.R_alloc | apply Kd.R_drewN | apply Kd.R_drew)); exact Kd.R_mono (Kd.R_far (p := ⟨gb243, 2, none⟩) (Kd.R_types HO253.out BK243.out (by decide)) (fun _ hk => hk.2) (.slice Ao40 y251.length co40)) (fun _ hk => trivial)⟩, ⟨by (with_reducible repeat (first | refine k_n ?_ _ | refine k_d ?_ | refine k_a ?_ _)); refine blk_far ?_ NB234_243.out _; (with_reducible repeat (first | refine k_n ?_ _ | refine k_d ?_ | refine k_a ?_ _)); exact BK234.out⟩, ⟨by (with_reducible repeat (first | refine k_n ?_ _ | refine k_d ?_ | refine k_a ?_ _)); refine blk_put (cs := #[.int .i64 ((rd_T24 l0 0).f0), .int .i64 ((rd_T24 l0 0).f1), u244002]) ?_ 2 _ rfl; (with_reducible repeat (first | refine k_n ?_ _ | refine k_d ?_ | refine k_a ?_ _)); exact BK243.out⟩, ⟨by repeat (first | (with_reducible first | exact HB.out | apply b_a | apply b_n | apply b_d | refine b_s ?_ GE234.out | refine b_s ?_ GE243.out) | exact HB.out)⟩⟩
   rw [if_pos c3] at H
   have c3b0 : decide (x4_1 < (l0.length : Int)) = true := decide_eq_true c3
   clear c3
   by_cases c4 : 0 ≤ x4_1
   rotate_left
   ·
    rw [if_neg c4] at H
    exact absurd H (by simp)
   rw [if_pos c4] at H
   have c4b0 : decide (0 ≤ x4_1) = true := decide_eq_true c4
   clear c4
   replace H := Option.bind_eq_some_iff.mp H
   obtain ⟨t236, A50, H⟩ := H
   replace H : (if t236 = true then (if 0 < (l0.length : Int) then (if ((rd_T24 l0 x4_1).f0) = ((rd_T24 l0 0).f0) then (if ((rd_T24 l0 x4_1).f1) = ((rd_T24 l0 0).f1) then (pelotonref03_Add.l0 k1 l0 (wrap64 (x4_1 + 1))) else (some (0, 0, ([] : List Int), false))) else (some (0, 0, ([] : List Int), false))) else (none)) else (some (0, 0, ([] : List Int), false))) = some (r1, r2, r3, r4) := H
   have A5 := Aside0.mk A50
   clear A50
   by_cases c6 : t236 = true
   rotate_left
   ·
    replace c6 := Bool.eq_false_iff.mpr c6
    subst c6
    have H1 : (some (0, 0, ([] : List Int), false)) = some (r1, r2, r3, r4) := by rw [if_neg (show ¬ (false = true) by decide)] at H; exact H
    clear H
    have H := H1
    clear H1
    simp only [Option.some.injEq, Prod.mk.injEq] at H
    obtain ⟨rfl, rfl, rfl, rfl⟩ := H
    try go_wp2
    replace BK234 := Aside0.mk (k_d BK234.out)
    replace HB := Aside0.mk (b_d HB.out)
    have p235 : 0 ≤ (x4_1 : Int) := of_decide_eq_true (by first | (with_reducible assumption) | assumption)
    have q235 : x4_1 < (l0.length : Int) := of_decide_eq_true (by first | (with_reducible assumption) | assumption)
    obtain ⟨ad235, A235_2, c235_2, e235, hx235_0, hx235_1, hx235_2, hl235_2, hi235_2⟩ := at_T24 HR0.out x4_1 p235 q235
    have hw235_2 := hx235_2
    have hw235_1 := hx235_1
    have hw235_0 := hx235_0
    cases e235
    replace hx235_0 := cb_ HB hx235_0
    replace hx235_1 := cb_ HB hx235_1
    replace hx235_2 := cb_ HB hx235_2
    have HR235_2 := Aside0.mk hi235_2
    have HC235_2 := Aside0.mk hl235_2
    clear hi235_2 hl235_2
    replace p235 := eq_true p235
    replace q235 := eq_true q235
    refine start_ (n := 30) (S := fun w' => w'.cell? (ad235.add ((x4_1).toNat * 3)) = some (.int .i64 ((rd_T24 l0 x4_1).f0)) ∧ w'.cell? ⟨(ad235.add ((x4_1).toNat * 3)).block, (ad235.add ((x4_1).toNat * 3)).off + 1, none⟩ = some (.int .i64 ((rd_T24 l0 x4_1).f1)) ∧ w'.cell? ⟨(ad235.add ((x4_1).toNat * 3)).block, (ad235.add ((x4_1).toNat * 3)).off + 2, none⟩ = some (.slice A235_2 ((rd_T24 l0 x4_1).f2).length c235_2)) (ds := []) #[false, false, false, false, false, false, false, false, false, false, false, false, false, false, false, false, false, false, false, false, false, false, false, false, false, false, false, false, false, false] (by kernel_rfl) rfl rfl ⟨(cb_ HB hw235_0), (cb_ HB hw235_1), (cb_ HB hw235_2)⟩ (fun hHeld => ?_); refine with_tabW pelotonref03_Add.tab4 pelotonref03_Add.bits4 (fun HT_ HW_ => ?_)
    generalize wr.drew = w16 at BK234 HB HR235_2 hx235_0 hx235_1 hx235_2 hHeld ⊢
    refine pu_ (i := 0) (N := some 15) (bs_ 30 1) rfl rfl HT_ ?_
    refine pu_ (i := 1) (N := some 16) (bs_ 30 3) rfl rfl HT_ ?_
    refine pu_ (i := 2) (N := some 17) (bs_ 30 7) rfl rfl HT_ ?_
    refine take_ (i := 3) (N := some 18) (v := ?_) (a' := ?_) (bs_ 30 15) rfl rfl (take_ofW HT_.out HW_.out (by kernel_rfl)) (fun _ _ _ h => h) (Or.inl ⟨by rfl, ?_⟩) hHeld ?_ ?_
    rotate_left
    ·
     rintro w' ⟨s0, s1, s2⟩
     go_simp
     with_reducible rfl
    rotate_left
    ·
     simp only [Act.put, l_1, l_2, l_3, i64_w, i32_w]
     rfl
    refine one_ (i := 4) (N := some 19) (bs_ 30 31) rfl rfl (one_of HT_.out (by kernel_rfl)) (by decide) (fun K hK => ?_)
    refine goes_ Try.func32 (by kernel_rfl) rfl #[.agg #[.int .i64 ((rd_T24 l0 x4_1).f0), .int .i64 ((rd_T24 l0 x4_1).f1), .slice A235_2 ((rd_T24 l0 x4_1).f2).length c235_2]] (by rfl) rfl rfl (by (try simp only [l_4, l_5, l_6]); first | done | rfl | (simp only [l_7, l_8]; rfl)) ?_
    with_reducible refine (pelotonref03_Fit.calls ((rd_T24 l0 x4_1).f0) ((rd_T24 l0 x4_1).f1) _ _ ((rd_T24 l0 x4_1).f2) false _ ?side1 ?side2 A5.out).mono ?_
    (case side1 => repeat (first | exact (Kd.C_below HR235_2.out HB.out) | (with_reducible refine Kd.C_alloc ?_ _) | (with_reducible refine Kd.C_drewN ?_ _) | (with_reducible refine Kd.C_drew ?_)))
    (case side2 => exact HC235_2.out)
    rintro e w17 ⟨rfl, hb⟩
    refine ⟨_, rfl, ?_⟩
    replace BK234 := Aside0.mk (blk_below (tk_ BK234) hb)
    replace HB := Aside0.mk (below_step (bw_ HB) hb)
    (try clear hb)
    (try clear hb2)
    (try clear hk)
    (try clear hi)
    refine hK.out _ _ ⟨(cb_ HB hw235_0), (cb_ HB hw235_1), (cb_ HB hw235_2)⟩ (fun hHeld => ?_)
    clear hK K
    refine no_ (N := some 19) ?_
    refine pu_ (i := 5) (N := some 20) (bs_ 30 63) rfl rfl HT_ ?_
    refine pu_ (i := 6) (N := some 21) (bs_ 30 127) rfl rfl HT_ ?_
    refine pn_ (i := 7) (N := some 22) (bs_ 30 255) rfl rfl HT_ ?_
    refine pn_ (i := 8) (N := some 23) (bs_ 30 511) rfl rfl HT_ ?_
    refine pn_ (i := 9) (N := some 24) (bs_ 30 1023) rfl rfl HT_ ?_
    refine pn_ (i := 10) (N := some 25) (bs_ 30 2047) rfl rfl HT_ ?_
    refine pn_ (i := 11) (N := some 26) (bs_ 30 4095) rfl rfl HT_ ?_
    refine pn_ (i := 12) (N := some 27) (bs_ 30 8191) rfl rfl HT_ ?_
    refine pn_ (i := 13) (N := some 28) (bs_ 30 16383) rfl rfl HT_ ?_
    refine pn_ (i := 14) (N := some 29) (bs_ 30 32767) rfl rfl HT_ ?_
    refine pn_ (i := 15) (N := some 30) (bs_ 30 65535) rfl rfl HT_ ?_
    refine pn_ (i := 16) (N := some 31) (bs_ 30 131071) rfl rfl HT_ ?_
    refine pu_ (i := 17) (N := some 32) (bs_ 30 262143) rfl rfl HT_ ?_
    refine pu_ (i := 18) (N := some 33) (bs_ 30 524287) rfl rfl HT_ ?_
    refine pn_ (i := 19) (N := some 34) (bs_ 30 1048575) rfl rfl HT_ ?_
    refine pn_ (i := 20) (N := some 35) (bs_ 30 2097151) rfl rfl HT_ ?_
    refine pn_ (i := 21) (N := some 36) (bs_ 30 4194303) rfl rfl HT_ ?_
    refine pn_ (i := 22) (N := some 37) (bs_ 30 8388607) rfl rfl HT_ ?_
    refine pn_ (i := 23) (N := some 38) (bs_ 30 16777215) rfl rfl HT_ ?_
    refine pn_ (i := 24) (N := some 39) (bs_ 30 33554431) rfl rfl HT_ ?_
    refine pn_ (i := 25) (N := some 40) (bs_ 30 67108863) rfl rfl HT_ ?_
    refine pn_ (i := 26) (N := some 41) (bs_ 30 134217727) rfl rfl HT_ ?_
    refine pn_ (i := 27) (N := some 42) (bs_ 30 268435455) rfl rfl HT_ ?_
    refine pn_ (i := 28) (N := some 43) (bs_ 30 536870911) rfl rfl HT_ ?_
    refine pu_ (i := 29) (N := some 44) (bs_ 30 1073741823) rfl rfl HT_ ?_
    refine done_ (done_of HT_.out (by kernel_rfl)) ?_
    have hcz18_0 := bc_0 BK234
    have hcz18_1 := bc_1 BK234
    have hcz18_2 := bc_2 BK234
    have hfz18_0 := blk_frozen BK234.out 0
    have hfz18_1 := blk_frozen BK234.out 1
    have hfz18_2 := blk_frozen BK234.out 2
    try go_wp2
    refine bodyPost_ret (results_ct rfl _ _ gb234 24 #[.int .i64 0, .int .i64 0, .slice none 0 0] (0, 0) _ rfl (by (with_reducible repeat (first | refine k_n ?_ _ | refine k_d ?_ | refine k_a ?_ _)); refine blk_put (cs := #[.int .i64 0, .int .i64 0, .slice none 0 0]) ?_ 2 _ rfl; (with_reducible repeat (first | refine k_n ?_ _ | refine k_d ?_ | refine k_a ?_ _)); refine blk_put (cs := #[.int .i64 0, .int .i64 x235001_1, .slice none 0 0]) ?_ 1 _ rfl; (with_reducible repeat (first | refine k_n ?_ _ | refine k_d ?_ | refine k_a ?_ _)); refine blk_put (cs := #[.int .i64 x235000_1, .int .i64 x235001_1, .slice none 0 0]) ?_ 0 _ rfl; (with_reducible repeat (first | refine k_n ?_ _ | refine k_d ?_ | refine k_a ?_ _)); exact BK234.out) Try.underlying24 rfl (by kernel_rfl)) rfl ?_
    exact ⟨_, by first | rfl | (simp [errW_none, errW_some] <;> rfl) | (simp [*, errW_none, errW_some] <;> rfl), by first | exact Kd.R_nil _ _ _ _ _ | exact Kd.N_nil _ _ _ _ _ | exact Kd.V_nil _ _ _ _ _ | exact Kd.Q_nil _ _ _ _ _ | exact Kd.S_nil _ _ _ _ _, by repeat (first | (with_reducible first | exact HB.out | apply b_a | apply b_n | apply b_d | refine b_s ?_ GE234.out) | exact HB.out)⟩
   subst c6
   have H1 : (if 0 < (l0.length : Int) then (if ((rd_T24 l0 x4_1).f0) = ((rd_T24 l0 0).f0) then (if ((rd_T24 l0 x4_1).f1) = ((rd_T24 l0 0).f1) then (pelotonref03_Add.l0 k1 l0 (wrap64 (x4_1 + 1))) else (some (0, 0, ([] : List Int), false))) else (some (0, 0, ([] : List Int), false))) else (none)) = some (r1, r2, r3, r4) := by rw [if_pos rfl] at H; exact H
   clear H
   have H := H1
   clear H1
   by_cases c7 : 0 < (l0.length : Int)
   rotate_left
   ·
    rw [if_neg c7] at H
    exact absurd H (by simp)
   rw [if_pos c7] at H
   have c7b0 : decide (0 < (l0.length : Int)) = true := decide_eq_true c7
   have c7b1 : decide (0 < l0.length) = true := decide_eq_true (by omega)
   clear c7
   by_cases c8 : ((rd_T24 l0 x4_1).f0) = ((rd_T24 l0 0).f0)
   rotate_left
   ·
    rw [if_neg c8] at H
    have c8b0 : (((rd_T24 l0 x4_1).f0) == ((rd_T24 l0 0).f0)) = false := beq_eq_false_iff_ne.mpr c8
    have c8b1 : (((rd_T24 l0 x4_1).f0) != ((rd_T24 l0 0).f0)) = true := bne_iff_ne.mpr c8
    simp only [Option.some.injEq, Prod.mk.injEq] at H
    obtain ⟨rfl, rfl, rfl, rfl⟩ := H
    try go_wp2
    replace BK234 := Aside0.mk (k_d BK234.out)
    replace HB := Aside0.mk (b_d HB.out)
    have p235 : 0 ≤ (x4_1 : Int) := of_decide_eq_true (by first | (with_reducible assumption) | assumption)
    have q235 : x4_1 < (l0.length : Int) := of_decide_eq_true (by first | (with_reducible assumption) | assumption)
    obtain ⟨ad235, A235_2, c235_2, e235, hx235_0, hx235_1, hx235_2, hl235_2, hi235_2⟩ := at_T24 HR0.out x4_1 p235 q235
    have hw235_2 := hx235_2
    have hw235_1 := hx235_1
    have hw235_0 := hx235_0
    cases e235
    replace hx235_0 := cb_ HB hx235_0
    replace hx235_1 := cb_ HB hx235_1
    replace hx235_2 := cb_ HB hx235_2
    have HR235_2 := Aside0.mk hi235_2
    have HC235_2 := Aside0.mk hl235_2
    clear hi235_2 hl235_2
    replace p235 := eq_true p235
    replace q235 := eq_true q235
    have p237 : 0 ≤ (x4_1 : Int) := of_decide_eq_true (by first | (with_reducible assumption) | assumption)
    have q237 : x4_1 < (l0.length : Int) := of_decide_eq_true (by first | (with_reducible assumption) | assumption)
    obtain ⟨ad237, A237_2, c237_2, e237, hx237_0, hx237_1, hx237_2, hl237_2, hi237_2⟩ := at_T24 HR0.out x4_1 p237 q237
    have hw237_2 := hx237_2
    have hw237_1 := hx237_1
    have hw237_0 := hx237_0
    obtain rfl : ad235 = ad237 := (by injection e237)
    replace hx237_0 := cb_ HB hx237_0
    replace hx237_1 := cb_ HB hx237_1
    replace hx237_2 := cb_ HB hx237_2
    have HR237_2 := Aside0.mk hi237_2
    have HC237_2 := Aside0.mk hl237_2
    clear hi237_2 hl237_2
    replace p237 := eq_true p237
    replace q237 := eq_true q237
    have p238 : 0 ≤ (0 : Int) := (by omega)
    have q238 : 0 < (l0.length : Int) := of_decide_eq_true (by first | (with_reducible assumption) | assumption)
    obtain ⟨ad238, A238_2, c238_2, e238, hx238_0, hx238_1, hx238_2, hl238_2, hi238_2⟩ := at_T24 HR0.out 0 p238 q238
    have hw238_2 := hx238_2
    (try rw [show ((0 : Int)).toNat = 0 from rfl] at hw238_2)
    (try rw [show 0 * 3 = 0 from rfl] at hw238_2)
    (try rw [Addr.add_zero'] at hw238_2)
    have hw238_1 := hx238_1
    (try rw [show ((0 : Int)).toNat = 0 from rfl] at hw238_1)
    (try rw [show 0 * 3 = 0 from rfl] at hw238_1)
    (try rw [Addr.add_zero'] at hw238_1)
    have hw238_0 := hx238_0
    (try rw [show ((0 : Int)).toNat = 0 from rfl] at hw238_0)
    (try rw [show 0 * 3 = 0 from rfl] at hw238_0)
    (try rw [Addr.add_zero'] at hw238_0)
    obtain rfl : ad235 = ad238 := (by injection e238)
    have qi238 : (0 < l0.length) = True := eq_true (by omega)
    (try rw [show ((0 : Int)).toNat = 0 from rfl] at hx238_0)
    (try rw [show 0 * 3 = 0 from rfl] at hx238_0)
    (try rw [Addr.add_zero'] at hx238_0)
    (try rw [show ((0 : Int)).toNat = 0 from rfl] at hx238_1)
    (try rw [show 0 * 3 = 0 from rfl] at hx238_1)
    (try rw [Addr.add_zero'] at hx238_1)
    (try rw [show ((0 : Int)).toNat = 0 from rfl] at hx238_2)
    (try rw [show 0 * 3 = 0 from rfl] at hx238_2)
    (try rw [Addr.add_zero'] at hx238_2)
    replace hx238_0 := cb_ HB hx238_0
    replace hx238_1 := cb_ HB hx238_1
    replace hx238_2 := cb_ HB hx238_2
    have HR238_2 := Aside0.mk hi238_2
    have HC238_2 := Aside0.mk hl238_2
    clear hi238_2 hl238_2
    replace p238 := eq_true p238
    replace q238 := eq_true q238
    refine start_ (n := 30) (S := fun w' => w'.cell? (ad235.add ((x4_1).toNat * 3)) = some (.int .i64 ((rd_T24 l0 x4_1).f0)) ∧ w'.cell? ⟨(ad235.add ((x4_1).toNat * 3)).block, (ad235.add ((x4_1).toNat * 3)).off + 1, none⟩ = some (.int .i64 ((rd_T24 l0 x4_1).f1)) ∧ w'.cell? ⟨(ad235.add ((x4_1).toNat * 3)).block, (ad235.add ((x4_1).toNat * 3)).off + 2, none⟩ = some (.slice A235_2 ((rd_T24 l0 x4_1).f2).length c235_2) ∧ w'.cell? (ad235.add ((x4_1).toNat * 3)) = some (.int .i64 ((rd_T24 l0 x4_1).f0)) ∧ w'.cell? ⟨(ad235.add ((x4_1).toNat * 3)).block, (ad235.add ((x4_1).toNat * 3)).off + 1, none⟩ = some (.int .i64 ((rd_T24 l0 x4_1).f1)) ∧ w'.cell? ⟨(ad235.add ((x4_1).toNat * 3)).block, (ad235.add ((x4_1).toNat * 3)).off + 2, none⟩ = some (.slice A237_2 ((rd_T24 l0 x4_1).f2).length c237_2) ∧ w'.cell? ad235 = some (.int .i64 ((rd_T24 l0 0).f0)) ∧ w'.cell? ⟨ad235.block, ad235.off + 1, none⟩ = some (.int .i64 ((rd_T24 l0 0).f1)) ∧ w'.cell? ⟨ad235.block, ad235.off + 2, none⟩ = some (.slice A238_2 ((rd_T24 l0 0).f2).length c238_2)) (ds := []) #[false, false, false, false, false, false, false, false, false, false, false, false, false, false, false, false, false, false, false, false, false, false, false, false, false, false, false, false, false, false] (by kernel_rfl) rfl rfl ⟨(cb_ HB hw235_0), (cb_ HB hw235_1), (cb_ HB hw235_2), (cb_ HB hw237_0), (cb_ HB hw237_1), (cb_ HB hw237_2), (cb_ HB hw238_0), (cb_ HB hw238_1), (cb_ HB hw238_2)⟩ (fun hHeld => ?_); refine with_tabW pelotonref03_Add.tab4 pelotonref03_Add.bits4 (fun HT_ HW_ => ?_)
    generalize wr.drew = w13 at BK234 HB HR235_2 HR237_2 HR238_2 hx235_0 hx235_1 hx235_2 hx237_0 hx237_1 hx237_2 hx238_0 hx238_1 hx238_2 hHeld ⊢
    refine pu_ (i := 0) (N := some 15) (bs_ 30 1) rfl rfl HT_ ?_
    refine pu_ (i := 1) (N := some 16) (bs_ 30 3) rfl rfl HT_ ?_
    refine pu_ (i := 2) (N := some 17) (bs_ 30 7) rfl rfl HT_ ?_
    refine take_ (i := 3) (N := some 18) (v := ?_) (a' := ?_) (bs_ 30 15) rfl rfl (take_ofW HT_.out HW_.out (by kernel_rfl)) (fun _ _ _ h => h) (Or.inl ⟨by rfl, ?_⟩) hHeld ?_ ?_
    rotate_left
    ·
     rintro w' ⟨s0, s1, s2, s3, s4, s5, s6, s7, s8⟩
     go_simp
     with_reducible rfl
    rotate_left
    ·
     simp only [Act.put, l_1, l_2, l_3, i64_w, i32_w]
     rfl
    refine one_ (i := 4) (N := some 19) (bs_ 30 31) rfl rfl (one_of HT_.out (by kernel_rfl)) (by decide) (fun K hK => ?_)
    refine goes_ Try.func32 (by kernel_rfl) rfl #[.agg #[.int .i64 ((rd_T24 l0 x4_1).f0), .int .i64 ((rd_T24 l0 x4_1).f1), .slice A235_2 ((rd_T24 l0 x4_1).f2).length c235_2]] (by rfl) rfl rfl (by (try simp only [l_4, l_5, l_6]); first | done | rfl | (simp only [l_7, l_8]; rfl)) ?_
    with_reducible refine (pelotonref03_Fit.calls ((rd_T24 l0 x4_1).f0) ((rd_T24 l0 x4_1).f1) _ _ ((rd_T24 l0 x4_1).f2) true _ ?side1 ?side2 A5.out).mono ?_
    (case side1 => repeat (first | exact (Kd.C_below HR235_2.out HB.out) | (with_reducible refine Kd.C_alloc ?_ _) | (with_reducible refine Kd.C_drewN ?_ _) | (with_reducible refine Kd.C_drew ?_)))
    (case side2 => exact HC235_2.out)
    rintro e w14 ⟨rfl, hb⟩
    refine ⟨_, rfl, ?_⟩
    replace BK234 := Aside0.mk (blk_below (tk_ BK234) hb)
    replace HB := Aside0.mk (below_step (bw_ HB) hb)
    (try clear hb)
    (try clear hb2)
    (try clear hk)
    (try clear hi)
    refine hK.out _ _ ⟨(cb_ HB hw235_0), (cb_ HB hw235_1), (cb_ HB hw235_2), (cb_ HB hw237_0), (cb_ HB hw237_1), (cb_ HB hw237_2), (cb_ HB hw238_0), (cb_ HB hw238_1), (cb_ HB hw238_2)⟩ (fun hHeld => ?_)
    clear hK K
    refine no_ (N := some 19) ?_
    refine pu_ (i := 5) (N := some 20) (bs_ 30 63) rfl rfl HT_ ?_
    refine pu_ (i := 6) (N := some 21) (bs_ 30 127) rfl rfl HT_ ?_
    refine pu_ (i := 7) (N := some 22) (bs_ 30 255) rfl rfl HT_ ?_
    refine pu_ (i := 8) (N := some 23) (bs_ 30 511) rfl rfl HT_ ?_
    refine pu_ (i := 9) (N := some 24) (bs_ 30 1023) rfl rfl HT_ ?_
    refine pu_ (i := 10) (N := some 25) (bs_ 30 2047) rfl rfl HT_ ?_
    refine pu_ (i := 12) (N := some 27) (bs_ 30 6143) rfl rfl HT_ ?_
    refine pu_ (i := 13) (N := some 28) (bs_ 30 14335) rfl rfl HT_ ?_
    refine pu_ (i := 14) (N := some 29) (bs_ 30 30719) rfl rfl HT_ ?_
    refine take_ (i := 11) (N := some 26) (v := ?_) (a' := ?_) (bs_ 30 32767) rfl rfl (take_ofW HT_.out HW_.out (by kernel_rfl)) (fun _ _ _ h => h) (Or.inl ⟨by rfl, ?_⟩) hHeld ?_ ?_
    rotate_left
    ·
     rintro w' ⟨s0, s1, s2, s3, s4, s5, s6, s7, s8⟩
     go_simp
     with_reducible rfl
    rotate_left
    ·
     simp only [Act.put, l_1, l_2, l_3, i64_w, i32_w]
     rfl
    refine take_ (i := 15) (N := some 30) (v := ?_) (a' := ?_) (bs_ 30 65535) rfl rfl (take_ofW HT_.out HW_.out (by kernel_rfl)) (fun _ _ _ h => h) (Or.inl ⟨by rfl, ?_⟩) hHeld ?_ ?_
    rotate_left
    ·
     rintro w' ⟨s0, s1, s2, s3, s4, s5, s6, s7, s8⟩
     go_simp
     with_reducible rfl
    rotate_left
    ·
     simp only [Act.put, l_1, l_2, l_3, i64_w, i32_w]
     rfl
    refine pu_ (i := 16) (N := some 31) (bs_ 30 131071) rfl rfl HT_ ?_
    refine pu_ (i := 17) (N := some 32) (bs_ 30 262143) rfl rfl HT_ ?_
    refine pu_ (i := 18) (N := some 33) (bs_ 30 524287) rfl rfl HT_ ?_
    refine pn_ (i := 19) (N := some 34) (bs_ 30 1048575) rfl rfl HT_ ?_
    refine pn_ (i := 20) (N := some 35) (bs_ 30 2097151) rfl rfl HT_ ?_
    refine pn_ (i := 21) (N := some 36) (bs_ 30 4194303) rfl rfl HT_ ?_
    refine pn_ (i := 22) (N := some 37) (bs_ 30 8388607) rfl rfl HT_ ?_
    refine pn_ (i := 23) (N := some 38) (bs_ 30 16777215) rfl rfl HT_ ?_
    refine pn_ (i := 24) (N := some 39) (bs_ 30 33554431) rfl rfl HT_ ?_
    refine pn_ (i := 25) (N := some 40) (bs_ 30 67108863) rfl rfl HT_ ?_
    refine pn_ (i := 26) (N := some 41) (bs_ 30 134217727) rfl rfl HT_ ?_
    refine pn_ (i := 27) (N := some 42) (bs_ 30 268435455) rfl rfl HT_ ?_
    refine pn_ (i := 28) (N := some 43) (bs_ 30 536870911) rfl rfl HT_ ?_
    refine pu_ (i := 29) (N := some 44) (bs_ 30 1073741823) rfl rfl HT_ ?_
    refine done_ (done_of HT_.out (by kernel_rfl)) ?_
    have hcz15_0 := bc_0 BK234
    have hcz15_1 := bc_1 BK234
    have hcz15_2 := bc_2 BK234
    have hfz15_0 := blk_frozen BK234.out 0
    have hfz15_1 := blk_frozen BK234.out 1
    have hfz15_2 := blk_frozen BK234.out 2
    try go_wp2
    refine bodyPost_ret (results_ct rfl _ _ gb234 24 #[.int .i64 0, .int .i64 0, .slice none 0 0] (0, 0) _ rfl (by (with_reducible repeat (first | refine k_n ?_ _ | refine k_d ?_ | refine k_a ?_ _)); refine blk_put (cs := #[.int .i64 0, .int .i64 0, .slice none 0 0]) ?_ 2 _ rfl; (with_reducible repeat (first | refine k_n ?_ _ | refine k_d ?_ | refine k_a ?_ _)); refine blk_put (cs := #[.int .i64 0, .int .i64 x235001_1, .slice none 0 0]) ?_ 1 _ rfl; (with_reducible repeat (first | refine k_n ?_ _ | refine k_d ?_ | refine k_a ?_ _)); refine blk_put (cs := #[.int .i64 x235000_1, .int .i64 x235001_1, .slice none 0 0]) ?_ 0 _ rfl; (with_reducible repeat (first | refine k_n ?_ _ | refine k_d ?_ | refine k_a ?_ _)); exact BK234.out) Try.underlying24 rfl (by kernel_rfl)) rfl ?_
    exact ⟨_, by first | rfl | (simp [errW_none, errW_some] <;> rfl) | (simp [*, errW_none, errW_some] <;> rfl), by first | exact Kd.R_nil _ _ _ _ _ | exact Kd.N_nil _ _ _ _ _ | exact Kd.V_nil _ _ _ _ _ | exact Kd.Q_nil _ _ _ _ _ | exact Kd.S_nil _ _ _ _ _, by repeat (first | (with_reducible first | exact HB.out | apply b_a | apply b_n | apply b_d | refine b_s ?_ GE234.out) | exact HB.out)⟩
   rw [if_pos c8] at H
   have c8b0 : (((rd_T24 l0 x4_1).f0) == ((rd_T24 l0 0).f0)) = true := beq_iff_eq.mpr c8
   have c8b1 : (((rd_T24 l0 x4_1).f0) != ((rd_T24 l0 0).f0)) = false := bne_eq_false_iff_eq.mpr c8
   clear c8
   try go_wp2
   replace BK234 := Aside0.mk (k_d BK234.out)
   replace HB := Aside0.mk (b_d HB.out)
   have p235 : 0 ≤ (x4_1 : Int) := of_decide_eq_true (by first | (with_reducible assumption) | assumption)
   have q235 : x4_1 < (l0.length : Int) := of_decide_eq_true (by first | (with_reducible assumption) | assumption)
   obtain ⟨ad235, A235_2, c235_2, e235, hx235_0, hx235_1, hx235_2, hl235_2, hi235_2⟩ := at_T24 HR0.out x4_1 p235 q235
   have hw235_2 := hx235_2
   have hw235_1 := hx235_1
   have hw235_0 := hx235_0
   cases e235
   replace hx235_0 := cb_ HB hx235_0
   replace hx235_1 := cb_ HB hx235_1
   replace hx235_2 := cb_ HB hx235_2
   have HR235_2 := Aside0.mk hi235_2
   have HC235_2 := Aside0.mk hl235_2
   clear hi235_2 hl235_2
   replace p235 := eq_true p235
   replace q235 := eq_true q235
   have p237 : 0 ≤ (x4_1 : Int) := of_decide_eq_true (by first | (with_reducible assumption) | assumption)
   have q237 : x4_1 < (l0.length : Int) := of_decide_eq_true (by first | (with_reducible assumption) | assumption)
   obtain ⟨ad237, A237_2, c237_2, e237, hx237_0, hx237_1, hx237_2, hl237_2, hi237_2⟩ := at_T24 HR0.out x4_1 p237 q237
   have hw237_2 := hx237_2
   have hw237_1 := hx237_1
   have hw237_0 := hx237_0
   obtain rfl : ad235 = ad237 := (by injection e237)
   replace hx237_0 := cb_ HB hx237_0
   replace hx237_1 := cb_ HB hx237_1
   replace hx237_2 := cb_ HB hx237_2
   have HR237_2 := Aside0.mk hi237_2
   have HC237_2 := Aside0.mk hl237_2
   clear hi237_2 hl237_2
   replace p237 := eq_true p237
   replace q237 := eq_true q237
   have p238 : 0 ≤ (0 : Int) := (by omega)
   have q238 : 0 < (l0.length : Int) := of_decide_eq_true (by first | (with_reducible assumption) | assumption)
   obtain ⟨ad238, A238_2, c238_2, e238, hx238_0, hx238_1, hx238_2, hl238_2, hi238_2⟩ := at_T24 HR0.out 0 p238 q238
   have hw238_2 := hx238_2
   (try rw [show ((0 : Int)).toNat = 0 from rfl] at hw238_2)
   (try rw [show 0 * 3 = 0 from rfl] at hw238_2)
   (try rw [Addr.add_zero'] at hw238_2)
   have hw238_1 := hx238_1
   (try rw [show ((0 : Int)).toNat = 0 from rfl] at hw238_1)
   (try rw [show 0 * 3 = 0 from rfl] at hw238_1)
   (try rw [Addr.add_zero'] at hw238_1)
   have hw238_0 := hx238_0
   (try rw [show ((0 : Int)).toNat = 0 from rfl] at hw238_0)
   (try rw [show 0 * 3 = 0 from rfl] at hw238_0)
   (try rw [Addr.add_zero'] at hw238_0)
   obtain rfl : ad235 = ad238 := (by injection e238)
   have qi238 : (0 < l0.length) = True := eq_true (by omega)
   (try rw [show ((0 : Int)).toNat = 0 from rfl] at hx238_0)
   (try rw [show 0 * 3 = 0 from rfl] at hx238_0)
   (try rw [Addr.add_zero'] at hx238_0)
   (try rw [show ((0 : Int)).toNat = 0 from rfl] at hx238_1)
   (try rw [show 0 * 3 = 0 from rfl] at hx238_1)
   (try rw [Addr.add_zero'] at hx238_1)
   (try rw [show ((0 : Int)).toNat = 0 from rfl] at hx238_2)
   (try rw [show 0 * 3 = 0 from rfl] at hx238_2)
   (try rw [Addr.add_zero'] at hx238_2)
   replace hx238_0 := cb_ HB hx238_0
   replace hx238_1 := cb_ HB hx238_1
   replace hx238_2 := cb_ HB hx238_2
   have HR238_2 := Aside0.mk hi238_2
   have HC238_2 := Aside0.mk hl238_2
   clear hi238_2 hl238_2
   replace p238 := eq_true p238
   replace q238 := eq_true q238
   have p239 : 0 ≤ (x4_1 : Int) := of_decide_eq_true (by first | (with_reducible assumption) | assumption)
   have q239 : x4_1 < (l0.length : Int) := of_decide_eq_true (by first | (with_reducible assumption) | assumption)
   obtain ⟨ad239, A239_2, c239_2, e239, hx239_0, hx239_1, hx239_2, hl239_2, hi239_2⟩ := at_T24 HR0.out x4_1 p239 q239
   have hw239_2 := hx239_2
   have hw239_1 := hx239_1
   have hw239_0 := hx239_0
   obtain rfl : ad235 = ad239 := (by injection e239)
   replace hx239_0 := cb_ HB hx239_0
   replace hx239_1 := cb_ HB hx239_1
   replace hx239_2 := cb_ HB hx239_2
   have HR239_2 := Aside0.mk hi239_2
   have HC239_2 := Aside0.mk hl239_2
   clear hi239_2 hl239_2
   replace p239 := eq_true p239
   replace q239 := eq_true q239
   have ea_ := Option.some.inj (hx237_2.symm.trans hx239_2)
   injection ea_ with ea_ en_ ec_
   subst ea_
   subst ec_
   clear en_
   have p240 : 0 ≤ (0 : Int) := (by omega)
   have q240 : 0 < (l0.length : Int) := of_decide_eq_true (by first | (with_reducible assumption) | assumption)
   obtain ⟨ad240, A240_2, c240_2, e240, hx240_0, hx240_1, hx240_2, hl240_2, hi240_2⟩ := at_T24 HR0.out 0 p240 q240
   have hw240_2 := hx240_2
   (try rw [show ((0 : Int)).toNat = 0 from rfl] at hw240_2)
   (try rw [show 0 * 3 = 0 from rfl] at hw240_2)
   (try rw [Addr.add_zero'] at hw240_2)
   have hw240_1 := hx240_1
   (try rw [show ((0 : Int)).toNat = 0 from rfl] at hw240_1)
   (try rw [show 0 * 3 = 0 from rfl] at hw240_1)
   (try rw [Addr.add_zero'] at hw240_1)
   have hw240_0 := hx240_0
   (try rw [show ((0 : Int)).toNat = 0 from rfl] at hw240_0)
   (try rw [show 0 * 3 = 0 from rfl] at hw240_0)
   (try rw [Addr.add_zero'] at hw240_0)
   obtain rfl : ad235 = ad240 := (by injection e240)
   have qi240 : (0 < l0.length) = True := eq_true (by omega)
   (try rw [show ((0 : Int)).toNat = 0 from rfl] at hx240_0)
   (try rw [show 0 * 3 = 0 from rfl] at hx240_0)
   (try rw [Addr.add_zero'] at hx240_0)
   (try rw [show ((0 : Int)).toNat = 0 from rfl] at hx240_1)
   (try rw [show 0 * 3 = 0 from rfl] at hx240_1)
   (try rw [Addr.add_zero'] at hx240_1)
   (try rw [show ((0 : Int)).toNat = 0 from rfl] at hx240_2)
   (try rw [show 0 * 3 = 0 from rfl] at hx240_2)
   (try rw [Addr.add_zero'] at hx240_2)
   replace hx240_0 := cb_ HB hx240_0
   replace hx240_1 := cb_ HB hx240_1
   replace hx240_2 := cb_ HB hx240_2
   have HR240_2 := Aside0.mk hi240_2
   have HC240_2 := Aside0.mk hl240_2
   clear hi240_2 hl240_2
   replace p240 := eq_true p240
   replace q240 := eq_true q240
   have ea_ := Option.some.inj (hx238_2.symm.trans hx240_2)
   injection ea_ with ea_ en_ ec_
   subst ea_
   subst ec_
   clear en_
   refine start_ (n := 30) (S := fun w' => w'.cell? (ad235.add ((x4_1).toNat * 3)) = some (.int .i64 ((rd_T24 l0 x4_1).f0)) ∧ w'.cell? ⟨(ad235.add ((x4_1).toNat * 3)).block, (ad235.add ((x4_1).toNat * 3)).off + 1, none⟩ = some (.int .i64 ((rd_T24 l0 x4_1).f1)) ∧ w'.cell? ⟨(ad235.add ((x4_1).toNat * 3)).block, (ad235.add ((x4_1).toNat * 3)).off + 2, none⟩ = some (.slice A235_2 ((rd_T24 l0 x4_1).f2).length c235_2) ∧ w'.cell? (ad235.add ((x4_1).toNat * 3)) = some (.int .i64 ((rd_T24 l0 x4_1).f0)) ∧ w'.cell? ⟨(ad235.add ((x4_1).toNat * 3)).block, (ad235.add ((x4_1).toNat * 3)).off + 1, none⟩ = some (.int .i64 ((rd_T24 l0 x4_1).f1)) ∧ w'.cell? ⟨(ad235.add ((x4_1).toNat * 3)).block, (ad235.add ((x4_1).toNat * 3)).off + 2, none⟩ = some (.slice A237_2 ((rd_T24 l0 x4_1).f2).length c237_2) ∧ w'.cell? ad235 = some (.int .i64 ((rd_T24 l0 0).f0)) ∧ w'.cell? ⟨ad235.block, ad235.off + 1, none⟩ = some (.int .i64 ((rd_T24 l0 0).f1)) ∧ w'.cell? ⟨ad235.block, ad235.off + 2, none⟩ = some (.slice A238_2 ((rd_T24 l0 0).f2).length c238_2) ∧ w'.cell? (ad235.add ((x4_1).toNat * 3)) = some (.int .i64 ((rd_T24 l0 x4_1).f0)) ∧ w'.cell? ⟨(ad235.add ((x4_1).toNat * 3)).block, (ad235.add ((x4_1).toNat * 3)).off + 1, none⟩ = some (.int .i64 ((rd_T24 l0 x4_1).f1)) ∧ w'.cell? ⟨(ad235.add ((x4_1).toNat * 3)).block, (ad235.add ((x4_1).toNat * 3)).off + 2, none⟩ = some (.slice A237_2 ((rd_T24 l0 x4_1).f2).length c237_2) ∧ w'.cell? ad235 = some (.int .i64 ((rd_T24 l0 0).f0)) ∧ w'.cell? ⟨ad235.block, ad235.off + 1, none⟩ = some (.int .i64 ((rd_T24 l0 0).f1)) ∧ w'.cell? ⟨ad235.block, ad235.off + 2, none⟩ = some (.slice A238_2 ((rd_T24 l0 0).f2).length c238_2)) (ds := []) #[false, false, false, false, false, false, false, false, false, false, false, false, false, false, false, false, false, false, false, false, false, false, false, false, false, false, false, false, false, false] (by kernel_rfl) rfl rfl ⟨(cb_ HB hw235_0), (cb_ HB hw235_1), (cb_ HB hw235_2), (cb_ HB hw237_0), (cb_ HB hw237_1), (cb_ HB hw237_2), (cb_ HB hw238_0), (cb_ HB hw238_1), (cb_ HB hw238_2), (cb_ HB hw239_0), (cb_ HB hw239_1), (cb_ HB hw239_2), (cb_ HB hw240_0), (cb_ HB hw240_1), (cb_ HB hw240_2)⟩ (fun hHeld => ?_); refine with_tabW pelotonref03_Add.tab4 pelotonref03_Add.bits4 (fun HT_ HW_ => ?_)
   generalize wr.drew = w9 at BK234 HB HR235_2 HR237_2 HR238_2 HR239_2 HR240_2 hx235_0 hx235_1 hx235_2 hx237_0 hx237_1 hx237_2 hx238_0 hx238_1 hx238_2 hx239_0 hx239_1 hx239_2 hx240_0 hx240_1 hx240_2 hHeld ⊢
   refine pu_ (i := 0) (N := some 15) (bs_ 30 1) rfl rfl HT_ ?_
   refine pu_ (i := 1) (N := some 16) (bs_ 30 3) rfl rfl HT_ ?_
   refine pu_ (i := 2) (N := some 17) (bs_ 30 7) rfl rfl HT_ ?_
   refine take_ (i := 3) (N := some 18) (v := ?_) (a' := ?_) (bs_ 30 15) rfl rfl (take_ofW HT_.out HW_.out (by kernel_rfl)) (fun _ _ _ h => h) (Or.inl ⟨by rfl, ?_⟩) hHeld ?_ ?_
   rotate_left
   ·
    rintro w' ⟨s0, s1, s2, s3, s4, s5, s6, s7, s8, s9, s10, s11, s12, s13, s14⟩
    go_simp
    with_reducible rfl
   rotate_left
   ·
    simp only [Act.put, l_1, l_2, l_3, i64_w, i32_w]
    rfl
   refine one_ (i := 4) (N := some 19) (bs_ 30 31) rfl rfl (one_of HT_.out (by kernel_rfl)) (by decide) (fun K hK => ?_)
   refine goes_ Try.func32 (by kernel_rfl) rfl #[.agg #[.int .i64 ((rd_T24 l0 x4_1).f0), .int .i64 ((rd_T24 l0 x4_1).f1), .slice A235_2 ((rd_T24 l0 x4_1).f2).length c235_2]] (by rfl) rfl rfl (by (try simp only [l_4, l_5, l_6]); first | done | rfl | (simp only [l_7, l_8]; rfl)) ?_
   with_reducible refine (pelotonref03_Fit.calls ((rd_T24 l0 x4_1).f0) ((rd_T24 l0 x4_1).f1) _ _ ((rd_T24 l0 x4_1).f2) true _ ?side1 ?side2 A5.out).mono ?_
   (case side1 => repeat (first | exact (Kd.C_below HR235_2.out HB.out) | (with_reducible refine Kd.C_alloc ?_ _) | (with_reducible refine Kd.C_drewN ?_ _) | (with_reducible refine Kd.C_drew ?_)))
   (case side2 => exact HC235_2.out)
   rintro e w10 ⟨rfl, hb⟩
   refine ⟨_, rfl, ?_⟩
   replace BK234 := Aside0.mk (blk_below (tk_ BK234) hb)
   replace HB := Aside0.mk (below_step (bw_ HB) hb)
   (try clear hb)
   (try clear hb2)
   (try clear hk)
   (try clear hi)
   refine hK.out _ _ ⟨(cb_ HB hw235_0), (cb_ HB hw235_1), (cb_ HB hw235_2), (cb_ HB hw237_0), (cb_ HB hw237_1), (cb_ HB hw237_2), (cb_ HB hw238_0), (cb_ HB hw238_1), (cb_ HB hw238_2), (cb_ HB hw239_0), (cb_ HB hw239_1), (cb_ HB hw239_2), (cb_ HB hw240_0), (cb_ HB hw240_1), (cb_ HB hw240_2)⟩ (fun hHeld => ?_)
   clear hK K
   refine no_ (N := some 19) ?_
   refine pu_ (i := 5) (N := some 20) (bs_ 30 63) rfl rfl HT_ ?_
   refine pu_ (i := 6) (N := some 21) (bs_ 30 127) rfl rfl HT_ ?_
   refine pu_ (i := 7) (N := some 22) (bs_ 30 255) rfl rfl HT_ ?_
   refine pu_ (i := 8) (N := some 23) (bs_ 30 511) rfl rfl HT_ ?_
   refine pu_ (i := 9) (N := some 24) (bs_ 30 1023) rfl rfl HT_ ?_
   refine pu_ (i := 10) (N := some 25) (bs_ 30 2047) rfl rfl HT_ ?_
   refine pu_ (i := 12) (N := some 27) (bs_ 30 6143) rfl rfl HT_ ?_
   refine pu_ (i := 13) (N := some 28) (bs_ 30 14335) rfl rfl HT_ ?_
   refine pu_ (i := 14) (N := some 29) (bs_ 30 30719) rfl rfl HT_ ?_
   refine take_ (i := 11) (N := some 26) (v := ?_) (a' := ?_) (bs_ 30 32767) rfl rfl (take_ofW HT_.out HW_.out (by kernel_rfl)) (fun _ _ _ h => h) (Or.inl ⟨by rfl, ?_⟩) hHeld ?_ ?_
   rotate_left
   ·
    rintro w' ⟨s0, s1, s2, s3, s4, s5, s6, s7, s8, s9, s10, s11, s12, s13, s14⟩
    go_simp
    with_reducible rfl
   rotate_left
   ·
    simp only [Act.put, l_1, l_2, l_3, i64_w, i32_w]
    rfl
   refine take_ (i := 15) (N := some 30) (v := ?_) (a' := ?_) (bs_ 30 65535) rfl rfl (take_ofW HT_.out HW_.out (by kernel_rfl)) (fun _ _ _ h => h) (Or.inl ⟨by rfl, ?_⟩) hHeld ?_ ?_
   rotate_left
   ·
    rintro w' ⟨s0, s1, s2, s3, s4, s5, s6, s7, s8, s9, s10, s11, s12, s13, s14⟩
    go_simp
    with_reducible rfl
   rotate_left
   ·
    simp only [Act.put, l_1, l_2, l_3, i64_w, i32_w]
    rfl
   refine pu_ (i := 16) (N := some 31) (bs_ 30 131071) rfl rfl HT_ ?_
   refine pu_ (i := 17) (N := some 32) (bs_ 30 262143) rfl rfl HT_ ?_
   refine pu_ (i := 18) (N := some 33) (bs_ 30 524287) rfl rfl HT_ ?_
   refine pu_ (i := 19) (N := some 34) (bs_ 30 1048575) rfl rfl HT_ ?_
   refine pu_ (i := 20) (N := some 35) (bs_ 30 2097151) rfl rfl HT_ ?_
   refine pu_ (i := 21) (N := some 36) (bs_ 30 4194303) rfl rfl HT_ ?_
   refine pu_ (i := 22) (N := some 37) (bs_ 30 8388607) rfl rfl HT_ ?_
   refine pu_ (i := 24) (N := some 39) (bs_ 30 25165823) rfl rfl HT_ ?_
   refine pu_ (i := 25) (N := some 40) (bs_ 30 58720255) rfl rfl HT_ ?_
   refine pu_ (i := 26) (N := some 41) (bs_ 30 125829119) rfl rfl HT_ ?_
   refine take_ (i := 23) (N := some 38) (v := ?_) (a' := ?_) (bs_ 30 134217727) rfl rfl (take_ofW HT_.out HW_.out (by kernel_rfl)) (fun _ _ _ h => h) (Or.inl ⟨by rfl, ?_⟩) hHeld ?_ ?_
   rotate_left
   ·
    rintro w' ⟨s0, s1, s2, s3, s4, s5, s6, s7, s8, s9, s10, s11, s12, s13, s14⟩
    go_simp
    with_reducible rfl
   rotate_left
   ·
    simp only [Act.put, l_1, l_2, l_3, i64_w, i32_w]
    rfl
   refine take_ (i := 27) (N := some 42) (v := ?_) (a' := ?_) (bs_ 30 268435455) rfl rfl (take_ofW HT_.out HW_.out (by kernel_rfl)) (fun _ _ _ h => h) (Or.inl ⟨by rfl, ?_⟩) hHeld ?_ ?_
   rotate_left
   ·
    rintro w' ⟨s0, s1, s2, s3, s4, s5, s6, s7, s8, s9, s10, s11, s12, s13, s14⟩
    go_simp
    with_reducible rfl
   rotate_left
   ·
    simp only [Act.put, l_1, l_2, l_3, i64_w, i32_w]
    rfl
   refine pu_ (i := 28) (N := some 43) (bs_ 30 536870911) rfl rfl HT_ ?_
   refine pu_ (i := 29) (N := some 44) (bs_ 30 1073741823) rfl rfl HT_ ?_
   refine done_ (done_of HT_.out (by kernel_rfl)) ?_
   go_upto_if 44 with (fail)
   by_cases c11 : ((rd_T24 l0 x4_1).f1) = ((rd_T24 l0 0).f1)
   ·
    rw [if_pos c11] at H
    have c11b0 : (((rd_T24 l0 x4_1).f1) == ((rd_T24 l0 0).f1)) = true := beq_iff_eq.mpr c11
    have c11b1 : (((rd_T24 l0 x4_1).f1) != ((rd_T24 l0 0).f1)) = false := bne_eq_false_iff_eq.mpr c11
    clear c11
    (first | rw [c11b0] | (simp only [i64_w, i32_w]; rw [c11b0]) | skip)
    have H' := Aside0.mk H
    clear H
    go_wp2
    go_roundg k1
    case measure => have := HK1.out; omega
    case rel => exact ⟨(wrap64 (x4_1 + 1)), (x235000_1), (x235001_1), (by first | rfl | (simp; done) | (simp [*]; done)), H', ⟨by have := HK1.out; omega⟩, ⟨tk_ BK234⟩, ⟨by repeat (first | (with_reducible first | exact HB.out | apply b_a | apply b_n | apply b_d | refine b_s ?_ GE234.out) | exact HB.out)⟩⟩
   rw [if_neg c11] at H
   have c11b0 : (((rd_T24 l0 x4_1).f1) == ((rd_T24 l0 0).f1)) = false := beq_eq_false_iff_ne.mpr c11
   have c11b1 : (((rd_T24 l0 x4_1).f1) != ((rd_T24 l0 0).f1)) = true := bne_iff_ne.mpr c11
   (first | rw [c11b0] | (simp only [i64_w, i32_w]; rw [c11b0]) | skip)
   simp only [Option.some.injEq, Prod.mk.injEq] at H
   obtain ⟨rfl, rfl, rfl, rfl⟩ := H
   have hcz12_0 := bc_0 BK234
   have hcz12_1 := bc_1 BK234
   have hcz12_2 := bc_2 BK234
   have hfz12_0 := blk_frozen BK234.out 0
   have hfz12_1 := blk_frozen BK234.out 1
   have hfz12_2 := blk_frozen BK234.out 2
   go_wp2
   refine bodyPost_ret (results_ct rfl _ _ gb234 24 #[.int .i64 0, .int .i64 0, .slice none 0 0] (0, 0) _ rfl (by (with_reducible repeat (first | refine k_n ?_ _ | refine k_d ?_ | refine k_a ?_ _)); refine blk_put (cs := #[.int .i64 0, .int .i64 0, .slice none 0 0]) ?_ 2 _ rfl; (with_reducible repeat (first | refine k_n ?_ _ | refine k_d ?_ | refine k_a ?_ _)); refine blk_put (cs := #[.int .i64 0, .int .i64 x235001_1, .slice none 0 0]) ?_ 1 _ rfl; (with_reducible repeat (first | refine k_n ?_ _ | refine k_d ?_ | refine k_a ?_ _)); refine blk_put (cs := #[.int .i64 x235000_1, .int .i64 x235001_1, .slice none 0 0]) ?_ 0 _ rfl; (with_reducible repeat (first | refine k_n ?_ _ | refine k_d ?_ | refine k_a ?_ _)); exact BK234.out) Try.underlying24 rfl (by kernel_rfl)) rfl ?_
   exact ⟨_, by first | rfl | (simp [errW_none, errW_some] <;> rfl) | (simp [*, errW_none, errW_some] <;> rfl), by first | exact Kd.R_nil _ _ _ _ _ | exact Kd.N_nil _ _ _ _ _ | exact Kd.V_nil _ _ _ _ _ | exact Kd.Q_nil _ _ _ _ _ | exact Kd.S_nil _ _ _ _ _, by repeat (first | (with_reducible first | exact HB.out | apply b_a | apply b_n | apply b_d | refine b_s ?_ GE234.out) | exact HB.out)⟩
end Go.Proofs.Ytggcgacndknlaaa.QGridLays
