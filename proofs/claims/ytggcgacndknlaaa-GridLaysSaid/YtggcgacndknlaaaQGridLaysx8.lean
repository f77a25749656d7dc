-- Written by a program of this session (a turned copy of the print) out of the translation. Lean checks it.
import Derived.Test.YtggcgacndknlaaaQGridLaysx0
import Derived.Test.YtggcgacndknlaaaQGridLaysx6
import Derived.Test.YtggcgacndknlaaaQGridLaysx7
namespace Go.Proofs.Ytggcgacndknlaaa.QGridLays
open Go.RowKit Go.Proofs.YtggcgacndknlaaaW.PrintWords Go.Proofs.YtggcgacndknlaaaW.PrintLast Go.Proofs.YtggcgacndknlaaaW.PrintMore
attribute [local go_sem] max2_int min2_int max_two min_two max_three min_three max_four min_four   -- for this text's walks alone
open Go.Proofs.YtggcgacndknlaaaW.PrintWords renaming below_alloc → b_a, pw_below_drewN → b_n, below_drew1 → b_d, below_set → b_s, blk_drewN → k_n, blk_drew → k_d, blk_alloc → k_a
open List renaming setIfInBounds_toArray → l_1, set_cons_zero → l_2, set_cons_succ → l_3, map_toArray → l_4, map_cons → l_5, map_nil → l_6, length_drop → l_7, length_take → l_8
set_option linter.unusedVariables false
set_option linter.unusedSimpArgs false

/-! ### pelotonref03_Cell: function 19 -/
def pelotonref03_Cell.f (a0_0 : Int) (a0_1 : Int) (l0_2 : List Int) (a1 : Int) (a2 : Int) : Option (Int) := if 0 ≤ (wrap64 ((wrap64 (a1 * a0_1)) + a2)) then (if (wrap64 ((wrap64 (a1 * a0_1)) + a2)) < (l0_2.length : Int) then (some (rd l0_2 (wrap64 ((wrap64 (a1 * a0_1)) + a2)))) else (none)) else (none)
set_option maxHeartbeats 60000000 in
set_option maxRecDepth 100000 in
theorem pelotonref03_Cell.calls (a0_0 : Int) (a0_1 : Int) (A0_2 : Option Addr) (c0_2 : Nat) (l0_2 : List Int) (a1 : Int) (a2 : Int) (r : Int) (w : World) (hr0_2 : Kd.C (Kd.int .i32) w A0_2 l0_2.length l0_2) (hc0_2 : l0_2.length ≤ c0_2) (h : pelotonref03_Cell.f a0_0 a0_1 l0_2 a1 a2 = some r) :
  Calls Try.prog 19 #[.agg #[.int .i64 a0_0, .int .i64 a0_1, .slice A0_2 l0_2.length c0_2], .int .i64 a1, .int .i64 a2] w fun e w' => e = .returned (.int .i32 r) ∧ Below w.heap.size w w' := by
 have hu24 := Try.underlying24
 have HR0_2 := Aside0.mk hr0_2
 have HC0_2 := Aside0.mk hc0_2
 clear hr0_2 hc0_2
 have HB := Aside0.mk (Below.refl w.heap.size w)
 have H : (if 0 ≤ (wrap64 ((wrap64 (a1 * a0_1)) + a2)) then (if (wrap64 ((wrap64 (a1 * a0_1)) + a2)) < (l0_2.length : Int) then (some (rd l0_2 (wrap64 ((wrap64 (a1 * a0_1)) + a2)))) else (none)) else (none)) = some r := h
 clear h
 obtain ⟨ji4, hji4⟩ : ∃ j_ : Int, (wrap64 ((wrap64 (a1 * a0_1)) + a2)) = j_ := ⟨_, rfl⟩
 replace H : (if 0 ≤ (ji4) then (if (ji4) < (l0_2.length : Int) then (some (rd l0_2 (ji4))) else (none)) else (none)) = some r := by first | (rw [hji4] at H; exact H) | (simp only [hji4] at H ⊢; exact H)
 have hji4w : (IntKind.i64.wrap ((wrap64 (a1 * a0_1)) + a2)) = ji4 := (i64_w _).trans hji4
 by_cases c5 : 0 ≤ (ji4)
 rotate_left
 ·
  rw [if_neg c5] at H
  exact absurd H (by simp)

 rw [if_pos c5] at H
 have c5b0 : decide (0 ≤ (ji4)) = true := decide_eq_true c5
 clear c5
 by_cases c6 : (ji4) < (l0_2.length : Int)
 rotate_left
 ·
  rw [if_neg c6] at H
  exact absurd H (by simp)
 rw [if_pos c6] at H
 have c6b0 : decide ((ji4) < (l0_2.length : Int)) = true := decide_eq_true c6
 clear c6
 obtain rfl := Option.some.inj H
 go_enter Try.func19, Try.ntmps19
 go_wp2_with (first | ((with_reducible refine gate_dst (N := 3) rfl ?_); refine box_event ?hg (N := 3) ?hd (cs := #[.int .i64 a0_0, .int .i64 a0_1, .slice A0_2 l0_2.length c0_2]) (t := 24) ?hr ?_; (case hd => rfl); (case hg => rfl); (case hr => first | (go_simp; done) | (go_simp; rfl)); intro gb198 hg w7 hbox hb; have BK198 := Aside0.mk (hbox); have GW198 := Aside0.mk ((by rw [hg]; exact (below_size (bw_ HB)) : w.heap.size ≤ gb198)); have GE198 := Aside0.mk ((by rw [hg]; exact (below_size (bw_ HB)) : w.heap.size ≤ gb198)); replace HB := Aside0.mk (below_step (bw_ HB) hb); clear hb hbox hg; have hcz8_0 := bc_0 BK198; have hcz8_1 := bc_1 BK198; have hcz8_2 := bc_2 BK198; have hfz8_0 := blk_frozen BK198.out 0; have hfz8_1 := blk_frozen BK198.out 1; have hfz8_2 := blk_frozen BK198.out 2; have p199 : 0 ≤ ((ji4) : Int) := of_decide_eq_true (by first | (with_reducible assumption) | assumption); have q199 : (ji4) < (l0_2.length : Int) := of_decide_eq_true (by first | (with_reducible assumption) | assumption); obtain ⟨ad199, e199, hx199_0⟩ := Kd.at_int HR0_2.out (ji4) p199 q199; cases e199; replace hx199_0 := cb_ HB hx199_0; replace p199 := eq_true p199; replace q199 := eq_true q199))
 go_ret
 exact ⟨by first | rfl | (simp [errW_none, errW_some] <;> rfl) | (simp only [← hji4]; first | rfl | (simp [errW_none, errW_some] <;> rfl)) | (simp [*, errW_none, errW_some] <;> rfl), by repeat (first | (with_reducible first | exact HB.out | apply b_a | apply b_n | apply b_d | refine b_s ?_ GE198.out) | exact HB.out)⟩
/-! ### pelotonref03_Turn: function 33 -/
mutual
def pelotonref03_Turn.l0 : Nat → Int → Int → Int → List Int → Int → Int → List Int → Option (Int × Int × List Int)
 | 0, _, _, _, _, _, _, _ => none
 | k + 1, x4, x201000, x201001, x201002, x203000, x203001, x203002 => if x4 < x201001 then (pelotonref03_Turn.l1 k x4 0 x201000 x201001 x201002 x203000 x203001 x203002) else (some (x203000, x203001, x203002))
def pelotonref03_Turn.l1 : Nat → Int → Int → Int → Int → List Int → Int → Int → List Int → Option (Int × Int × List Int)
 | 0, _, _, _, _, _, _, _, _ => none
 | k + 1, x4, x5, x201000, x201001, x201002, x203000, x203001, x203002 => if x5 < x201000 then ((pelotonref03_Cell.f x201000 x201001 x201002 x5 x4).bind fun t203 => (if x203002.length < 35184372088832 then (pelotonref03_Turn.l1 k x4 (wrap64 (x5 + 1)) x201000 x201001 x201002 x203000 x203001 (x203002 ++ [t203])) else (none))) else (pelotonref03_Turn.l0 k (wrap64 (x4 + 1)) x201000 x201001 x201002 x203000 x203001 x203002)
end
def pelotonref03_Turn.f (k : Nat) (a0_0 : Int) (a0_1 : Int) (l0_2 : List Int) : Option (Int × Int × List Int) := pelotonref03_Turn.l0 k 0 a0_0 a0_1 l0_2 a0_1 a0_0 ([] : List Int)
theorem pelotonref03_Turn.mono_l : ∀ k, (∀ y0 y1 y2 y3 y4 y5 y6, LeO (pelotonref03_Turn.l0 k y0 y1 y2 y3 y4 y5 y6) (pelotonref03_Turn.l0 (k + 1) y0 y1 y2 y3 y4 y5 y6)) ∧ (∀ y0 y1 y2 y3 y4 y5 y6 y7, LeO (pelotonref03_Turn.l1 k y0 y1 y2 y3 y4 y5 y6 y7) (pelotonref03_Turn.l1 (k + 1) y0 y1 y2 y3 y4 y5 y6 y7))
 | 0 => ⟨fun _ _ _ _ _ _ _ r h => by simp [pelotonref03_Turn.l0] at h, fun _ _ _ _ _ _ _ _ r h => by simp [pelotonref03_Turn.l1] at h⟩
 | k + 1 => by
  obtain ⟨ih0, ih1⟩ := pelotonref03_Turn.mono_l k
  refine ⟨?_, ?_⟩
  ·
   intro y0 y1 y2 y3 y4 y5 y6
   unfold pelotonref03_Turn.l0
   repeat' first
   | (with_reducible exact ih0 _ _ _ _ _ _ _)
   | (with_reducible exact ih1 _ _ _ _ _ _ _ _)
   | (with_reducible exact LeO.refl _)
   | (with_reducible exact LeO.none _)
   | (with_reducible refine LeO.ite ?_ ?_)
   | (with_reducible refine LeO.bind ?_ (fun _ => ?_))
   | exact ih0 _ _ _ _ _ _ _
   | exact ih1 _ _ _ _ _ _ _ _
   | exact LeO.none _
   | refine LeO.ite ?_ ?_
   | refine LeO.bind ?_ (fun _ => ?_)
  ·
   intro y0 y1 y2 y3 y4 y5 y6 y7
   unfold pelotonref03_Turn.l1
   repeat' first
   | (with_reducible exact ih0 _ _ _ _ _ _ _)
   | (with_reducible exact ih1 _ _ _ _ _ _ _ _)
   | (with_reducible exact LeO.refl _)
   | (with_reducible exact LeO.none _)
   | (with_reducible refine LeO.ite ?_ ?_)
   | (with_reducible refine LeO.bind ?_ (fun _ => ?_))
   | exact ih0 _ _ _ _ _ _ _
   | exact ih1 _ _ _ _ _ _ _ _
   | exact LeO.none _
   | refine LeO.ite ?_ ?_
   | refine LeO.bind ?_ (fun _ => ?_)
theorem pelotonref03_Turn.mono : ∀ a0 a1 a2 k, LeO (pelotonref03_Turn.f k a0 a1 a2) (pelotonref03_Turn.f (k + 1) a0 a1 a2) := by
 intro a0 a1 a2 k
 obtain ⟨ih0, ih1⟩ := pelotonref03_Turn.mono_l k
 unfold pelotonref03_Turn.f
 repeat' first
   | (with_reducible exact ih0 _ _ _ _ _ _ _)
   | (with_reducible exact ih1 _ _ _ _ _ _ _ _)
   | (with_reducible exact LeO.refl _)
   | (with_reducible exact LeO.none _)
   | (with_reducible refine LeO.ite ?_ ?_)
   | (with_reducible refine LeO.bind ?_ (fun _ => ?_))
   | exact ih0 _ _ _ _ _ _ _
   | exact ih1 _ _ _ _ _ _ _ _
   | exact LeO.none _
   | refine LeO.ite ?_ ?_
   | refine LeO.bind ?_ (fun _ => ?_)
def pelotonref03_Turn.T8 : Bool × List (List Nat × List Nat) := (true, [([], []), ([0], [0]), ([], []), ([], []), ([], []), ([2, 3, 4], [2, 3, 4]), ([5], [5]), ([1, 6, 5], [1, 6]), ([0, 1, 2, 3, 4, 5, 6, 7], []), ([8, 7, 7, 0, 1, 2, 3, 4, 5, 6, 7], [7, 8])])
def pelotonref03_Turn.B8 : List Nat := [0, 1, 0, 0, 0, 28, 60, 127, 255, 511]
theorem pelotonref03_Turn.tab8 : rtab .any (opsOf Try.f33 8) = pelotonref03_Turn.T8 := by kernel_rfl
theorem pelotonref03_Turn.bits8 : waitsOk pelotonref03_Turn.T8.2 pelotonref03_Turn.B8 = true := by kernel_rfl
set_option maxHeartbeats 60000000 in
set_option maxRecDepth 100000 in
theorem pelotonref03_Turn.calls (k : Nat) (a0_0 : Int) (a0_1 : Int) (A0_2 : Option Addr) (c0_2 : Nat) (l0_2 : List Int) (r1 : Int) (r2 : Int) (r3 : List Int) (w : World) (hr0_2 : Kd.C (Kd.int .i32) w A0_2 l0_2.length l0_2) (hc0_2 : l0_2.length ≤ c0_2) (h : pelotonref03_Turn.f k a0_0 a0_1 l0_2 = some (r1, r2, r3)) :
  Calls Try.prog 33 #[.agg #[.int .i64 a0_0, .int .i64 a0_1, .slice A0_2 l0_2.length c0_2]] w fun e w' => ∃ v2_ : Value, e = .returned (.agg #[.int .i64 r1, .int .i64 r2, v2_]) ∧ Kd.R (Kd.int .i32) 21 w' w.heap.size (fun _ => True) v2_ r3 ∧ Below w.heap.size w w' := by
 have hu24 := Try.underlying24
 have HR0_2 := Aside0.mk hr0_2
 have HC0_2 := Aside0.mk hc0_2
 clear hr0_2 hc0_2
 have HB := Aside0.mk (Below.refl w.heap.size w)
 have H : (pelotonref03_Turn.l0 k 0 a0_0 a0_1 l0_2 a0_1 a0_0 ([] : List Int)) = some (r1, r2, r3) := h
 clear h
 have H' := Aside0.mk H
 clear H
 go_enter Try.func33, Try.ntmps33
 go_wp2_with (first | ((with_reducible refine gate_dst (N := 1) rfl ?_); refine box_event ?hg (N := 1) ?hd (cs := #[.int .i64 a0_0, .int .i64 a0_1, .slice A0_2 l0_2.length c0_2]) (t := 24) ?hr ?_; (case hd => rfl); (case hg => rfl); (case hr => first | (go_simp; done) | (go_simp; rfl)); intro gb200 hg w2 hbox hb; have BK200 := Aside0.mk (hbox); have GW200 := Aside0.mk ((by rw [hg]; exact (below_size (bw_ HB)) : w.heap.size ≤ gb200)); have GE200 := Aside0.mk ((by rw [hg]; exact (below_size (bw_ HB)) : w.heap.size ≤ gb200)); replace HB := Aside0.mk (below_step (bw_ HB) hb); clear hb hbox hg) | ((with_reducible refine gate_dst (N := 2) rfl ?_); refine box_event ?hg (N := 2) ?hd (cs := #[.int .i64 0, .int .i64 0, .slice none 0 0]) (t := 24) ?hr ?_; (case hd => rfl); (case hg => rfl); (case hr => first | (go_simp; done) | (go_simp; rfl)); intro gb201 hg w3 hbox hb; have BK201 := Aside0.mk (hbox); have GW201 := Aside0.mk ((by rw [hg]; exact (below_size (bw_ HB)) : w.heap.size ≤ gb201)); have GE201 := Aside0.mk ((by rw [hg]; exact (below_size (bw_ HB)) : w.heap.size ≤ gb201)); have NB200_201 := Aside0.mk ((by rw [hg]; exact Nat.ne_of_lt (blk_lt (tk_ BK200)) : gb200 ≠ gb201)); have NB201_200 := Aside0.mk ((by rw [hg]; exact Nat.ne_of_gt (blk_lt (tk_ BK200)) : gb201 ≠ gb200)); replace BK200 := Aside0.mk (blk_below (tk_ BK200) hb); replace HB := Aside0.mk (below_step (bw_ HB) hb); clear hb hbox hg; have hnb4 := NB200_201.out; have hnc4 := NB201_200.out; have hcz5_0 := bc_0 BK200; have hcz5_1 := bc_1 BK200; have hcz5_2 := bc_2 BK200; have hfz5_0 := blk_frozen BK200.out 0; have hfz5_1 := blk_frozen BK200.out 1; have hfz5_2 := blk_frozen BK200.out 2) | ((with_reducible refine gate_dst (N := 3) rfl ?_); refine box_event ?hg (N := 3) ?hd (cs := #[.int .i64 0, .int .i64 0, .slice none 0 0]) (t := 24) ?hr ?_; (case hd => rfl); (case hg => rfl); (case hr => first | (go_simp; done) | (go_simp; rfl)); intro gb202 hg w6 hbox hb; have BK202 := Aside0.mk (hbox); have GW202 := Aside0.mk ((by rw [hg]; exact (below_size (bw_ HB)) : w.heap.size ≤ gb202)); have GE202 := Aside0.mk ((by rw [hg]; exact (below_size (bw_ HB)) : w.heap.size ≤ gb202)); have NB200_202 := Aside0.mk ((by rw [hg]; exact Nat.ne_of_lt (blk_lt (tk_ BK200)) : gb200 ≠ gb202)); have NB202_200 := Aside0.mk ((by rw [hg]; exact Nat.ne_of_gt (blk_lt (tk_ BK200)) : gb202 ≠ gb200)); have NB201_202 := Aside0.mk ((by rw [hg]; exact Nat.ne_of_lt (blk_lt (tk_ BK201)) : gb201 ≠ gb202)); have NB202_201 := Aside0.mk ((by rw [hg]; exact Nat.ne_of_gt (blk_lt (tk_ BK201)) : gb202 ≠ gb201)); replace BK200 := Aside0.mk (blk_below (tk_ BK200) hb); replace BK201 := Aside0.mk (blk_below (tk_ BK201) hb); replace HB := Aside0.mk (below_step (bw_ HB) hb); clear hb hbox hg; have hnb7 := NB202_200.out; have hnc7 := NB200_202.out; have hnb8 := NB202_201.out; have hnc8 := NB201_202.out; have hcz9_0 := bc_0 BK202; have hcz9_1 := bc_1 BK202; have hcz9_2 := bc_2 BK202; have hfz9_0 := blk_frozen BK202.out 0; have hfz9_1 := blk_frozen BK202.out 1; have hfz9_2 := blk_frozen BK202.out 2))
 go_loopg [4] k (fun kq v4 w' => ∃ (x4_1 : Int) (x203002_1 : List Int) (u203002 : Value), v4 = .int .i64 x4_1 ∧ Aside0 (pelotonref03_Turn.l0 kq x4_1 a0_0 a0_1 l0_2 a0_1 a0_0 x203002_1 = some (r1, r2, r3)) ∧ Aside0 (kq ≤ k) ∧ Aside0 (Kd.R (Kd.int .i32) 21 w' w.heap.size (fun _ => True) u203002 x203002_1) ∧ Aside0 (w'.heap[gb200]? = some (.cells #[.int .i64 a0_0, .int .i64 a0_1, (.slice A0_2 l0_2.length c0_2)] 24 (0, 0))) ∧ Aside0 (w'.heap[gb201]? = some (.cells #[.int .i64 0, .int .i64 0, (.slice none 0 0)] 24 (0, 0))) ∧ Aside0 (w'.heap[gb202]? = some (.cells #[.int .i64 a0_1, .int .i64 a0_0, u203002] 24 (0, 0))) ∧ Aside0 (Below w.heap.size w w'))
 case atStart => exact ⟨(0), (([] : List Int)), (.slice none 0 0), (by first | rfl | (simp; done) | (simp [*]; done)), H', ⟨Nat.le_refl _⟩, ⟨by first | exact Kd.R_nil _ _ _ _ _ | exact Kd.N_nil _ _ _ _ _ | exact Kd.V_nil _ _ _ _ _ | exact Kd.Q_nil _ _ _ _ _ | exact Kd.S_nil _ _ _ _ _⟩, ⟨by (with_reducible repeat (first | refine k_n ?_ _ | refine k_d ?_ | refine k_a ?_ _)); refine blk_far ?_ NB200_202.out _; (with_reducible repeat (first | refine k_n ?_ _ | refine k_d ?_ | refine k_a ?_ _)); refine blk_far ?_ NB200_202.out _; (with_reducible repeat (first | refine k_n ?_ _ | refine k_d ?_ | refine k_a ?_ _)); refine blk_far ?_ NB200_202.out _; (with_reducible repeat (first | refine k_n ?_ _ | refine k_d ?_ | refine k_a ?_ _)); exact BK200.out⟩, ⟨by (with_reducible repeat (first | refine k_n ?_ _ | refine k_d ?_ | refine k_a ?_ _)); refine blk_far ?_ NB201_202.out _; (with_reducible repeat (first | refine k_n ?_ _ | refine k_d ?_ | refine k_a ?_ _)); refine blk_far ?_ NB201_202.out _; (with_reducible repeat (first | refine k_n ?_ _ | refine k_d ?_ | refine k_a ?_ _)); refine blk_far ?_ NB201_202.out _; (with_reducible repeat (first | refine k_n ?_ _ | refine k_d ?_ | refine k_a ?_ _)); exact BK201.out⟩, ⟨by (with_reducible repeat (first | refine k_n ?_ _ | refine k_d ?_ | refine k_a ?_ _)); refine blk_put (cs := #[.int .i64 a0_1, .int .i64 a0_0, .slice none 0 0]) ?_ 2 _ rfl; (with_reducible repeat (first | refine k_n ?_ _ | refine k_d ?_ | refine k_a ?_ _)); refine blk_put (cs := #[.int .i64 a0_1, .int .i64 0, .slice none 0 0]) ?_ 1 _ rfl; (with_reducible repeat (first | refine k_n ?_ _ | refine k_d ?_ | refine k_a ?_ _)); refine blk_put (cs := #[.int .i64 0, .int .i64 0, .slice none 0 0]) ?_ 0 _ rfl; (with_reducible repeat (first | refine k_n ?_ _ | refine k_d ?_ | refine k_a ?_ _)); exact BK202.out⟩, ⟨by repeat (first | (with_reducible first | exact HB.out | apply b_a | apply b_n | apply b_d | refine b_s ?_ GE200.out | refine b_s ?_ GE201.out | refine b_s ?_ GE202.out) | exact HB.out)⟩⟩
 case round =>
  clear H'
  try clear p2
  try clear c3
  try clear c4
  try clear c7
  try clear c8
  try clear hcz5_0
  try clear hcz5_1
  try clear hcz5_2
  try clear hcz9_0
  try clear hcz9_1
  try clear hcz9_2
  try clear hfz5_0
  try clear hfz5_1
  try clear hfz5_2
  try clear hfz9_0
  try clear hfz9_1
  try clear hfz9_2
  obtain ⟨x4_1, x203002_1, u203002, rfl, HA, HK1, HO_203002, BK200, BK201, BK202, HB⟩ := hrel
  cases gk with
  | zero => exact absurd HA.out (by simp [pelotonref03_Turn.l0])
  | succ k1 =>
   have H := HA.out
   clear HA
   simp only [pelotonref03_Turn.l0] at H
   by_cases c10 : x4_1 < a0_1
   rotate_left
   ·
    rw [if_neg c10] at H
    have c10b0 : decide (x4_1 < a0_1) = false := decide_eq_false c10
    clear c10
    simp only [Option.some.injEq, Prod.mk.injEq] at H
    obtain ⟨rfl, rfl, rfl⟩ := H
    have hnb28 := NB200_201.out
    have hnc28 := NB201_200.out
    have hnb29 := NB200_202.out
    have hnc29 := NB202_200.out
    have hcz30_0 := bc_0 BK200
    have hcz30_1 := bc_1 BK200
    have hcz30_2 := bc_2 BK200
    have hfz30_0 := blk_frozen BK200.out 0
    have hfz30_1 := blk_frozen BK200.out 1
    have hfz30_2 := blk_frozen BK200.out 2
    have hnb31 := NB202_201.out
    have hnc31 := NB201_202.out
    have hcz32_0 := bc_0 BK202
    have hcz32_1 := bc_1 BK202
    have hcz32_2 := bc_2 BK202
    have hfz32_0 := blk_frozen BK202.out 0
    have hfz32_1 := blk_frozen BK202.out 1
    have hfz32_2 := blk_frozen BK202.out 2
    have hcz33_0 := bc_0 BK201
    have hcz33_1 := bc_1 BK201
    have hcz33_2 := bc_2 BK201
    have hfz33_0 := blk_frozen BK201.out 0
    have hfz33_1 := blk_frozen BK201.out 1
    have hfz33_2 := blk_frozen BK201.out 2
    obtain ⟨Ao34, co34, eo34⟩ := Kd.R_slice HO_203002.out
    subst eo34
    go_wp2
    refine bodyPost_ret (results_cell_row rfl _ _ gb201 24 #[.int .i64 a0_1, .int .i64 a0_0, .slice Ao34 x203002_1.length co34] (0, 0) _ rfl (by (with_reducible repeat (first | refine k_n ?_ _ | refine k_d ?_ | refine k_a ?_ _)); refine blk_put (cs := #[.int .i64 a0_1, .int .i64 a0_0, .slice none 0 0]) ?_ 2 _ rfl; (with_reducible repeat (first | refine k_n ?_ _ | refine k_d ?_ | refine k_a ?_ _)); refine blk_put (cs := #[.int .i64 a0_1, .int .i64 0, .slice none 0 0]) ?_ 1 _ rfl; (with_reducible repeat (first | refine k_n ?_ _ | refine k_d ?_ | refine k_a ?_ _)); refine blk_put (cs := #[.int .i64 0, .int .i64 0, .slice none 0 0]) ?_ 0 _ rfl; (with_reducible repeat (first | refine k_n ?_ _ | refine k_d ?_ | refine k_a ?_ _)); exact BK201.out) Try.underlying24 rfl (by kernel_rfl)) rfl ?_
    exact ⟨_, by first | rfl | (simp [errW_none, errW_some] <;> rfl) | (simp [*, errW_none, errW_some] <;> rfl), by (with_reducible repeat (first | apply Kd.R_alloc | apply Kd.R_drewN | apply Kd.R_drew)); exact Kd.R_mono (Kd.R_far (p := ⟨gb201, 2, none⟩) (Kd.R_far (p := ⟨gb201, 1, none⟩) (Kd.R_far (p := ⟨gb201, 0, none⟩) (Kd.R_types HO_203002.out BK201.out (by decide)) (fun _ hk => hk.2) (.int .i64 a0_1)) (fun _ hk => hk.2) (.int .i64 a0_0)) (fun _ hk => hk.2) (.slice Ao34 x203002_1.length co34)) (fun _ hk => trivial), by repeat (first | (with_reducible first | exact HB.out | apply b_a | apply b_n | apply b_d | refine b_s ?_ GE200.out | refine b_s ?_ GE201.out | refine b_s ?_ GE202.out) | exact HB.out)⟩

   rw [if_pos c10] at H
   have c10b0 : decide (x4_1 < a0_1) = true := decide_eq_true c10
   clear c10
   have H' := Aside0.mk H
   clear H
   have hnb11 := NB200_201.out
   have hnc11 := NB201_200.out
   have hnb12 := NB200_202.out
   have hnc12 := NB202_200.out
   have hcz13_0 := bc_0 BK200
   have hcz13_1 := bc_1 BK200
   have hcz13_2 := bc_2 BK200
   have hfz13_0 := blk_frozen BK200.out 0
   have hfz13_1 := blk_frozen BK200.out 1
   have hfz13_2 := blk_frozen BK200.out 2
   go_wp2
   go_loopg [5] k1 (fun kq v5 w' => ∃ (x5_2 : Int) (x203002_2 : List Int) (u203002 : Value), v5 = .int .i64 x5_2 ∧ Aside0 (pelotonref03_Turn.l1 kq x4_1 x5_2 a0_0 a0_1 l0_2 a0_1 a0_0 x203002_2 = some (r1, r2, r3)) ∧ Aside0 (kq ≤ k1) ∧ Aside0 (Kd.R (Kd.int .i32) 21 w' w.heap.size (fun _ => True) u203002 x203002_2) ∧ Aside0 (w'.heap[gb200]? = some (.cells #[.int .i64 a0_0, .int .i64 a0_1, (.slice A0_2 l0_2.length c0_2)] 24 (0, 0))) ∧ Aside0 (w'.heap[gb201]? = some (.cells #[.int .i64 0, .int .i64 0, (.slice none 0 0)] 24 (0, 0))) ∧ Aside0 (w'.heap[gb202]? = some (.cells #[.int .i64 a0_1, .int .i64 a0_0, u203002] 24 (0, 0))) ∧ Aside0 (Below w.heap.size w w'))
   case atStart => exact ⟨(0), (x203002_1), (u203002), (by first | rfl | (simp; done) | (simp [*]; done)), H', ⟨Nat.le_refl _⟩, ⟨tR_ HO_203002⟩, ⟨tk_ BK200⟩, ⟨tk_ BK201⟩, ⟨tk_ BK202⟩, ⟨by repeat (first | (with_reducible first | exact HB.out | apply b_a | apply b_n | apply b_d | refine b_s ?_ GE200.out | refine b_s ?_ GE201.out | refine b_s ?_ GE202.out) | exact HB.out)⟩⟩
   case round =>
    clear H'
    try clear c1
    try clear p2
    try clear c3
    try clear c4
    try clear c7
    try clear c8
    try clear c10
    try clear c10b0
    try clear c11
    try clear c12
    try clear hcz13_0
    try clear hcz13_1
    try clear hcz13_2
    try clear hcz5_0
    try clear hcz5_1
    try clear hcz5_2
    try clear hcz9_0
    try clear hcz9_1
    try clear hcz9_2
    try clear hfz13_0
    try clear hfz13_1
    try clear hfz13_2
    try clear hfz5_0
    try clear hfz5_1
    try clear hfz5_2
    try clear hfz9_0
    try clear hfz9_1
    try clear hfz9_2
    try clear p2
    obtain ⟨x5_2, x203002_2, u203002, rfl, HA, HK2, HO_203002, BK200, BK201, BK202, HB⟩ := hrel
    cases gk with
    | zero => exact absurd HA.out (by simp [pelotonref03_Turn.l1])
    | succ k2 =>
     have H := HA.out
     clear HA
     simp only [pelotonref03_Turn.l1] at H
     by_cases c14 : x5_2 < a0_0
     rotate_left
     ·
      rw [if_neg c14] at H
      have c14b0 : decide (x5_2 < a0_0) = false := decide_eq_false c14
      clear c14
      have H' := Aside0.mk H
      clear H
      have hnb25 := NB200_201.out
      have hnc25 := NB201_200.out
      have hnb26 := NB200_202.out
      have hnc26 := NB202_200.out
      have hcz27_0 := bc_0 BK200
      have hcz27_1 := bc_1 BK200
      have hcz27_2 := bc_2 BK200
      have hfz27_0 := blk_frozen BK200.out 0
      have hfz27_1 := blk_frozen BK200.out 1
      have hfz27_2 := blk_frozen BK200.out 2
      go_wp2
      go_roundg k2
      case measure => have := HK1.out; have := HK2.out; omega
      case rel => exact ⟨(wrap64 (x4_1 + 1)), (x203002_2), (u203002), (by first | rfl | (simp; done) | (simp [*]; done)), H', ⟨by have := HK1.out; have := HK2.out; omega⟩, ⟨tR_ HO_203002⟩, ⟨tk_ BK200⟩, ⟨tk_ BK201⟩, ⟨tk_ BK202⟩, ⟨by repeat (first | (with_reducible first | exact HB.out | apply b_a | apply b_n | apply b_d | refine b_s ?_ GE200.out | refine b_s ?_ GE201.out | refine b_s ?_ GE202.out) | exact HB.out)⟩⟩
     rw [if_pos c14] at H
     have c14b0 : decide (x5_2 < a0_0) = true := decide_eq_true c14
     clear c14
     replace H := Option.bind_eq_some_iff.mp H
     obtain ⟨t203, A150, H⟩ := H
     replace H : (if x203002_2.length < 35184372088832 then (pelotonref03_Turn.l1 k2 x4_1 (wrap64 (x5_2 + 1)) a0_0 a0_1 l0_2 a0_1 a0_0 (x203002_2 ++ [t203])) else (none)) = some (r1, r2, r3) := H
     have A15 := Aside0.mk A150
     clear A150
     by_cases c16 : x203002_2.length < 35184372088832
     rotate_left
     ·
      rw [if_neg c16] at H
      exact absurd H (by simp)
     rw [if_pos c16] at H
     have LMc16 := Aside0.mk c16
     clear c16
     obtain ⟨y204, hy204⟩ : ∃ y_ : List Int, y_ = (x203002_2 ++ [t203]) := ⟨_, rfl⟩
     replace H : (pelotonref03_Turn.l1 k2 x4_1 (wrap64 (x5_2 + 1)) a0_0 a0_1 l0_2 a0_1 a0_0 y204) = some (r1, r2, r3) := by first | (rw [hy204]; with_reducible exact H) | (have H2_ := (Option.bind_some _ _).symm.trans H; rw [hy204]; with_reducible exact H2_) | (have H2_ := (Option.bind_some _ _).symm.trans H; with_reducible exact H2_) | with_reducible exact H | (rw [hy204]; exact H) | exact H
     have Ny204 := Aside0.mk hy204
     clear hy204
     have H' := Aside0.mk H
     clear H
     have hnb17 := NB200_201.out
     have hnc17 := NB201_200.out
     have hnb18 := NB200_202.out
     have hnc18 := NB202_200.out
     have hcz19_0 := bc_0 BK200
     have hcz19_1 := bc_1 BK200
     have hcz19_2 := bc_2 BK200
     have hfz19_0 := blk_frozen BK200.out 0
     have hfz19_1 := blk_frozen BK200.out 1
     have hfz19_2 := blk_frozen BK200.out 2
     try go_wp2
     replace HO_203002 := Aside0.mk (Kd.R_drew HO_203002.out)
     replace BK200 := Aside0.mk (k_d BK200.out)
     replace BK201 := Aside0.mk (k_d BK201.out)
     replace BK202 := Aside0.mk (k_d BK202.out)
     replace HB := Aside0.mk (b_d HB.out)
     refine start_ (n := 10) (S := fun w' => w'.cell? ⟨gb202, 0, none⟩ = some (.int .i64 a0_1) ∧ w'.cell? ⟨gb202, 1, none⟩ = some (.int .i64 a0_0) ∧ w'.cell? ⟨gb202, 2, none⟩ = some (u203002) ∧ w'.cell? ⟨gb200, 0, none⟩ = some (.int .i64 a0_0) ∧ w'.cell? ⟨gb200, 1, none⟩ = some (.int .i64 a0_1) ∧ w'.cell? ⟨gb200, 2, none⟩ = some (.slice A0_2 l0_2.length c0_2)) (ds := [9]) #[false, false, false, false, false, false, false, false, false, false] (by kernel_rfl) rfl rfl ⟨(blk_cell BK202.out 0).trans rfl, (blk_cell BK202.out 1).trans rfl, (blk_cell BK202.out 2).trans rfl, (blk_cell BK200.out 0).trans rfl, (blk_cell BK200.out 1).trans rfl, (blk_cell BK200.out 2).trans rfl⟩ (fun hHeld => ?_); refine with_tabW pelotonref03_Turn.tab8 pelotonref03_Turn.bits8 (fun HT_ HW_ => ?_)
     generalize wr.drew = w20 at HO_203002 BK200 BK201 BK202 HB hHeld ⊢
     refine pu_ (i := 0) (N := some 23) (bs_ 10 1) rfl rfl HT_ ?_
     refine pu_ (i := 3) (N := some 26) (bs_ 10 9) rfl rfl HT_ ?_
     refine pu_ (i := 4) (N := some 27) (bs_ 10 25) rfl rfl HT_ ?_
     refine take_ (i := 1) (N := some 24) (v := ?_) (a' := ?_) (bs_ 10 27) rfl rfl (take_ofW HT_.out HW_.out (by kernel_rfl)) (fun _ _ _ h => h) (Or.inl ⟨by rfl, ?_⟩) hHeld ?_ ?_
     rotate_left
     ·
      rintro w' ⟨s0, s1, s2, s3, s4, s5⟩
      go_simp
      with_reducible rfl
     rotate_left
     ·
      simp only [Act.put, l_1, l_2, l_3, i64_w, i32_w]
      rfl
     refine take_ (i := 2) (N := some 25) (v := ?_) (a' := ?_) (bs_ 10 31) rfl rfl (take_ofW HT_.out HW_.out (by kernel_rfl)) (fun _ _ _ h => h) (Or.inl ⟨by rfl, ?_⟩) hHeld ?_ ?_
     rotate_left
     ·
      rintro w' ⟨s0, s1, s2, s3, s4, s5⟩
      go_simp
      with_reducible rfl
     rotate_left
     ·
      simp only [Act.put, l_1, l_2, l_3, i64_w, i32_w]
      rfl
     refine one_ (i := 5) (N := some 28) (bs_ 10 63) rfl rfl (one_of HT_.out (by kernel_rfl)) (by decide) (fun K hK => ?_)
     refine goes_ Try.func19 (by kernel_rfl) rfl #[.agg #[.int .i64 a0_0, .int .i64 a0_1, .slice A0_2 l0_2.length c0_2], .int .i64 x5_2, .int .i64 x4_1] (by rfl) rfl rfl (by (try simp only [l_4, l_5, l_6]); first | done | rfl | (simp only [l_7, l_8]; rfl)) ?_
     with_reducible refine (pelotonref03_Cell.calls a0_0 a0_1 _ _ l0_2 x5_2 x4_1 t203 _ ?side1 ?side2 A15.out).mono ?_
     (case side1 => repeat (first | exact (Kd.C_below HR0_2.out HB.out) | (with_reducible refine Kd.C_alloc ?_ _) | (with_reducible refine Kd.C_drewN ?_ _) | (with_reducible refine Kd.C_drew ?_)))
     (case side2 => exact HC0_2.out)
     rintro e w21 ⟨rfl, hb⟩
     refine ⟨_, rfl, ?_⟩
     replace HO_203002 := Aside0.mk (Kd.R_below (tR_ HO_203002) hb)
     replace BK200 := Aside0.mk (blk_below (tk_ BK200) hb)
     replace BK201 := Aside0.mk (blk_below (tk_ BK201) hb)
     replace BK202 := Aside0.mk (blk_below (tk_ BK202) hb)
     replace HB := Aside0.mk (below_step (bw_ HB) hb)
     (try clear hb)
     (try clear hb2)
     (try clear hk)
     (try clear hi)
     refine hK.out _ _ ⟨(blk_cell BK202.out 0).trans rfl, (blk_cell BK202.out 1).trans rfl, (blk_cell BK202.out 2).trans rfl, (blk_cell BK200.out 0).trans rfl, (blk_cell BK200.out 1).trans rfl, (blk_cell BK200.out 2).trans rfl⟩ (fun hHeld => ?_)
     clear hK K
     refine no_ (N := some 28) ?_
     refine one_ (i := 6) (N := some 29) (bs_ 10 127) rfl rfl (one_of HT_.out (by kernel_rfl)) (by decide) (fun K hK => ?_)
     refine value_ (w1 := ?_) (v := ?_) (by rfl) rfl ?_ ?_
     rotate_left 2
     ·
      go_simp
      constructor
      ·
       rfl
      ·
       rfl
     refine hK.out _ _ ⟨(blk_cell (k_a BK202.out _) 0).trans rfl, (blk_cell (k_a BK202.out _) 1).trans rfl, (blk_cell (k_a BK202.out _) 2).trans rfl, (blk_cell (k_a BK200.out _) 0).trans rfl, (blk_cell (k_a BK200.out _) 1).trans rfl, (blk_cell (k_a BK200.out _) 2).trans rfl⟩ (fun hHeld => ?_)
     clear hK K
     refine no_ (N := some 29) ?_
     refine one_ (i := 7) (N := some 30) (bs_ 10 255) rfl rfl (one_of HT_.out (by kernel_rfl)) (by decide) (fun K hK => ?_)
     refine Kd.R_append_step (Kd.int .i32) (w0 := w) w.heap.size (by rfl) (.tmp 24) (.tmp 29) 22 21 (.int .i32 0) 4 rfl Try.underlying22 info21 rfl (by decide) (by omega) u203002 x203002_2 t203 [.int .i32 t203] (fun _ => True) (fun _ => False) rfl rfl ?aP (fun _ hk => hk.elim) ?aF ?aO ?aB ?aS ?aL ?_
     (case aP => exact rfl)
     (case aB => exact (bw_ HB))
     (case aF => exact (fun _ _ => trivial))
     (case aO => exact (tR_ HO_203002))
     (case aS => exact (below_size (bw_ HB)))
     (case aL => have := LMc16.out; omega)
     intro v205 w22 ho hb hg hat
     rw [← Ny204.out] at ho
     have n0_ := Aside0.mk (blk_grown (tk_ BK200) hg (Kd.R_ne HO_203002.out BK200.out (by decide)))
     have n1_ := Aside0.mk (blk_grown (tk_ BK201) hg (Kd.R_ne HO_203002.out BK201.out (by decide)))
     have n2_ := Aside0.mk (blk_grown (tk_ BK202) hg (Kd.R_ne HO_203002.out BK202.out (by decide)))
     have n3_ := Aside0.mk (hb)
     have n4_ := Aside0.mk (ho)
     clear BK200
     clear BK201
     clear BK202
     clear HB
     clear HO_203002
     have BK200 := n0_
     have BK201 := n1_
     have BK202 := n2_
     have HB := n3_
     have HO206 := n4_
     clear n0_ n1_ n2_ n3_ n4_
     clear ho hb hg hat
     obtain ⟨Ao23, co23, eo23⟩ := Kd.R_slice HO206.out
     (first | subst eo23 | (injection eo23 with f1_ f2_ f3_; have f4_ := f1_.symm; have f5_ := f3_.symm; clear f1_ f2_ f3_; subst f4_; subst f5_))
     refine hK.out _ _ ⟨(blk_cell BK202.out 0).trans rfl, (blk_cell BK202.out 1).trans rfl, (blk_cell BK202.out 2).trans rfl, (blk_cell BK200.out 0).trans rfl, (blk_cell BK200.out 1).trans rfl, (blk_cell BK200.out 2).trans rfl⟩ (fun hHeld => ?_)
     clear hK K
     refine no_ (N := some 30) ?_
     refine pu_ (i := 8) (N := some 31) (bs_ 10 511) rfl rfl HT_ ?_
     refine last_ (i := 9) (N := none) (bs_ 10 1023) rfl rfl (one_of HT_.out (by kernel_rfl)) (by decide) (fun K hK => ?_)
     have hs24 := bc_2 BK202
     have hfs24 := blk_frozen BK202.out 2
     have hns24_0 := NB200_202.out
     have hns24_1 := NB201_202.out
     have hms24_0 := NB202_200.out
     have hms24_1 := NB202_201.out
     refine skip_ (w1 := ?_) (by rfl) rfl ?_ ?_
     rotate_left
     ·
      go_simp
      rfl
     refine hK.out _ _ ?_
     clear hK K
     refine done_ (done_of HT_.out (by kernel_rfl)) ?_
     try go_wp2
     go_roundg k2
     case measure => have := HK1.out; have := HK2.out; omega
     case rel => exact ⟨(wrap64 (x5_2 + 1)), (y204), (.slice Ao23 y204.length co23), (by first | rfl | (simp; done) | (simp [*]; done)), H', ⟨by have := HK1.out; have := HK2.out; omega⟩, ⟨by (with_reducible repeat (first | apply Kd.R_alloc | apply Kd.R_drewN | apply Kd.R_drew)); exact Kd.R_mono (Kd.R_far (p := ⟨gb202, 2, none⟩) (Kd.R_types HO206.out BK202.out (by decide)) (fun _ hk => hk.2) (.slice Ao23 y204.length co23)) (fun _ hk => trivial)⟩, ⟨by (with_reducible repeat (first | refine k_n ?_ _ | refine k_d ?_ | refine k_a ?_ _)); refine blk_far ?_ NB200_202.out _; (with_reducible repeat (first | refine k_n ?_ _ | refine k_d ?_ | refine k_a ?_ _)); exact BK200.out⟩, ⟨by (with_reducible repeat (first | refine k_n ?_ _ | refine k_d ?_ | refine k_a ?_ _)); refine blk_far ?_ NB201_202.out _; (with_reducible repeat (first | refine k_n ?_ _ | refine k_d ?_ | refine k_a ?_ _)); exact BK201.out⟩, ⟨by (with_reducible repeat (first | refine k_n ?_ _ | refine k_d ?_ | refine k_a ?_ _)); refine blk_put (cs := #[.int .i64 a0_1, .int .i64 a0_0, u203002]) ?_ 2 _ rfl; (with_reducible repeat (first | refine k_n ?_ _ | refine k_d ?_ | refine k_a ?_ _)); exact BK202.out⟩, ⟨by repeat (first | (with_reducible first | exact HB.out | apply b_a | apply b_n | apply b_d | refine b_s ?_ GE200.out | refine b_s ?_ GE201.out | refine b_s ?_ GE202.out) | exact HB.out)⟩⟩
/-! ### pelotonref03_Beside: function 28 -/
def pelotonref03_Beside.l0 : Nat → List (S24) → List (S24) → Int → Option (Int × Int × List Int × Bool)
 | 0, _, _, _ => none
 | k + 1, x0, x4, x5 => if x5 < (x0.length : Int) then (if 0 ≤ x5 then ((pelotonref03_Fit.f ((rd_T24 x0 x5).f0) ((rd_T24 x0 x5).f1) ((rd_T24 x0 x5).f2)).bind fun t209 => (if t209 = true then ((pelotonref03_Turn.f k ((rd_T24 x0 x5).f0) ((rd_T24 x0 x5).f1) ((rd_T24 x0 x5).f2)).bind fun bt211 => (if x4.length < 3518437208883 then (pelotonref03_Beside.l0 k x0 (x4 ++ [(⟨bt211.1, bt211.2.1, bt211.2.2⟩ : S24)]) (wrap64 (x5 + 1))) else (none))) else (some (0, 0, ([] : List Int), false)))) else (none)) else ((pelotonref03_Stack.f k x4).bind fun bt219 => (if bt219.2.2.2 = true then ((pelotonref03_Turn.f k bt219.1 bt219.2.1 bt219.2.2.1).bind fun bt226 => (some (bt226.1, bt226.2.1, bt226.2.2, true))) else (some (0, 0, ([] : List Int), false))))
def pelotonref03_Beside.f (k : Nat) (l0 : List (S24)) : Option (Int × Int × List Int × Bool) := pelotonref03_Beside.l0 k l0 ([] : List (S24)) 0
theorem pelotonref03_Beside.mono_l : ∀ k, (∀ y0 y1 y2, LeO (pelotonref03_Beside.l0 k y0 y1 y2) (pelotonref03_Beside.l0 (k + 1) y0 y1 y2))
 | 0 => fun _ _ _ r h => by simp [pelotonref03_Beside.l0] at h
 | k + 1 => by
  have ih0 := pelotonref03_Beside.mono_l k
  ·
   intro y0 y1 y2
   unfold pelotonref03_Beside.l0
   repeat' first
   | (with_reducible exact ih0 _ _ _)
   | (with_reducible exact pelotonref03_Stack.mono _ _)
   | (with_reducible exact pelotonref03_Turn.mono _ _ _ _)
   | (with_reducible exact LeO.refl _)
   | (with_reducible exact LeO.none _)
   | (with_reducible refine LeO.ite ?_ ?_)
   | (with_reducible refine LeO.bind ?_ (fun _ => ?_))
   | exact ih0 _ _ _
   | exact pelotonref03_Stack.mono _ _
   | exact pelotonref03_Turn.mono _ _ _ _
   | exact LeO.none _
   | refine LeO.ite ?_ ?_
   | refine LeO.bind ?_ (fun _ => ?_)
theorem pelotonref03_Beside.mono : ∀ a0 k, LeO (pelotonref03_Beside.f k a0) (pelotonref03_Beside.f (k + 1) a0) := by
 intro a0 k
 have ih0 := pelotonref03_Beside.mono_l k
 unfold pelotonref03_Beside.f
 repeat' first
   | (with_reducible exact ih0 _ _ _)
   | (with_reducible exact pelotonref03_Stack.mono _ _)
   | (with_reducible exact pelotonref03_Turn.mono _ _ _ _)
   | (with_reducible exact LeO.refl _)
   | (with_reducible exact LeO.none _)
   | (with_reducible refine LeO.ite ?_ ?_)
   | (with_reducible refine LeO.bind ?_ (fun _ => ?_))
   | exact ih0 _ _ _
   | exact pelotonref03_Stack.mono _ _
   | exact pelotonref03_Turn.mono _ _ _ _
   | exact LeO.none _
   | refine LeO.ite ?_ ?_
   | refine LeO.bind ?_ (fun _ => ?_)
set_option maxHeartbeats 60000000 in
set_option maxRecDepth 100000 in
theorem pelotonref03_Beside.calls (k : Nat) (A0 : Option Addr) (c0 : Nat) (l0 : List (S24)) (r1 : Int) (r2 : Int) (r3 : List Int) (r4 : Bool) (w : World) (hr0 : Kd.C k24 w A0 l0.length l0) (hc0 : l0.length ≤ c0) (h : pelotonref03_Beside.f k l0 = some (r1, r2, r3, r4)) :
  Calls Try.prog 28 #[.slice A0 l0.length c0] w fun e w' => ∃ v2_ : Value, e = .returned (.tuple #[.agg #[.int .i64 r1, .int .i64 r2, v2_], .bool r4]) ∧ Kd.R (Kd.int .i32) 21 w' w.heap.size (fun _ => True) v2_ r3 ∧ Below w.heap.size w w' := by
 have hu24 := Try.underlying24
 have HR0 := Aside0.mk hr0
 have HC0 := Aside0.mk hc0
 clear hr0 hc0
 have HB := Aside0.mk (Below.refl w.heap.size w)
 have H : (pelotonref03_Beside.l0 k l0 ([] : List (S24)) 0) = some (r1, r2, r3, r4) := h
 clear h
 have H' := Aside0.mk H
 clear H
 go_enter Try.func28, Try.ntmps28
 go_wp2_with (first | ((with_reducible refine gate_dst (N := 2) rfl ?_); refine box_event ?hg (N := 2) ?hd (cs := #[.int .i64 0, .int .i64 0, .slice none 0 0]) (t := 24) ?hr ?_; (case hd => rfl); (case hg => rfl); (case hr => first | (go_simp; done) | (go_simp; rfl)); intro gb207 hg w2 hbox hb; have BK207 := Aside0.mk (hbox); have GW207 := Aside0.mk ((by rw [hg]; exact (below_size (bw_ HB)) : w.heap.size ≤ gb207)); have GE207 := Aside0.mk ((by rw [hg]; exact (below_size (bw_ HB)) : w.heap.size ≤ gb207)); replace HB := Aside0.mk (below_step (bw_ HB) hb); clear hb hbox hg))
 go_loopg [4, 5] k (fun kq v4 v5 w' => ∃ (x4_1 : List (S24)) (x5_1 : Int) (x208000_1 : Int) (x208001_1 : Int), v5 = .int .i64 x5_1 ∧ Aside0 (pelotonref03_Beside.l0 kq l0 x4_1 x5_1 = some (r1, r2, r3, r4)) ∧ Aside0 (kq ≤ k) ∧ Aside0 (Kd.S k24 24 w' w.heap.size (fun k_ => k_ ≠ gb207) v4 x4_1) ∧ Aside0 (w'.heap[gb207]? = some (.cells #[.int .i64 x208000_1, .int .i64 x208001_1, (.slice none 0 0)] 24 (0, 0))) ∧ Aside0 (Below w.heap.size w w'))
 case atStart => exact ⟨(([] : List (S24))), (0), (0), (0), (by first | rfl | (simp; done) | (simp [*]; done)), H', ⟨Nat.le_refl _⟩, ⟨by first | exact Kd.S_nil _ _ _ _ _ | exact Kd.N_nil _ _ _ _ _ | exact Kd.V_nil _ _ _ _ _ | exact Kd.Q_nil _ _ _ _ _ | exact Kd.R_nil _ _ _ _ _⟩, ⟨tk_ BK207⟩, ⟨by repeat (first | (with_reducible first | exact HB.out | apply b_a | apply b_n | apply b_d | refine b_s ?_ GE207.out) | exact HB.out)⟩⟩
 case round =>
  clear H'
  try clear c2
  try clear p2
  obtain ⟨x4_1, x5_1, x208000_1, x208001_1, rfl, HA, HK1, HO_4, BK207, HB⟩ := hrel
  cases gk with
  | zero => exact absurd HA.out (by simp [pelotonref03_Beside.l0])
  | succ k1 =>
   have H := HA.out
   clear HA
   simp only [pelotonref03_Beside.l0] at H
   by_cases c3 : x5_1 < (l0.length : Int)
   ·
    rw [if_pos c3] at H
    have c3b0 : decide (x5_1 < (l0.length : Int)) = true := decide_eq_true c3
    clear c3
    by_cases c4 : 0 ≤ x5_1
    rotate_left
    ·
     rw [if_neg c4] at H
     exact absurd H (by simp)
    rw [if_pos c4] at H
    have c4b0 : decide (0 ≤ x5_1) = true := decide_eq_true c4
    clear c4
    replace H := Option.bind_eq_some_iff.mp H
    obtain ⟨t209, A50, H⟩ := H
    replace H : (if t209 = true then ((pelotonref03_Turn.f k1 ((rd_T24 l0 x5_1).f0) ((rd_T24 l0 x5_1).f1) ((rd_T24 l0 x5_1).f2)).bind fun bt211 => (if x4_1.length < 3518437208883 then (pelotonref03_Beside.l0 k1 l0 (x4_1 ++ [(⟨bt211.1, bt211.2.1, bt211.2.2⟩ : S24)]) (wrap64 (x5_1 + 1))) else (none))) else (some (0, 0, ([] : List Int), false))) = some (r1, r2, r3, r4) := H
    have A5 := Aside0.mk A50
    clear A50
    have p208 : 0 ≤ (x5_1 : Int) := of_decide_eq_true (by first | (with_reducible assumption) | assumption)
    have q208 : x5_1 < (l0.length : Int) := of_decide_eq_true (by first | (with_reducible assumption) | assumption)
    obtain ⟨ad208, A208_2, c208_2, e208, hx208_0, hx208_1, hx208_2, hl208_2, hi208_2⟩ := at_T24 HR0.out x5_1 p208 q208
    cases e208
    replace hx208_0 := cb_ HB hx208_0
    replace hx208_1 := cb_ HB hx208_1
    replace hx208_2 := cb_ HB hx208_2
    have HR208_2 := Aside0.mk hi208_2
    have HC208_2 := Aside0.mk hl208_2
    clear hi208_2 hl208_2
    replace p208 := eq_true p208
    replace q208 := eq_true q208
    go_upto_if 19 with (first | ((with_reducible refine gate_callee (f := 32) rfl ?_); refine goesL_ (some 18) rfl rfl Try.func32 (by kernel_rfl) rfl #[.agg #[.int .i64 ((rd_T24 l0 x5_1).f0), .int .i64 ((rd_T24 l0 x5_1).f1), .slice A208_2 ((rd_T24 l0 x5_1).f2).length c208_2]] rfl (by (try simp only [l_4, l_5, l_6]); first | done | rfl | (simp only [l_7, l_8]; rfl)) ?_; (with_reducible refine (pelotonref03_Fit.calls ((rd_T24 l0 x5_1).f0) ((rd_T24 l0 x5_1).f1) _ _ ((rd_T24 l0 x5_1).f2) t209 _ ?side1 ?side2 A5.out).mono ?_); (case side1 => repeat (first | exact (Kd.C_below HR208_2.out HB.out) | (with_reducible refine Kd.C_alloc ?_ _) | (with_reducible refine Kd.C_drewN ?_ _) | (with_reducible refine Kd.C_drew ?_))); (case side2 => exact HC208_2.out); rintro e w6 ⟨rfl, hb⟩; (try clear A5); refine ⟨_, rfl, ?_⟩; replace HO_4 := Aside0.mk (Kd.S_below (tS_ HO_4) hb); replace BK207 := Aside0.mk (blk_below (tk_ BK207) hb); replace HB := Aside0.mk (below_step (bw_ HB) hb); (try clear hb); (try clear hb2); (try clear hk); (try clear hi)))
    by_cases c7 : t209 = true
    rotate_left
    ·
     replace c7 := Bool.eq_false_iff.mpr c7
     subst c7
     have H1 : (some (0, 0, ([] : List Int), false)) = some (r1, r2, r3, r4) := by rw [if_neg (show ¬ (false = true) by decide)] at H; exact H
     clear H
     have H := H1
     clear H1
     simp only [Option.some.injEq, Prod.mk.injEq] at H
     obtain ⟨rfl, rfl, rfl, rfl⟩ := H
     have hcz13_0 := bc_0 BK207
     have hcz13_1 := bc_1 BK207
     have hcz13_2 := bc_2 BK207
     have hfz13_0 := blk_frozen BK207.out 0
     have hfz13_1 := blk_frozen BK207.out 1
     have hfz13_2 := blk_frozen BK207.out 2
     go_wp2
     refine bodyPost_ret (results_ct rfl _ _ gb207 24 #[.int .i64 0, .int .i64 0, .slice none 0 0] (0, 0) _ rfl (by (with_reducible repeat (first | refine k_n ?_ _ | refine k_d ?_ | refine k_a ?_ _)); refine blk_put (cs := #[.int .i64 0, .int .i64 0, .slice none 0 0]) ?_ 2 _ rfl; (with_reducible repeat (first | refine k_n ?_ _ | refine k_d ?_ | refine k_a ?_ _)); refine blk_put (cs := #[.int .i64 0, .int .i64 x208001_1, .slice none 0 0]) ?_ 1 _ rfl; (with_reducible repeat (first | refine k_n ?_ _ | refine k_d ?_ | refine k_a ?_ _)); refine blk_put (cs := #[.int .i64 x208000_1, .int .i64 x208001_1, .slice none 0 0]) ?_ 0 _ rfl; (with_reducible repeat (first | refine k_n ?_ _ | refine k_d ?_ | refine k_a ?_ _)); exact BK207.out) Try.underlying24 rfl (by kernel_rfl)) rfl ?_
     exact ⟨_, by first | rfl | (simp [errW_none, errW_some] <;> rfl) | (simp [*, errW_none, errW_some] <;> rfl), by first | exact Kd.R_nil _ _ _ _ _ | exact Kd.N_nil _ _ _ _ _ | exact Kd.V_nil _ _ _ _ _ | exact Kd.Q_nil _ _ _ _ _ | exact Kd.S_nil _ _ _ _ _, by repeat (first | (with_reducible first | exact HB.out | apply b_a | apply b_n | apply b_d | refine b_s ?_ GE207.out) | exact HB.out)⟩
    subst c7
    have H1 : ((pelotonref03_Turn.f k1 ((rd_T24 l0 x5_1).f0) ((rd_T24 l0 x5_1).f1) ((rd_T24 l0 x5_1).f2)).bind fun bt211 => (if x4_1.length < 3518437208883 then (pelotonref03_Beside.l0 k1 l0 (x4_1 ++ [(⟨bt211.1, bt211.2.1, bt211.2.2⟩ : S24)]) (wrap64 (x5_1 + 1))) else (none))) = some (r1, r2, r3, r4) := by rw [if_pos rfl] at H; exact H
    clear H
    have H := H1
    clear H1
    replace H := Option.bind_eq_some_iff.mp H
    obtain ⟨⟨t211, t212, t213⟩, A80, H⟩ := H
    replace H : (if x4_1.length < 3518437208883 then (pelotonref03_Beside.l0 k1 l0 (x4_1 ++ [(⟨t211, t212, t213⟩ : S24)]) (wrap64 (x5_1 + 1))) else (none)) = some (r1, r2, r3, r4) := H
    have A8 := Aside0.mk A80
    clear A80
    by_cases c9 : x4_1.length < 3518437208883
    rotate_left
    ·
     rw [if_neg c9] at H
     exact absurd H (by simp)
    rw [if_pos c9] at H
    have LMc9 := Aside0.mk c9
    clear c9
    obtain ⟨y216, hy216⟩ : ∃ y_ : List (S24), y_ = (x4_1 ++ [(⟨t211, t212, t213⟩ : S24)]) := ⟨_, rfl⟩
    replace H : (pelotonref03_Beside.l0 k1 l0 y216 (wrap64 (x5_1 + 1))) = some (r1, r2, r3, r4) := by first | (rw [hy216]; with_reducible exact H) | (have H2_ := (Option.bind_some _ _).symm.trans H; rw [hy216]; with_reducible exact H2_) | (have H2_ := (Option.bind_some _ _).symm.trans H; with_reducible exact H2_) | with_reducible exact H | (rw [hy216]; exact H) | exact H
    have Ny216 := Aside0.mk hy216
    clear hy216
    have H' := Aside0.mk H
    clear H
    have p210 : 0 ≤ (x5_1 : Int) := of_decide_eq_true (by first | (with_reducible assumption) | assumption)
    have q210 : x5_1 < (l0.length : Int) := of_decide_eq_true (by first | (with_reducible assumption) | assumption)
    obtain ⟨ad210, A210_2, c210_2, e210, hx210_0, hx210_1, hx210_2, hl210_2, hi210_2⟩ := at_T24 HR0.out x5_1 p210 q210
    cases e210
    replace hx210_0 := cb_ HB hx210_0
    replace hx210_1 := cb_ HB hx210_1
    replace hx210_2 := cb_ HB hx210_2
    have HR210_2 := Aside0.mk hi210_2
    have HC210_2 := Aside0.mk hl210_2
    clear hi210_2 hl210_2
    replace p210 := eq_true p210
    replace q210 := eq_true q210
    go_wp2_with (first | ((with_reducible refine gate_callee (f := 33) rfl ?_); refine goesL_ (some 26) rfl rfl Try.func33 (by kernel_rfl) rfl #[.agg #[.int .i64 ((rd_T24 l0 x5_1).f0), .int .i64 ((rd_T24 l0 x5_1).f1), .slice A210_2 ((rd_T24 l0 x5_1).f2).length c210_2]] rfl (by (try simp only [l_4, l_5, l_6]); first | done | rfl | (simp only [l_7, l_8]; rfl)) ?_; (with_reducible refine (pelotonref03_Turn.calls k1 ((rd_T24 l0 x5_1).f0) ((rd_T24 l0 x5_1).f1) _ _ ((rd_T24 l0 x5_1).f2) t211 t212 t213 _ ?side1 ?side2 A8.out).mono ?_); (case side1 => repeat (first | exact (Kd.C_below HR210_2.out HB.out) | (with_reducible refine Kd.C_alloc ?_ _) | (with_reducible refine Kd.C_drewN ?_ _) | (with_reducible refine Kd.C_drew ?_))); (case side2 => exact HC210_2.out); rintro e w10 ⟨v214, rfl, ho0, hb⟩; (try clear A8); refine ⟨_, rfl, ?_⟩; have HO215 := Aside0.mk (Kd.R_lower ho0 (below_size (bw_ HB))); replace HO_4 := Aside0.mk (Kd.S_elder' (tS_ HO_4) (Kd.R_base ho0) hb); replace BK207 := Aside0.mk (blk_below (tk_ BK207) hb); replace HB := Aside0.mk (below_step (bw_ HB) hb); (try clear hb); (try clear hb2); (try clear hk); (try clear hi); (try clear ho0); obtain ⟨Ao12, co12, eo12⟩ := Kd.R_slice HO215.out; subst eo12) | ((with_reducible refine gate_builtin (b := .append) (xs := #[.tmp 21, .tmp 27]) rfl ?_); at_builtin; refine Kd.S_append k24 (w0 := w) w.heap.size rfl (.tmp 21) (.tmp 27) 44 24 (.agg #[(.int .i64 0), (.int .i64 0), (.slice none 0 0)]) 40 rfl Try.underlying44 info24 rfl (by decide) (by omega) u4 x4_1 (⟨t211, t212, t213⟩ : S24) [.int .i64 t211, .int .i64 t212, .slice Ao12 t213.length co12] (fun k_ => k_ ≠ gb207) (fun k_ => some k_ = (.slice Ao12 t213.length co12 : Value).ownBlock) rfl rfl ?aP (fun k_ hk_ => ((Kd.R_mono (ok' := fun k_ => ((fun k_ => k_ ≠ gb207)) k_ ∧ some k_ ≠ (u4 : Value).ownBlock) (Kd.R_types (Kd.R_apart' (HO215.out) (Kd.S_typed HO_4.out) (by decide)) BK207.out (by decide)) (fun k_ hk => ⟨hk.2, hk.1.2⟩))).1 k_ hk_.symm) ?aF ?aO ?aB ?aS ?aL ?_; (case aP => exact k24_mkM _ _ _ (⟨t211, t212, t213⟩ : S24) (Kd.R_mono (Kd.R_tight rfl (Kd.R_mono (ok' := fun k_ => ((fun k_ => k_ ≠ gb207)) k_ ∧ some k_ ≠ (u4 : Value).ownBlock) (Kd.R_types (Kd.R_apart' (HO215.out) (Kd.S_typed HO_4.out) (by decide)) BK207.out (by decide)) (fun k_ hk => ⟨hk.2, hk.1.2⟩))) (fun _ h_ => h_))); (case aB => exact (bw_ HB)); (case aF => exact (fun k_ hk => Kd.freshB (tk_ BK207) k_ hk)); (case aO => exact (by (with_reducible repeat (first | apply Kd.S_alloc | apply Kd.S_drewN | apply Kd.S_drew)); exact Kd.S_mono HO_4.out (fun k_ hk => ⟨hk.1, fun e_ => hk.2 e_⟩))); (case aS => exact (below_size (bw_ HB))); (case aL => have := LMc9.out; omega); intro v217 w11 ho hb hg hat; rw [← Ny216.out] at ho; have n0_ := Aside0.mk (blk_grown (tk_ BK207) hg (Kd.S_away HO_4.out (fun _ hk => hk.1))); have n1_ := Aside0.mk (hb); have n2_ := Aside0.mk (ho); clear BK207; clear HB; clear HO_4; clear HO215; have BK207 := n0_; have HB := n1_; have HO218 := n2_; clear n0_ n1_ n2_; clear ho hb hg hat))
    go_roundg k1
    case measure => have := HK1.out; omega
    case rel => exact ⟨(y216), (wrap64 (x5_1 + 1)), (x208000_1), (x208001_1), (by first | rfl | (simp; done) | (simp [*]; done)), H', ⟨by have := HK1.out; omega⟩, ⟨tS_ HO218⟩, ⟨tk_ BK207⟩, ⟨by repeat (first | (with_reducible first | exact HB.out | apply b_a | apply b_n | apply b_d | refine b_s ?_ GE207.out) | exact HB.out)⟩⟩
   rw [if_neg c3] at H
   have c3b0 : decide (x5_1 < (l0.length : Int)) = false := decide_eq_false c3
   clear c3
   replace H := Option.bind_eq_some_iff.mp H
   obtain ⟨⟨t219, t220, t221, t224⟩, A140, H⟩ := H
   replace H : (if t224 = true then ((pelotonref03_Turn.f k1 t219 t220 t221).bind fun bt226 => (some (bt226.1, bt226.2.1, bt226.2.2, true))) else (some (0, 0, ([] : List Int), false))) = some (r1, r2, r3, r4) := H
   have A14 := Aside0.mk A140
   clear A140
   obtain ⟨Ao15, co15, eo15⟩ := Kd.S_slice HO_4.out
   subst eo15
   go_upto_if 35 with (first | ((with_reducible refine gate_callee (f := 27) rfl ?_); refine goesL_ (some 31) rfl rfl Try.func27 (by kernel_rfl) rfl #[.slice Ao15 x4_1.length co15] rfl (by (try simp only [l_4, l_5, l_6]); first | done | rfl | (simp only [l_7, l_8]; rfl)) ?_; (with_reducible refine (pelotonref03_Stack.calls k1 _ _ x4_1 t219 t220 t221 t224 _ ?side1 ?side2 A14.out).mono ?_); (case side1 => repeat (first | exact (Kd.S_reads' HO_4.out).2.2 | (with_reducible refine Kd.C_alloc ?_ _) | (with_reducible refine Kd.C_drewN ?_ _) | (with_reducible refine Kd.C_drew ?_))); (case side2 => exact (Kd.S_reads' HO_4.out).2.1); rintro e w16 ⟨v222, rfl, ho0, hb⟩; (try clear A14); refine ⟨_, rfl, ?_⟩; have HO223 := Aside0.mk (Kd.R_lower ho0 (below_size (bw_ HB))); replace HO_4 := Aside0.mk (Kd.S_elder' (tS_ HO_4) (Kd.R_base ho0) hb); replace BK207 := Aside0.mk (blk_below (tk_ BK207) hb); replace HB := Aside0.mk (below_step (bw_ HB) hb); (try clear hb); (try clear hb2); (try clear hk); (try clear hi); (try clear ho0)) | ((with_reducible refine gate_dst (N := 6) rfl ?_); refine box_event ?hg (N := 6) ?hd (cs := #[.int .i64 0, .int .i64 0, .slice none 0 0]) (t := 24) ?hr ?_; (case hd => rfl); (case hg => rfl); (case hr => first | (go_simp; done) | (go_simp; rfl)); intro gb225 hg w17 hbox hb; have BK225 := Aside0.mk (hbox); have GW225 := Aside0.mk ((by rw [hg]; exact (below_size (bw_ HB)) : w.heap.size ≤ gb225)); have GE225 := Aside0.mk ((by rw [hg]; exact (below_size (bw_ HB)) : w.heap.size ≤ gb225)); have NB207_225 := Aside0.mk ((by rw [hg]; exact Nat.ne_of_lt (blk_lt (tk_ BK207)) : gb207 ≠ gb225)); have NB225_207 := Aside0.mk ((by rw [hg]; exact Nat.ne_of_gt (blk_lt (tk_ BK207)) : gb225 ≠ gb207)); replace HO_4 := Aside0.mk (Kd.S_below (Kd.S_elderB (tS_ HO_4) gb225 (Nat.le_of_eq hg.symm)) hb); replace HO223 := Aside0.mk (Kd.R_below (tR_ HO223) hb); replace BK207 := Aside0.mk (blk_below (tk_ BK207) hb); replace HB := Aside0.mk (below_step (bw_ HB) hb); clear hb hbox hg; have hnb18 := NB225_207.out; have hnc18 := NB207_225.out; have hcz19_0 := bc_0 BK225; have hcz19_1 := bc_1 BK225; have hcz19_2 := bc_2 BK225; have hfz19_0 := blk_frozen BK225.out 0; have hfz19_1 := blk_frozen BK225.out 1; have hfz19_2 := blk_frozen BK225.out 2; obtain ⟨Ao20, co20, eo20⟩ := Kd.R_slice HO223.out; subst eo20))
   by_cases c21 : t224 = true
   rotate_left
   ·
    replace c21 := Bool.eq_false_iff.mpr c21
    subst c21
    have H1 : (some (0, 0, ([] : List Int), false)) = some (r1, r2, r3, r4) := by rw [if_neg (show ¬ (false = true) by decide)] at H; exact H
    clear H
    have H := H1
    clear H1
    simp only [Option.some.injEq, Prod.mk.injEq] at H
    obtain ⟨rfl, rfl, rfl, rfl⟩ := H
    have hnb28 := NB207_225.out
    have hnc28 := NB225_207.out
    have hcz29_0 := bc_0 BK207
    have hcz29_1 := bc_1 BK207
    have hcz29_2 := bc_2 BK207
    have hfz29_0 := blk_frozen BK207.out 0
    have hfz29_1 := blk_frozen BK207.out 1
    have hfz29_2 := blk_frozen BK207.out 2
    go_wp2
    refine bodyPost_ret (results_ct rfl _ _ gb207 24 #[.int .i64 0, .int .i64 0, .slice none 0 0] (0, 0) _ rfl (by (with_reducible repeat (first | refine k_n ?_ _ | refine k_d ?_ | refine k_a ?_ _)); refine blk_put (cs := #[.int .i64 0, .int .i64 0, .slice none 0 0]) ?_ 2 _ rfl; (with_reducible repeat (first | refine k_n ?_ _ | refine k_d ?_ | refine k_a ?_ _)); refine blk_put (cs := #[.int .i64 0, .int .i64 x208001_1, .slice none 0 0]) ?_ 1 _ rfl; (with_reducible repeat (first | refine k_n ?_ _ | refine k_d ?_ | refine k_a ?_ _)); refine blk_put (cs := #[.int .i64 x208000_1, .int .i64 x208001_1, .slice none 0 0]) ?_ 0 _ rfl; (with_reducible repeat (first | refine k_n ?_ _ | refine k_d ?_ | refine k_a ?_ _)); refine blk_far ?_ NB207_225.out _; (with_reducible repeat (first | refine k_n ?_ _ | refine k_d ?_ | refine k_a ?_ _)); refine blk_far ?_ NB207_225.out _; (with_reducible repeat (first | refine k_n ?_ _ | refine k_d ?_ | refine k_a ?_ _)); refine blk_far ?_ NB207_225.out _; (with_reducible repeat (first | refine k_n ?_ _ | refine k_d ?_ | refine k_a ?_ _)); exact BK207.out) Try.underlying24 rfl (by kernel_rfl)) rfl ?_
    exact ⟨_, by first | rfl | (simp [errW_none, errW_some] <;> rfl) | (simp [*, errW_none, errW_some] <;> rfl), by first | exact Kd.R_nil _ _ _ _ _ | exact Kd.N_nil _ _ _ _ _ | exact Kd.V_nil _ _ _ _ _ | exact Kd.Q_nil _ _ _ _ _ | exact Kd.S_nil _ _ _ _ _, by repeat (first | (with_reducible first | exact HB.out | apply b_a | apply b_n | apply b_d | refine b_s ?_ GE207.out | refine b_s ?_ GE225.out) | exact HB.out)⟩

   subst c21
   have H1 : ((pelotonref03_Turn.f k1 t219 t220 t221).bind fun bt226 => (some (bt226.1, bt226.2.1, bt226.2.2, true))) = some (r1, r2, r3, r4) := by rw [if_pos rfl] at H; exact H
   clear H
   have H := H1
   clear H1
   replace H := Option.bind_eq_some_iff.mp H
   obtain ⟨⟨t226, t227, t228⟩, A220, H⟩ := H
   replace H : (some (t226, t227, t228, true)) = some (r1, r2, r3, r4) := H
   have A22 := Aside0.mk A220
   clear A220
   simp only [Option.some.injEq, Prod.mk.injEq] at H
   obtain ⟨rfl, rfl, rfl, rfl⟩ := H
   have hnb23 := NB225_207.out
   have hnc23 := NB207_225.out
   have hcz24_0 := bc_0 BK225
   have hcz24_1 := bc_1 BK225
   have hcz24_2 := bc_2 BK225
   have hfz24_0 := blk_frozen BK225.out 0
   have hfz24_1 := blk_frozen BK225.out 1
   have hfz24_2 := blk_frozen BK225.out 2
   go_wp2_with (first | ((with_reducible refine gate_callee (f := 33) rfl ?_); refine goesL_ (some 38) rfl rfl Try.func33 (by kernel_rfl) rfl #[.agg #[.int .i64 t219, .int .i64 t220, .slice Ao20 t221.length co20]] rfl (by (try simp only [l_4, l_5, l_6]); first | done | rfl | (simp only [l_7, l_8]; rfl)) ?_; (with_reducible refine (pelotonref03_Turn.calls k1 t219 t220 _ _ t221 t226 t227 t228 _ ?side1 ?side2 A22.out).mono ?_); (case side1 => refine (Kd.R_reads' (e := 21) (base := w.heap.size) (ok := fun k_ => True) (n := t221.length) (c := co20) ?_).2.2; exact (by (with_reducible repeat (first | apply Kd.R_alloc | apply Kd.R_drewN | apply Kd.R_drew)); exact (Kd.R_mono (Kd.R_far (p := ⟨gb225, 2, none⟩) (Kd.R_far (p := ⟨gb225, 1, none⟩) (Kd.R_far (p := ⟨gb225, 0, none⟩) (Kd.R_types HO223.out BK225.out (by decide)) (fun _ hk => hk.2) (.int .i64 t219)) (fun _ hk => hk.2) (.int .i64 t220)) (fun _ hk => hk.2) (.slice Ao20 t221.length co20)) (fun _ h_ => h_.1)))); (case side2 => exact (Kd.R_reads' HO223.out).2.1); rintro e w25 ⟨v229, rfl, ho0, hb⟩; (try clear A22); refine ⟨_, rfl, ?_⟩; have HO230 := Aside0.mk (Kd.R_lower (Kd.R_new' ho0 (Kd.R_lt (by (with_reducible repeat (first | apply Kd.R_alloc | apply Kd.R_drewN | apply Kd.R_drew)); exact (Kd.R_mono (Kd.R_far (p := ⟨gb225, 2, none⟩) (Kd.R_far (p := ⟨gb225, 1, none⟩) (Kd.R_far (p := ⟨gb225, 0, none⟩) (Kd.R_types HO223.out BK225.out (by decide)) (fun _ hk => hk.2) (.int .i64 t219)) (fun _ hk => hk.2) (.int .i64 t220)) (fun _ hk => hk.2) (.slice Ao20 t221.length co20)) (fun _ h_ => h_.1))))) (below_size (bw_ HB))); replace HO_4 := Aside0.mk (Kd.S_elder' (by (with_reducible repeat (first | apply Kd.S_alloc | apply Kd.S_drewN | apply Kd.S_drew)); exact (Kd.S_mono (Kd.S_far (p := ⟨gb225, 2, none⟩) (Kd.S_far (p := ⟨gb225, 1, none⟩) (Kd.S_far (p := ⟨gb225, 0, none⟩) (Kd.S_mono HO_4.out (fun k_ hk => (⟨hk, hk.2⟩ : _ ∧ k_ ≠ gb225))) (fun _ hk => hk.2) (.int .i64 t219)) (fun _ hk => hk.2) (.int .i64 t220)) (fun _ hk => hk.2) (.slice Ao20 t221.length co20)) (fun _ h_ => h_.1))) (Kd.R_base ho0) hb); replace HO223 := Aside0.mk (Kd.R_elder' (by (with_reducible repeat (first | apply Kd.R_alloc | apply Kd.R_drewN | apply Kd.R_drew)); exact (Kd.R_mono (Kd.R_far (p := ⟨gb225, 2, none⟩) (Kd.R_far (p := ⟨gb225, 1, none⟩) (Kd.R_far (p := ⟨gb225, 0, none⟩) (Kd.R_types HO223.out BK225.out (by decide)) (fun _ hk => hk.2) (.int .i64 t219)) (fun _ hk => hk.2) (.int .i64 t220)) (fun _ hk => hk.2) (.slice Ao20 t221.length co20)) (fun _ h_ => h_.1))) (Kd.R_base ho0) hb); replace BK207 := Aside0.mk (blk_below (g := gb207) (o := .cells #[.int .i64 x208000_1, .int .i64 x208001_1, .slice none 0 0] 24 (0, 0)) (by (with_reducible repeat (first | refine k_n ?_ _ | refine k_d ?_ | refine k_a ?_ _)); refine blk_far ?_ NB207_225.out _; (with_reducible repeat (first | refine k_n ?_ _ | refine k_d ?_ | refine k_a ?_ _)); refine blk_far ?_ NB207_225.out _; (with_reducible repeat (first | refine k_n ?_ _ | refine k_d ?_ | refine k_a ?_ _)); refine blk_far ?_ NB207_225.out _; (with_reducible repeat (first | refine k_n ?_ _ | refine k_d ?_ | refine k_a ?_ _)); exact BK207.out) hb); replace BK225 := Aside0.mk (blk_below (g := gb225) (o := .cells #[.int .i64 t219, .int .i64 t220, .slice Ao20 t221.length co20] 24 (0, 0)) (by (with_reducible repeat (first | refine k_n ?_ _ | refine k_d ?_ | refine k_a ?_ _)); refine blk_put (cs := #[.int .i64 t219, .int .i64 t220, .slice none 0 0]) ?_ 2 _ rfl; (with_reducible repeat (first | refine k_n ?_ _ | refine k_d ?_ | refine k_a ?_ _)); refine blk_put (cs := #[.int .i64 t219, .int .i64 0, .slice none 0 0]) ?_ 1 _ rfl; (with_reducible repeat (first | refine k_n ?_ _ | refine k_d ?_ | refine k_a ?_ _)); refine blk_put (cs := #[.int .i64 0, .int .i64 0, .slice none 0 0]) ?_ 0 _ rfl; (with_reducible repeat (first | refine k_n ?_ _ | refine k_d ?_ | refine k_a ?_ _)); exact BK225.out) hb); replace HB := Aside0.mk (below_step (bw_ HB) hb); (try clear hb); (try clear hb2); (try clear hk); (try clear hi); (try clear ho0); have hcz26_0 := bc_0 BK207; have hcz26_1 := bc_1 BK207; have hcz26_2 := bc_2 BK207; have hfz26_0 := blk_frozen BK207.out 0; have hfz26_1 := blk_frozen BK207.out 1; have hfz26_2 := blk_frozen BK207.out 2; obtain ⟨Ao27, co27, eo27⟩ := Kd.R_slice HO230.out; subst eo27))
   refine bodyPost_ret (results_ct rfl _ _ gb207 24 #[.int .i64 t226, .int .i64 t227, .slice Ao27 t228.length co27] (0, 0) _ rfl (by (with_reducible repeat (first | refine k_n ?_ _ | refine k_d ?_ | refine k_a ?_ _)); refine blk_put (cs := #[.int .i64 t226, .int .i64 t227, .slice none 0 0]) ?_ 2 _ rfl; (with_reducible repeat (first | refine k_n ?_ _ | refine k_d ?_ | refine k_a ?_ _)); refine blk_put (cs := #[.int .i64 t226, .int .i64 x208001_1, .slice none 0 0]) ?_ 1 _ rfl; (with_reducible repeat (first | refine k_n ?_ _ | refine k_d ?_ | refine k_a ?_ _)); refine blk_put (cs := #[.int .i64 x208000_1, .int .i64 x208001_1, .slice none 0 0]) ?_ 0 _ rfl; (with_reducible repeat (first | refine k_n ?_ _ | refine k_d ?_ | refine k_a ?_ _)); exact BK207.out) Try.underlying24 rfl (by kernel_rfl)) rfl ?_
   exact ⟨_, by first | rfl | (simp [errW_none, errW_some] <;> rfl) | (simp [*, errW_none, errW_some] <;> rfl), by (with_reducible repeat (first | apply Kd.R_alloc | apply Kd.R_drewN | apply Kd.R_drew)); exact Kd.R_mono (Kd.R_far (p := ⟨gb207, 2, none⟩) (Kd.R_far (p := ⟨gb207, 1, none⟩) (Kd.R_far (p := ⟨gb207, 0, none⟩) (Kd.R_types HO230.out BK207.out (by decide)) (fun _ hk => hk.2) (.int .i64 t226)) (fun _ hk => hk.2) (.int .i64 t227)) (fun _ hk => hk.2) (.slice Ao27 t228.length co27)) (fun _ hk => trivial), by repeat (first | (with_reducible first | exact HB.out | apply b_a | apply b_n | apply b_d | refine b_s ?_ GE207.out | refine b_s ?_ GE225.out) | exact HB.out)⟩
/-! ### pelotonref01_Mod: function 45 -/
def pelotonref01_Mod.f (a0 : Int) : Option (Int) := if (Int.tmod a0 4294967296) < 0 then (if (wrap64 ((Int.tmod a0 4294967296) + 4294967296)) ≥ 2147483648 then (some (wrap32 (wrap64 ((wrap64 ((Int.tmod a0 4294967296) + 4294967296)) - 4294967296)))) else (some (wrap32 (wrap64 ((Int.tmod a0 4294967296) + 4294967296))))) else (if (Int.tmod a0 4294967296) ≥ 2147483648 then (some (wrap32 (wrap64 ((Int.tmod a0 4294967296) - 4294967296)))) else (some (wrap32 (Int.tmod a0 4294967296))))
set_option maxHeartbeats 60000000 in
set_option maxRecDepth 100000 in
theorem pelotonref01_Mod.calls (a0 : Int) (r : Int) (w : World) (h : pelotonref01_Mod.f a0 = some r) :
  Calls Try.prog 45 #[.int .i64 a0] w fun e w' => e = .returned (.int .i32 r) ∧ Drawn0 w w' := by
 have H : (if (Int.tmod a0 4294967296) < 0 then (if (wrap64 ((Int.tmod a0 4294967296) + 4294967296)) ≥ 2147483648 then (some (wrap32 (wrap64 ((wrap64 ((Int.tmod a0 4294967296) + 4294967296)) - 4294967296)))) else (some (wrap32 (wrap64 ((Int.tmod a0 4294967296) + 4294967296))))) else (if (Int.tmod a0 4294967296) ≥ 2147483648 then (some (wrap32 (wrap64 ((Int.tmod a0 4294967296) - 4294967296)))) else (some (wrap32 (Int.tmod a0 4294967296))))) = some r := h
 clear h
 by_cases c2 : (Int.tmod a0 4294967296) < 0
 rotate_left
 ·
  rw [if_neg c2] at H
  have c2b0 : decide ((Int.tmod a0 4294967296) < 0) = false := decide_eq_false c2
  clear c2
  by_cases c4 : (Int.tmod a0 4294967296) ≥ 2147483648
  ·
   rw [if_pos c4] at H
   have c4b0 : decide (2147483648 ≤ (Int.tmod a0 4294967296)) = true := decide_eq_true c4
   clear c4
   obtain rfl := Option.some.inj H
   go_enter Try.func45, Try.ntmps45
   go_wp2
   go_ret
   exact ⟨by first | rfl | (simp; done) | (simp [*]; done), by repeat (first | exact Drawn0.refl _ | apply Drawn0.step)⟩
  rw [if_neg c4] at H
  have c4b0 : decide (2147483648 ≤ (Int.tmod a0 4294967296)) = false := decide_eq_false c4
  clear c4
  obtain rfl := Option.some.inj H
  go_enter Try.func45, Try.ntmps45
  go_wp2
  go_ret
  exact ⟨by first | rfl | (simp; done) | (simp [*]; done), by repeat (first | exact Drawn0.refl _ | apply Drawn0.step)⟩

 rw [if_pos c2] at H
 have c2b0 : decide ((Int.tmod a0 4294967296) < 0) = true := decide_eq_true c2
 clear c2
 by_cases c3 : (wrap64 ((Int.tmod a0 4294967296) + 4294967296)) ≥ 2147483648
 ·
  rw [if_pos c3] at H
  have c3b0 : decide (2147483648 ≤ (wrap64 ((Int.tmod a0 4294967296) + 4294967296))) = true := decide_eq_true c3
  clear c3
  obtain rfl := Option.some.inj H
  go_enter Try.func45, Try.ntmps45
  go_wp2
  go_ret
  exact ⟨by first | rfl | (simp; done) | (simp [*]; done), by repeat (first | exact Drawn0.refl _ | apply Drawn0.step)⟩
 rw [if_neg c3] at H
 have c3b0 : decide (2147483648 ≤ (wrap64 ((Int.tmod a0 4294967296) + 4294967296))) = false := decide_eq_false c3
 clear c3
 obtain rfl := Option.some.inj H
 go_enter Try.func45, Try.ntmps45
 go_wp2
 go_ret
 exact ⟨by first | rfl | (simp; done) | (simp [*]; done), by repeat (first | exact Drawn0.refl _ | apply Drawn0.step)⟩
/-! ### pelotonref01_Wrap: function 38 -/
def pelotonref01_Wrap.l0 : Nat → List Int → Int → Int → Option (Int)
 | 0, _, _, _ => none
 | k + 1, x0, x3, x4 => if x4 < (x0.length : Int) then (if 0 ≤ x4 then ((pelotonref01_Mod.f (rd x0 x4)).bind fun t232 => ((pelotonref01_Mod.f (wrap64 (x3 + (wrap64 (t232))))).bind fun t233 => (pelotonref01_Wrap.l0 k x0 (wrap64 (t233)) (wrap64 (x4 + 1))))) else (none)) else (some (wrap32 (x3)))
def pelotonref01_Wrap.f (k : Nat) (l0 : List Int) : Option (Int) := pelotonref01_Wrap.l0 k l0 0 0
theorem pelotonref01_Wrap.mono_l : ∀ k, (∀ y0 y1 y2, LeO (pelotonref01_Wrap.l0 k y0 y1 y2) (pelotonref01_Wrap.l0 (k + 1) y0 y1 y2))
 | 0 => fun _ _ _ r h => by simp [pelotonref01_Wrap.l0] at h
 | k + 1 => by
  have ih0 := pelotonref01_Wrap.mono_l k
  ·
   intro y0 y1 y2
   unfold pelotonref01_Wrap.l0
   repeat' first
   | (with_reducible exact ih0 _ _ _)
   | (with_reducible exact LeO.refl _)
   | (with_reducible exact LeO.none _)
   | (with_reducible refine LeO.ite ?_ ?_)
   | (with_reducible refine LeO.bind ?_ (fun _ => ?_))
   | exact ih0 _ _ _
   | exact LeO.none _
   | refine LeO.ite ?_ ?_
   | refine LeO.bind ?_ (fun _ => ?_)
theorem pelotonref01_Wrap.mono : ∀ a0 k, LeO (pelotonref01_Wrap.f k a0) (pelotonref01_Wrap.f (k + 1) a0) := by
 intro a0 k
 have ih0 := pelotonref01_Wrap.mono_l k
 unfold pelotonref01_Wrap.f
 repeat' first
   | (with_reducible exact ih0 _ _ _)
   | (with_reducible exact LeO.refl _)
   | (with_reducible exact LeO.none _)
   | (with_reducible refine LeO.ite ?_ ?_)
   | (with_reducible refine LeO.bind ?_ (fun _ => ?_))
   | exact ih0 _ _ _
   | exact LeO.none _
   | refine LeO.ite ?_ ?_
   | refine LeO.bind ?_ (fun _ => ?_)
set_option maxHeartbeats 60000000 in
set_option maxRecDepth 100000 in
theorem pelotonref01_Wrap.calls (k : Nat) (A0 : Option Addr) (c0 : Nat) (l0 : List Int) (r : Int) (w : World) (hr0 : Kd.C (Kd.int .i64) w A0 l0.length l0) (hc0 : l0.length ≤ c0) (h : pelotonref01_Wrap.f k l0 = some r) :
  Calls Try.prog 38 #[.slice A0 l0.length c0] w fun e w' => e = .returned (.int .i32 r) ∧ Drawn0 w w' := by
 have HR0 := Aside0.mk hr0
 have HC0 := Aside0.mk hc0
 clear hr0 hc0
 have H : (pelotonref01_Wrap.l0 k l0 0 0) = some r := h
 clear h
 have H' := Aside0.mk H
 clear H
 go_enter Try.func38, Try.ntmps38
 go_wp2
 go_loopg [3, 4] k (fun kq v3 v4 w' => ∃ (x3_1 : Int) (x4_1 : Int), v3 = .int .i64 x3_1 ∧ v4 = .int .i64 x4_1 ∧ Aside0 (pelotonref01_Wrap.l0 kq l0 x3_1 x4_1 = some r) ∧ Aside0 (kq ≤ k) ∧ Drawn0 w w')
 case atStart => exact ⟨(0), (0), (by first | rfl | (simp; done) | (simp [*]; done)), (by first | rfl | (simp; done) | (simp [*]; done)), H', ⟨Nat.le_refl _⟩, by repeat (first | exact Drawn0.refl _ | apply Drawn0.step)⟩
 case round =>
  clear H'
  obtain ⟨x3_1, x4_1, rfl, rfl, HA, HK1, ⟨m1, rfl⟩⟩ := hrel
  cases gk with
  | zero => exact absurd HA.out (by simp [pelotonref01_Wrap.l0])
  | succ k1 =>
   have H := HA.out
   clear HA
   simp only [pelotonref01_Wrap.l0] at H
   by_cases c2 : x4_1 < (l0.length : Int)
   rotate_left
   ·
    rw [if_neg c2] at H
    have c2b0 : decide (x4_1 < (l0.length : Int)) = false := decide_eq_false c2
    clear c2
    obtain rfl := Option.some.inj H
    go_wp2
    go_ret
    exact ⟨by first | rfl | (simp; done) | (simp [*]; done), by repeat (first | exact Drawn0.refl _ | apply Drawn0.step)⟩

   rw [if_pos c2] at H
   have c2b0 : decide (x4_1 < (l0.length : Int)) = true := decide_eq_true c2
   clear c2
   by_cases c3 : 0 ≤ x4_1
   rotate_left
   ·
    rw [if_neg c3] at H
    exact absurd H (by simp)
   rw [if_pos c3] at H
   have c3b0 : decide (0 ≤ x4_1) = true := decide_eq_true c3
   clear c3
   replace H := Option.bind_eq_some_iff.mp H
   obtain ⟨t232, A40, H⟩ := H
   replace H : ((pelotonref01_Mod.f (wrap64 (x3_1 + (wrap64 (t232))))).bind fun t233 => (pelotonref01_Wrap.l0 k1 l0 (wrap64 (t233)) (wrap64 (x4_1 + 1)))) = some r := H
   have A4 := Aside0.mk A40
   clear A40
   replace H := Option.bind_eq_some_iff.mp H
   obtain ⟨t233, A50, H⟩ := H
   replace H : (pelotonref01_Wrap.l0 k1 l0 (wrap64 (t233)) (wrap64 (x4_1 + 1))) = some r := H
   have A5 := Aside0.mk A50
   clear A50
   have H' := Aside0.mk H
   clear H
   have p231 : 0 ≤ (x4_1 : Int) := of_decide_eq_true (by first | (with_reducible assumption) | assumption)
   have q231 : x4_1 < (l0.length : Int) := of_decide_eq_true (by first | (with_reducible assumption) | assumption)
   obtain ⟨ad231, e231, hx231_0⟩ := Kd.at_int HR0.out x4_1 p231 q231
   cases e231
   replace p231 := eq_true p231
   replace q231 := eq_true q231
   go_wp2_with (first | ((with_reducible refine gate_callee (f := 45) rfl ?_); refine goesL_ (some 16) rfl rfl Try.func45 (by kernel_rfl) rfl #[.int .i64 (rd l0 x4_1)] rfl (by (try simp only [l_4, l_5, l_6]); first | done | rfl | (simp only [l_7, l_8]; rfl)) ?_; (with_reducible refine (pelotonref01_Mod.calls (rd l0 x4_1) t232 _ A4.out).mono ?_); rintro e w' ⟨rfl, ⟨nd, rfl⟩⟩; refine ⟨_, rfl, ?_⟩) | ((with_reducible refine gate_callee (f := 45) rfl ?_); refine goesL_ (some 19) rfl rfl Try.func45 (by kernel_rfl) rfl #[.int .i64 (wrap64 (x3_1 + (wrap64 (t232))))] rfl (by (try simp only [l_4, l_5, l_6]); first | done | rfl | (simp only [l_7, l_8]; rfl)) ?_; (with_reducible refine (pelotonref01_Mod.calls (wrap64 (x3_1 + (wrap64 (t232)))) t233 _ A5.out).mono ?_); rintro e w' ⟨rfl, ⟨nd, rfl⟩⟩; refine ⟨_, rfl, ?_⟩))
   go_roundg k1
   case measure => have := HK1.out; omega
   case rel => exact ⟨(wrap64 (t233)), (wrap64 (x4_1 + 1)), (by first | rfl | (simp; done) | (simp [*]; done)), (by first | rfl | (simp; done) | (simp [*]; done)), H', ⟨by have := HK1.out; omega⟩, by repeat (first | exact Drawn0.refl _ | apply Drawn0.step)⟩
end Go.Proofs.Ytggcgacndknlaaa.QGridLays
