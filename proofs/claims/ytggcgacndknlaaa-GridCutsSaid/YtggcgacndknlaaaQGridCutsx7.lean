-- Written by a program of this session (a turned copy of the print) out of the translation. Lean checks it.
import Derived.Test.YtggcgacndknlaaaQGridCutsx0
import Derived.Test.YtggcgacndknlaaaQGridCutsx6
namespace Go.Proofs.Ytggcgacndknlaaa.QGridCuts
open Go.RowKit Go.Proofs.YtggcgacndknlaaaW.PrintWords Go.Proofs.YtggcgacndknlaaaW.PrintLast Go.Proofs.YtggcgacndknlaaaW.PrintMore
attribute [local go_sem] max2_int min2_int max_two min_two max_three min_three max_four min_four   -- for this text's walks alone
open Go.Proofs.YtggcgacndknlaaaW.PrintWords renaming below_alloc → b_a, pw_below_drewN → b_n, below_drew1 → b_d, below_set → b_s, blk_drewN → k_n, blk_drew → k_d, blk_alloc → k_a
open List renaming setIfInBounds_toArray → l_1, set_cons_zero → l_2, set_cons_succ → l_3, map_toArray → l_4, map_cons → l_5, map_nil → l_6, length_drop → l_7, length_take → l_8
set_option linter.unusedVariables false
set_option linter.unusedSimpArgs false

/-! ### pelotonref03_Turn: function 33 -/
mutual
def pelotonref03_Turn.l0 : Nat → Int → Int → Int → List Int → Int → Int → List Int → Option (Int × Int × List Int)
 | 0, _, _, _, _, _, _, _ => none
 | k + 1, x4, x180000, x180001, x180002, x182000, x182001, x182002 => if x4 < x180001 then (pelotonref03_Turn.l1 k x4 0 x180000 x180001 x180002 x182000 x182001 x182002) else (some (x182000, x182001, x182002))
def pelotonref03_Turn.l1 : Nat → Int → Int → Int → Int → List Int → Int → Int → List Int → Option (Int × Int × List Int)
 | 0, _, _, _, _, _, _, _, _ => none
 | k + 1, x4, x5, x180000, x180001, x180002, x182000, x182001, x182002 => if x5 < x180000 then ((pelotonref03_Cell.f x180000 x180001 x180002 x5 x4).bind fun t182 => (if x182002.length < 35184372088832 then (pelotonref03_Turn.l1 k x4 (wrap64 (x5 + 1)) x180000 x180001 x180002 x182000 x182001 (x182002 ++ [t182])) else (none))) else (pelotonref03_Turn.l0 k (wrap64 (x4 + 1)) x180000 x180001 x180002 x182000 x182001 x182002)
end
def pelotonref03_Turn.f (k : Nat) (a0_0 : Int) (a0_1 : Int) (l0_2 : List Int) : Option (Int × Int × List Int) := pelotonref03_Turn.l0 k 0 a0_0 a0_1 l0_2 a0_1 a0_0 ([] : List Int)
theorem pelotonref03_Turn.mono_l : ∀ k, (∀ y0 y1 y2 y3 y4 y5 y6, LeO (pelotonref03_Turn.l0 k y0 y1 y2 y3 y4 y5 y6) (pelotonref03_Turn.l0 (k + 1) y0 y1 y2 y3 y4 y5 y6)) ∧ (∀ y0 y1 y2 y3 y4 y5 y6 y7, LeO (pelotonref03_Turn.l1 k y0 y1 y2 y3 y4 y5 y6 y7) (pelotonref03_Turn.l1 (k + 1) y0 y1 y2 y3 y4 y5 y6 y7))
 | 0 => ⟨fun _ _ _ _ _ _ _ r h => by simp [pelotonref03_Turn.l0] at h, fun _ _ _ _ _ _ _ _ r h => by simp [pelotonref03_Turn.l1] at h⟩
 | k + 1 => by
  obtain ⟨ih0, ih1⟩ := pelotonref03_Turn.mono_l k
  refine ⟨?_, ?_⟩
  ·
   intro y0 y1 y2 y3 y4 y5 y6
   unfold pelotonref03_Turn.l0
   repeat' first
   | (with_reducible exact ih0 _ _ _ _ _ _ _)
   | (with_reducible exact ih1 _ _ _ _ _ _ _ _)
   | (with_reducible exact LeO.refl _)
   | (with_reducible exact LeO.none _)
   | (with_reducible refine LeO.ite ?_ ?_)
   | (with_reducible refine LeO.bind ?_ (fun _ => ?_))
   | exact ih0 _ _ _ _ _ _ _
   | exact ih1 _ _ _ _ _ _ _ _
   | exact LeO.none _
   | refine LeO.ite ?_ ?_
   | refine LeO.bind ?_ (fun _ => ?_)
  ·
   intro y0 y1 y2 y3 y4 y5 y6 y7
   unfold pelotonref03_Turn.l1
   repeat' first
   | (with_reducible exact ih0 _ _ _ _ _ _ _)
   | (with_reducible exact ih1 _ _ _ _ _ _ _ _)
   | (with_reducible exact LeO.refl _)
   | (with_reducible exact LeO.none _)
   | (with_reducible refine LeO.ite ?_ ?_)
   | (with_reducible refine LeO.bind ?_ (fun _ => ?_))
   | exact ih0 _ _ _ _ _ _ _
   | exact ih1 _ _ _ _ _ _ _ _
   | exact LeO.none _
   | refine LeO.ite ?_ ?_
   | refine LeO.bind ?_ (fun _ => ?_)
theorem pelotonref03_Turn.mono : ∀ a0 a1 a2 k, LeO (pelotonref03_Turn.f k a0 a1 a2) (pelotonref03_Turn.f (k + 1) a0 a1 a2) := by
 intro a0 a1 a2 k
 obtain ⟨ih0, ih1⟩ := pelotonref03_Turn.mono_l k
 unfold pelotonref03_Turn.f
 repeat' first
   | (with_reducible exact ih0 _ _ _ _ _ _ _)
   | (with_reducible exact ih1 _ _ _ _ _ _ _ _)
   | (with_reducible exact LeO.refl _)
   | (with_reducible exact LeO.none _)
   | (with_reducible refine LeO.ite ?_ ?_)
   | (with_reducible refine LeO.bind ?_ (fun _ => ?_))
   | exact ih0 _ _ _ _ _ _ _
   | exact ih1 _ _ _ _ _ _ _ _
   | exact LeO.none _
   | refine LeO.ite ?_ ?_
   | refine LeO.bind ?_ (fun _ => ?_)
def pelotonref03_Turn.T8 : Bool × List (List Nat × List Nat) := (true, [([], []), ([0], [0]), ([], []), ([], []), ([], []), ([2, 3, 4], [2, 3, 4]), ([5], [5]), ([1, 6, 5], [1, 6]), ([0, 1, 2, 3, 4, 5, 6, 7], []), ([8, 7, 7, 0, 1, 2, 3, 4, 5, 6, 7], [7, 8])])
def pelotonref03_Turn.B8 : List Nat := [0, 1, 0, 0, 0, 28, 60, 127, 255, 511]
theorem pelotonref03_Turn.tab8 : rtab .any (opsOf Try.f33 8) = pelotonref03_Turn.T8 := by kernel_rfl
theorem pelotonref03_Turn.bits8 : waitsOk pelotonref03_Turn.T8.2 pelotonref03_Turn.B8 = true := by kernel_rfl
set_option maxHeartbeats 60000000 in
set_option maxRecDepth 100000 in
theorem pelotonref03_Turn.calls (k : Nat) (a0_0 : Int) (a0_1 : Int) (A0_2 : Option Addr) (c0_2 : Nat) (l0_2 : List Int) (r1 : Int) (r2 : Int) (r3 : List Int) (w : World) (hr0_2 : Kd.C (Kd.int .i32) w A0_2 l0_2.length l0_2) (hc0_2 : l0_2.length ≤ c0_2) (h : pelotonref03_Turn.f k a0_0 a0_1 l0_2 = some (r1, r2, r3)) :
  Calls Try.prog 33 #[.agg #[.int .i64 a0_0, .int .i64 a0_1, .slice A0_2 l0_2.length c0_2]] w fun e w' => ∃ v2_ : Value, e = .returned (.agg #[.int .i64 r1, .int .i64 r2, v2_]) ∧ Kd.R (Kd.int .i32) 21 w' w.heap.size (fun _ => True) v2_ r3 ∧ Below w.heap.size w w' := by
 have hu24 := Try.underlying24
 have HR0_2 := Aside0.mk hr0_2
 have HC0_2 := Aside0.mk hc0_2
 clear hr0_2 hc0_2
 have HB := Aside0.mk (Below.refl w.heap.size w)
 have H : (pelotonref03_Turn.l0 k 0 a0_0 a0_1 l0_2 a0_1 a0_0 ([] : List Int)) = some (r1, r2, r3) := h
 clear h
 have H' := Aside0.mk H
 clear H
 go_enter Try.func33, Try.ntmps33
 go_wp2_with (first | ((with_reducible refine gate_dst (N := 1) rfl ?_); refine box_event ?hg (N := 1) ?hd (cs := #[.int .i64 a0_0, .int .i64 a0_1, .slice A0_2 l0_2.length c0_2]) (t := 24) ?hr ?_; (case hd => rfl); (case hg => rfl); (case hr => first | (go_simp; done) | (go_simp; rfl)); intro gb179 hg w2 hbox hb; have BK179 := Aside0.mk (hbox); have GW179 := Aside0.mk ((by rw [hg]; exact (below_size (bw_ HB)) : w.heap.size ≤ gb179)); have GE179 := Aside0.mk ((by rw [hg]; exact (below_size (bw_ HB)) : w.heap.size ≤ gb179)); replace HB := Aside0.mk (below_step (bw_ HB) hb); clear hb hbox hg) | ((with_reducible refine gate_dst (N := 2) rfl ?_); refine box_event ?hg (N := 2) ?hd (cs := #[.int .i64 0, .int .i64 0, .slice none 0 0]) (t := 24) ?hr ?_; (case hd => rfl); (case hg => rfl); (case hr => first | (go_simp; done) | (go_simp; rfl)); intro gb180 hg w3 hbox hb; have BK180 := Aside0.mk (hbox); have GW180 := Aside0.mk ((by rw [hg]; exact (below_size (bw_ HB)) : w.heap.size ≤ gb180)); have GE180 := Aside0.mk ((by rw [hg]; exact (below_size (bw_ HB)) : w.heap.size ≤ gb180)); have NB179_180 := Aside0.mk ((by rw [hg]; exact Nat.ne_of_lt (blk_lt (tk_ BK179)) : gb179 ≠ gb180)); have NB180_179 := Aside0.mk ((by rw [hg]; exact Nat.ne_of_gt (blk_lt (tk_ BK179)) : gb180 ≠ gb179)); replace BK179 := Aside0.mk (blk_below (tk_ BK179) hb); replace HB := Aside0.mk (below_step (bw_ HB) hb); clear hb hbox hg; have hnb4 := NB179_180.out; have hnc4 := NB180_179.out; have hcz5_0 := bc_0 BK179; have hcz5_1 := bc_1 BK179; have hcz5_2 := bc_2 BK179; have hfz5_0 := blk_frozen BK179.out 0; have hfz5_1 := blk_frozen BK179.out 1; have hfz5_2 := blk_frozen BK179.out 2) | ((with_reducible refine gate_dst (N := 3) rfl ?_); refine box_event ?hg (N := 3) ?hd (cs := #[.int .i64 0, .int .i64 0, .slice none 0 0]) (t := 24) ?hr ?_; (case hd => rfl); (case hg => rfl); (case hr => first | (go_simp; done) | (go_simp; rfl)); intro gb181 hg w6 hbox hb; have BK181 := Aside0.mk (hbox); have GW181 := Aside0.mk ((by rw [hg]; exact (below_size (bw_ HB)) : w.heap.size ≤ gb181)); have GE181 := Aside0.mk ((by rw [hg]; exact (below_size (bw_ HB)) : w.heap.size ≤ gb181)); have NB179_181 := Aside0.mk ((by rw [hg]; exact Nat.ne_of_lt (blk_lt (tk_ BK179)) : gb179 ≠ gb181)); have NB181_179 := Aside0.mk ((by rw [hg]; exact Nat.ne_of_gt (blk_lt (tk_ BK179)) : gb181 ≠ gb179)); have NB180_181 := Aside0.mk ((by rw [hg]; exact Nat.ne_of_lt (blk_lt (tk_ BK180)) : gb180 ≠ gb181)); have NB181_180 := Aside0.mk ((by rw [hg]; exact Nat.ne_of_gt (blk_lt (tk_ BK180)) : gb181 ≠ gb180)); replace BK179 := Aside0.mk (blk_below (tk_ BK179) hb); replace BK180 := Aside0.mk (blk_below (tk_ BK180) hb); replace HB := Aside0.mk (below_step (bw_ HB) hb); clear hb hbox hg; have hnb7 := NB181_179.out; have hnc7 := NB179_181.out; have hnb8 := NB181_180.out; have hnc8 := NB180_181.out; have hcz9_0 := bc_0 BK181; have hcz9_1 := bc_1 BK181; have hcz9_2 := bc_2 BK181; have hfz9_0 := blk_frozen BK181.out 0; have hfz9_1 := blk_frozen BK181.out 1; have hfz9_2 := blk_frozen BK181.out 2))
 go_loopg [4] k (fun kq v4 w' => ∃ (x4_1 : Int) (x182002_1 : List Int) (u182002 : Value), v4 = .int .i64 x4_1 ∧ Aside0 (pelotonref03_Turn.l0 kq x4_1 a0_0 a0_1 l0_2 a0_1 a0_0 x182002_1 = some (r1, r2, r3)) ∧ Aside0 (kq ≤ k) ∧ Aside0 (Kd.R (Kd.int .i32) 21 w' w.heap.size (fun _ => True) u182002 x182002_1) ∧ Aside0 (w'.heap[gb179]? = some (.cells #[.int .i64 a0_0, .int .i64 a0_1, (.slice A0_2 l0_2.length c0_2)] 24 (0, 0))) ∧ Aside0 (w'.heap[gb180]? = some (.cells #[.int .i64 0, .int .i64 0, (.slice none 0 0)] 24 (0, 0))) ∧ Aside0 (w'.heap[gb181]? = some (.cells #[.int .i64 a0_1, .int .i64 a0_0, u182002] 24 (0, 0))) ∧ Aside0 (Below w.heap.size w w'))
 case atStart => exact ⟨(0), (([] : List Int)), (.slice none 0 0), (by first | rfl | (simp; done) | (simp [*]; done)), H', ⟨Nat.le_refl _⟩, ⟨by first | exact Kd.R_nil _ _ _ _ _ | exact Kd.N_nil _ _ _ _ _ | exact Kd.V_nil _ _ _ _ _ | exact Kd.Q_nil _ _ _ _ _ | exact Kd.S_nil _ _ _ _ _⟩, ⟨by (with_reducible repeat (first | refine k_n ?_ _ | refine k_d ?_ | refine k_a ?_ _)); refine blk_far ?_ NB179_181.out _; (with_reducible repeat (first | refine k_n ?_ _ | refine k_d ?_ | refine k_a ?_ _)); refine blk_far ?_ NB179_181.out _; (with_reducible repeat (first | refine k_n ?_ _ | refine k_d ?_ | refine k_a ?_ _)); refine blk_far ?_ NB179_181.out _; (with_reducible repeat (first | refine k_n ?_ _ | refine k_d ?_ | refine k_a ?_ _)); exact BK179.out⟩, ⟨by (with_reducible repeat (first | refine k_n ?_ _ | refine k_d ?_ | refine k_a ?_ _)); refine blk_far ?_ NB180_181.out _; (with_reducible repeat (first | refine k_n ?_ _ | refine k_d ?_ | refine k_a ?_ _)); refine blk_far ?_ NB180_181.out _; (with_reducible repeat (first | refine k_n ?_ _ | refine k_d ?_ | refine k_a ?_ _)); refine blk_far ?_ NB180_181.out _; (with_reducible repeat (first | refine k_n ?_ _ | refine k_d ?_ | refine k_a ?_ _)); exact BK180.out⟩, ⟨by (with_reducible repeat (first | refine k_n ?_ _ | refine k_d ?_ | refine k_a ?_ _)); refine blk_put (cs := #[.int .i64 a0_1, .int .i64 a0_0, .slice none 0 0]) ?_ 2 _ rfl; (with_reducible repeat (first | refine k_n ?_ _ | refine k_d ?_ | refine k_a ?_ _)); refine blk_put (cs := #[.int .i64 a0_1, .int .i64 0, .slice none 0 0]) ?_ 1 _ rfl; (with_reducible repeat (first | refine k_n ?_ _ | refine k_d ?_ | refine k_a ?_ _)); refine blk_put (cs := #[.int .i64 0, .int .i64 0, .slice none 0 0]) ?_ 0 _ rfl; (with_reducible repeat (first | refine k_n ?_ _ | refine k_d ?_ | refine k_a ?_ _)); exact BK181.out⟩, ⟨by repeat (first | (with_reducible first | exact HB.out | apply b_a | apply b_n | apply b_d | refine b_s ?_ GE179.out | refine b_s ?_ GE180.out | refine b_s ?_ GE181.out) | exact HB.out)⟩⟩
 case round =>
  clear H'
  try clear p2
  try clear c3
  try clear c4
  try clear c7
  try clear c8
  try clear hcz5_0
  try clear hcz5_1
  try clear hcz5_2
  try clear hcz9_0
  try clear hcz9_1
  try clear hcz9_2
  try clear hfz5_0
  try clear hfz5_1
  try clear hfz5_2
  try clear hfz9_0
  try clear hfz9_1
  try clear hfz9_2
  obtain ⟨x4_1, x182002_1, u182002, rfl, HA, HK1, HO_182002, BK179, BK180, BK181, HB⟩ := hrel
  cases gk with
  | zero => exact absurd HA.out (by simp [pelotonref03_Turn.l0])
  | succ k1 =>
   have H := HA.out
   clear HA
   simp only [pelotonref03_Turn.l0] at H
   by_cases c10 : x4_1 < a0_1
   rotate_left
   ·
    rw [if_neg c10] at H
    have c10b0 : decide (x4_1 < a0_1) = false := decide_eq_false c10
    clear c10
    simp only [Option.some.injEq, Prod.mk.injEq] at H
    obtain ⟨rfl, rfl, rfl⟩ := H
    have hnb28 := NB179_180.out
    have hnc28 := NB180_179.out
    have hnb29 := NB179_181.out
    have hnc29 := NB181_179.out
    have hcz30_0 := bc_0 BK179
    have hcz30_1 := bc_1 BK179
    have hcz30_2 := bc_2 BK179
    have hfz30_0 := blk_frozen BK179.out 0
    have hfz30_1 := blk_frozen BK179.out 1
    have hfz30_2 := blk_frozen BK179.out 2
    have hnb31 := NB181_180.out
    have hnc31 := NB180_181.out
    have hcz32_0 := bc_0 BK181
    have hcz32_1 := bc_1 BK181
    have hcz32_2 := bc_2 BK181
    have hfz32_0 := blk_frozen BK181.out 0
    have hfz32_1 := blk_frozen BK181.out 1
    have hfz32_2 := blk_frozen BK181.out 2
    have hcz33_0 := bc_0 BK180
    have hcz33_1 := bc_1 BK180
    have hcz33_2 := bc_2 BK180
    have hfz33_0 := blk_frozen BK180.out 0
    have hfz33_1 := blk_frozen BK180.out 1
    have hfz33_2 := blk_frozen BK180.out 2
    obtain ⟨Ao34, co34, eo34⟩ := Kd.R_slice HO_182002.out
    subst eo34
    go_wp2
    refine bodyPost_ret (results_cell_row rfl _ _ gb180 24 #[.int .i64 a0_1, .int .i64 a0_0, .slice Ao34 x182002_1.length co34] (0, 0) _ rfl (by (with_reducible repeat (first | refine k_n ?_ _ | refine k_d ?_ | refine k_a ?_ _)); refine blk_put (cs := #[.int .i64 a0_1, .int .i64 a0_0, .slice none 0 0]) ?_ 2 _ rfl; (with_reducible repeat (first | refine k_n ?_ _ | refine k_d ?_ | refine k_a ?_ _)); refine blk_put (cs := #[.int .i64 a0_1, .int .i64 0, .slice none 0 0]) ?_ 1 _ rfl; (with_reducible repeat (first | refine k_n ?_ _ | refine k_d ?_ | refine k_a ?_ _)); refine blk_put (cs := #[.int .i64 0, .int .i64 0, .slice none 0 0]) ?_ 0 _ rfl; (with_reducible repeat (first | refine k_n ?_ _ | refine k_d ?_ | refine k_a ?_ _)); exact BK180.out) Try.underlying24 rfl (by kernel_rfl)) rfl ?_
    exact ⟨_, by first | rfl | (simp [errW_none, errW_some] <;> rfl) | (simp [*, errW_none, errW_some] <;> rfl), by (with_reducible repeat (first | apply Kd.R_alloc | apply Kd.R_drewN | apply Kd.R_drew)); exact Kd.R_mono (Kd.R_far (p := ⟨gb180, 2, none⟩) (Kd.R_far (p := ⟨gb180, 1, none⟩) (Kd.R_far (p := ⟨gb180, 0, none⟩) (Kd.R_types HO_182002.out BK180.out (by decide)) (fun _ hk => hk.2) (.int .i64 a0_1)) (fun _ hk => hk.2) (.int .i64 a0_0)) (fun _ hk => hk.2) (.slice Ao34 x182002_1.length co34)) (fun _ hk => trivial), by repeat (first | (with_reducible first | exact HB.out | apply b_a | apply b_n | apply b_d | refine b_s ?_ GE179.out | refine b_s ?_ GE180.out | refine b_s ?_ GE181.out) | exact HB.out)⟩

   rw [if_pos c10] at H
   have c10b0 : decide (x4_1 < a0_1) = true := decide_eq_true c10
   clear c10
   have H' := Aside0.mk H
   clear H
   have hnb11 := NB179_180.out
   have hnc11 := NB180_179.out
   have hnb12 := NB179_181.out
   have hnc12 := NB181_179.out
   have hcz13_0 := bc_0 BK179
   have hcz13_1 := bc_1 BK179
   have hcz13_2 := bc_2 BK179
   have hfz13_0 := blk_frozen BK179.out 0
   have hfz13_1 := blk_frozen BK179.out 1
   have hfz13_2 := blk_frozen BK179.out 2
   go_wp2
   go_loopg [5] k1 (fun kq v5 w' => ∃ (x5_2 : Int) (x182002_2 : List Int) (u182002 : Value), v5 = .int .i64 x5_2 ∧ Aside0 (pelotonref03_Turn.l1 kq x4_1 x5_2 a0_0 a0_1 l0_2 a0_1 a0_0 x182002_2 = some (r1, r2, r3)) ∧ Aside0 (kq ≤ k1) ∧ Aside0 (Kd.R (Kd.int .i32) 21 w' w.heap.size (fun _ => True) u182002 x182002_2) ∧ Aside0 (w'.heap[gb179]? = some (.cells #[.int .i64 a0_0, .int .i64 a0_1, (.slice A0_2 l0_2.length c0_2)] 24 (0, 0))) ∧ Aside0 (w'.heap[gb180]? = some (.cells #[.int .i64 0, .int .i64 0, (.slice none 0 0)] 24 (0, 0))) ∧ Aside0 (w'.heap[gb181]? = some (.cells #[.int .i64 a0_1, .int .i64 a0_0, u182002] 24 (0, 0))) ∧ Aside0 (Below w.heap.size w w'))
   case atStart => exact ⟨(0), (x182002_1), (u182002), (by first | rfl | (simp; done) | (simp [*]; done)), H', ⟨Nat.le_refl _⟩, ⟨tR_ HO_182002⟩, ⟨tk_ BK179⟩, ⟨tk_ BK180⟩, ⟨tk_ BK181⟩, ⟨by repeat (first | (with_reducible first | exact HB.out | apply b_a | apply b_n | apply b_d | refine b_s ?_ GE179.out | refine b_s ?_ GE180.out | refine b_s ?_ GE181.out) | exact HB.out)⟩⟩
   case round =>
    clear H'
    try clear c1
    try clear p2
    try clear c3
    try clear c4
    try clear c7
    try clear c8
    try clear c10
    try clear c10b0
    try clear c11
    try clear c12
    try clear hcz13_0
    try clear hcz13_1
    try clear hcz13_2
    try clear hcz5_0
    try clear hcz5_1
    try clear hcz5_2
    try clear hcz9_0
    try clear hcz9_1
    try clear hcz9_2
    try clear hfz13_0
    try clear hfz13_1
    try clear hfz13_2
    try clear hfz5_0
    try clear hfz5_1
    try clear hfz5_2
    try clear hfz9_0
    try clear hfz9_1
    try clear hfz9_2
    try clear p2
    obtain ⟨x5_2, x182002_2, u182002, rfl, HA, HK2, HO_182002, BK179, BK180, BK181, HB⟩ := hrel
    cases gk with
    | zero => exact absurd HA.out (by simp [pelotonref03_Turn.l1])
    | succ k2 =>
     have H := HA.out
     clear HA
     simp only [pelotonref03_Turn.l1] at H
     by_cases c14 : x5_2 < a0_0
     rotate_left
     ·
      rw [if_neg c14] at H
      have c14b0 : decide (x5_2 < a0_0) = false := decide_eq_false c14
      clear c14
      have H' := Aside0.mk H
      clear H
      have hnb25 := NB179_180.out
      have hnc25 := NB180_179.out
      have hnb26 := NB179_181.out
      have hnc26 := NB181_179.out
      have hcz27_0 := bc_0 BK179
      have hcz27_1 := bc_1 BK179
      have hcz27_2 := bc_2 BK179
      have hfz27_0 := blk_frozen BK179.out 0
      have hfz27_1 := blk_frozen BK179.out 1
      have hfz27_2 := blk_frozen BK179.out 2
      go_wp2
      go_roundg k2
      case measure => have := HK1.out; have := HK2.out; omega
      case rel => exact ⟨(wrap64 (x4_1 + 1)), (x182002_2), (u182002), (by first | rfl | (simp; done) | (simp [*]; done)), H', ⟨by have := HK1.out; have := HK2.out; omega⟩, ⟨tR_ HO_182002⟩, ⟨tk_ BK179⟩, ⟨tk_ BK180⟩, ⟨tk_ BK181⟩, ⟨by repeat (first | (with_reducible first | exact HB.out | apply b_a | apply b_n | apply b_d | refine b_s ?_ GE179.out | refine b_s ?_ GE180.out | refine b_s ?_ GE181.out) | exact HB.out)⟩⟩
     rw [if_pos c14] at H
     have c14b0 : decide (x5_2 < a0_0) = true := decide_eq_true c14
     clear c14
     replace H := Option.bind_eq_some_iff.mp H
     obtain ⟨t182, A150, H⟩ := H
     replace H : (if x182002_2.length < 35184372088832 then (pelotonref03_Turn.l1 k2 x4_1 (wrap64 (x5_2 + 1)) a0_0 a0_1 l0_2 a0_1 a0_0 (x182002_2 ++ [t182])) else (none)) = some (r1, r2, r3) := H
     have A15 := Aside0.mk A150
     clear A150
     by_cases c16 : x182002_2.length < 35184372088832
     rotate_left
     ·
      rw [if_neg c16] at H
      exact absurd H (by simp)
     rw [if_pos c16] at H
     have LMc16 := Aside0.mk c16
     clear c16
     obtain ⟨y183, hy183⟩ : ∃ y_ : List Int, y_ = (x182002_2 ++ [t182]) := ⟨_, rfl⟩
     replace H : (pelotonref03_Turn.l1 k2 x4_1 (wrap64 (x5_2 + 1)) a0_0 a0_1 l0_2 a0_1 a0_0 y183) = some (r1, r2, r3) := by first | (rw [hy183]; with_reducible exact H) | (have H2_ := (Option.bind_some _ _).symm.trans H; rw [hy183]; with_reducible exact H2_) | (have H2_ := (Option.bind_some _ _).symm.trans H; with_reducible exact H2_) | with_reducible exact H | (rw [hy183]; exact H) | exact H
     have Ny183 := Aside0.mk hy183
     clear hy183
     have H' := Aside0.mk H
     clear H
     have hnb17 := NB179_180.out
     have hnc17 := NB180_179.out
     have hnb18 := NB179_181.out
     have hnc18 := NB181_179.out
     have hcz19_0 := bc_0 BK179
     have hcz19_1 := bc_1 BK179
     have hcz19_2 := bc_2 BK179
     have hfz19_0 := blk_frozen BK179.out 0
     have hfz19_1 := blk_frozen BK179.out 1
     have hfz19_2 := blk_frozen BK179.out 2
     try go_wp2
     replace HO_182002 := Aside0.mk (Kd.R_drew HO_182002.out)
     replace BK179 := Aside0.mk (k_d BK179.out)
     replace BK180 := Aside0.mk (k_d BK180.out)
     replace BK181 := Aside0.mk (k_d BK181.out)
     replace HB := Aside0.mk (b_d HB.out)
     refine start_ (n := 10) (S := fun w' => w'.cell? ⟨gb181, 0, none⟩ = some (.int .i64 a0_1) ∧ w'.cell? ⟨gb181, 1, none⟩ = some (.int .i64 a0_0) ∧ w'.cell? ⟨gb181, 2, none⟩ = some (u182002) ∧ w'.cell? ⟨gb179, 0, none⟩ = some (.int .i64 a0_0) ∧ w'.cell? ⟨gb179, 1, none⟩ = some (.int .i64 a0_1) ∧ w'.cell? ⟨gb179, 2, none⟩ = some (.slice A0_2 l0_2.length c0_2)) (ds := [9]) #[false, false, false, false, false, false, false, false, false, false] (by kernel_rfl) rfl rfl ⟨(blk_cell BK181.out 0).trans rfl, (blk_cell BK181.out 1).trans rfl, (blk_cell BK181.out 2).trans rfl, (blk_cell BK179.out 0).trans rfl, (blk_cell BK179.out 1).trans rfl, (blk_cell BK179.out 2).trans rfl⟩ (fun hHeld => ?_); refine with_tabW pelotonref03_Turn.tab8 pelotonref03_Turn.bits8 (fun HT_ HW_ => ?_)
     generalize wr.drew = w20 at HO_182002 BK179 BK180 BK181 HB hHeld ⊢
     refine pu_ (i := 0) (N := some 23) (bs_ 10 1) rfl rfl HT_ ?_
     refine pu_ (i := 3) (N := some 26) (bs_ 10 9) rfl rfl HT_ ?_
     refine pu_ (i := 4) (N := some 27) (bs_ 10 25) rfl rfl HT_ ?_
     refine take_ (i := 1) (N := some 24) (v := ?_) (a' := ?_) (bs_ 10 27) rfl rfl (take_ofW HT_.out HW_.out (by kernel_rfl)) (fun _ _ _ h => h) (Or.inl ⟨by rfl, ?_⟩) hHeld ?_ ?_
     rotate_left
     ·
      rintro w' ⟨s0, s1, s2, s3, s4, s5⟩
      go_simp
      with_reducible rfl
     rotate_left
     ·
      simp only [Act.put, l_1, l_2, l_3, i64_w, i32_w]
      rfl
     refine take_ (i := 2) (N := some 25) (v := ?_) (a' := ?_) (bs_ 10 31) rfl rfl (take_ofW HT_.out HW_.out (by kernel_rfl)) (fun _ _ _ h => h) (Or.inl ⟨by rfl, ?_⟩) hHeld ?_ ?_
     rotate_left
     ·
      rintro w' ⟨s0, s1, s2, s3, s4, s5⟩
      go_simp
      with_reducible rfl
     rotate_left
     ·
      simp only [Act.put, l_1, l_2, l_3, i64_w, i32_w]
      rfl
     refine one_ (i := 5) (N := some 28) (bs_ 10 63) rfl rfl (one_of HT_.out (by kernel_rfl)) (by decide) (fun K hK => ?_)
     refine goes_ Try.func19 (by kernel_rfl) rfl #[.agg #[.int .i64 a0_0, .int .i64 a0_1, .slice A0_2 l0_2.length c0_2], .int .i64 x5_2, .int .i64 x4_1] (by rfl) rfl rfl (by (try simp only [l_4, l_5, l_6]); first | done | rfl | (simp only [l_7, l_8]; rfl)) ?_
     with_reducible refine (pelotonref03_Cell.calls a0_0 a0_1 _ _ l0_2 x5_2 x4_1 t182 _ ?side1 ?side2 A15.out).mono ?_
     (case side1 => repeat (first | exact (Kd.C_below HR0_2.out HB.out) | (with_reducible refine Kd.C_alloc ?_ _) | (with_reducible refine Kd.C_drewN ?_ _) | (with_reducible refine Kd.C_drew ?_)))
     (case side2 => exact HC0_2.out)
     rintro e w21 ⟨rfl, hb⟩
     refine ⟨_, rfl, ?_⟩
     replace HO_182002 := Aside0.mk (Kd.R_below (tR_ HO_182002) hb)
     replace BK179 := Aside0.mk (blk_below (tk_ BK179) hb)
     replace BK180 := Aside0.mk (blk_below (tk_ BK180) hb)
     replace BK181 := Aside0.mk (blk_below (tk_ BK181) hb)
     replace HB := Aside0.mk (below_step (bw_ HB) hb)
     (try clear hb)
     (try clear hb2)
     (try clear hk)
     (try clear hi)
     refine hK.out _ _ ⟨(blk_cell BK181.out 0).trans rfl, (blk_cell BK181.out 1).trans rfl, (blk_cell BK181.out 2).trans rfl, (blk_cell BK179.out 0).trans rfl, (blk_cell BK179.out 1).trans rfl, (blk_cell BK179.out 2).trans rfl⟩ (fun hHeld => ?_)
     clear hK K
     refine no_ (N := some 28) ?_
     refine one_ (i := 6) (N := some 29) (bs_ 10 127) rfl rfl (one_of HT_.out (by kernel_rfl)) (by decide) (fun K hK => ?_)
     refine value_ (w1 := ?_) (v := ?_) (by rfl) rfl ?_ ?_
     rotate_left 2
     ·
      go_simp
      constructor
      ·
       rfl
      ·
       rfl
     refine hK.out _ _ ⟨(blk_cell (k_a BK181.out _) 0).trans rfl, (blk_cell (k_a BK181.out _) 1).trans rfl, (blk_cell (k_a BK181.out _) 2).trans rfl, (blk_cell (k_a BK179.out _) 0).trans rfl, (blk_cell (k_a BK179.out _) 1).trans rfl, (blk_cell (k_a BK179.out _) 2).trans rfl⟩ (fun hHeld => ?_)
     clear hK K
     refine no_ (N := some 29) ?_
     refine one_ (i := 7) (N := some 30) (bs_ 10 255) rfl rfl (one_of HT_.out (by kernel_rfl)) (by decide) (fun K hK => ?_)
     refine Kd.R_append_step (Kd.int .i32) (w0 := w) w.heap.size (by rfl) (.tmp 24) (.tmp 29) 22 21 (.int .i32 0) 4 rfl Try.underlying22 info21 rfl (by decide) (by omega) u182002 x182002_2 t182 [.int .i32 t182] (fun _ => True) (fun _ => False) rfl rfl ?aP (fun _ hk => hk.elim) ?aF ?aO ?aB ?aS ?aL ?_
     (case aP => exact rfl)
     (case aB => exact (bw_ HB))
     (case aF => exact (fun _ _ => trivial))
     (case aO => exact (tR_ HO_182002))
     (case aS => exact (below_size (bw_ HB)))
     (case aL => have := LMc16.out; omega)
     intro v184 w22 ho hb hg hat
     rw [← Ny183.out] at ho
     have n0_ := Aside0.mk (blk_grown (tk_ BK179) hg (Kd.R_ne HO_182002.out BK179.out (by decide)))
     have n1_ := Aside0.mk (blk_grown (tk_ BK180) hg (Kd.R_ne HO_182002.out BK180.out (by decide)))
     have n2_ := Aside0.mk (blk_grown (tk_ BK181) hg (Kd.R_ne HO_182002.out BK181.out (by decide)))
     have n3_ := Aside0.mk (hb)
     have n4_ := Aside0.mk (ho)
     clear BK179
     clear BK180
     clear BK181
     clear HB
     clear HO_182002
     have BK179 := n0_
     have BK180 := n1_
     have BK181 := n2_
     have HB := n3_
     have HO185 := n4_
     clear n0_ n1_ n2_ n3_ n4_
     clear ho hb hg hat
     obtain ⟨Ao23, co23, eo23⟩ := Kd.R_slice HO185.out
     (first | subst eo23 | (injection eo23 with f1_ f2_ f3_; have f4_ := f1_.symm; have f5_ := f3_.symm; clear f1_ f2_ f3_; subst f4_; subst f5_))
     refine hK.out _ _ ⟨(blk_cell BK181.out 0).trans rfl, (blk_cell BK181.out 1).trans rfl, (blk_cell BK181.out 2).trans rfl, (blk_cell BK179.out 0).trans rfl, (blk_cell BK179.out 1).trans rfl, (blk_cell BK179.out 2).trans rfl⟩ (fun hHeld => ?_)
     clear hK K
     refine no_ (N := some 30) ?_
     refine pu_ (i := 8) (N := some 31) (bs_ 10 511) rfl rfl HT_ ?_
     refine last_ (i := 9) (N := none) (bs_ 10 1023) rfl rfl (one_of HT_.out (by kernel_rfl)) (by decide) (fun K hK => ?_)
     have hs24 := bc_2 BK181
     have hfs24 := blk_frozen BK181.out 2
     have hns24_0 := NB179_181.out
     have hns24_1 := NB180_181.out
     have hms24_0 := NB181_179.out
     have hms24_1 := NB181_180.out
     refine skip_ (w1 := ?_) (by rfl) rfl ?_ ?_
     rotate_left
     ·
      go_simp
      rfl
     refine hK.out _ _ ?_
     clear hK K
     refine done_ (done_of HT_.out (by kernel_rfl)) ?_
     try go_wp2
     go_roundg k2
     case measure => have := HK1.out; have := HK2.out; omega
     case rel => exact ⟨(wrap64 (x5_2 + 1)), (y183), (.slice Ao23 y183.length co23), (by first | rfl | (simp; done) | (simp [*]; done)), H', ⟨by have := HK1.out; have := HK2.out; omega⟩, ⟨by (with_reducible repeat (first | apply Kd.R_alloc | apply Kd.R_drewN | apply Kd.R_drew)); exact Kd.R_mono (Kd.R_far (p := ⟨gb181, 2, none⟩) (Kd.R_types HO185.out BK181.out (by decide)) (fun _ hk => hk.2) (.slice Ao23 y183.length co23)) (fun _ hk => trivial)⟩, ⟨by (with_reducible repeat (first | refine k_n ?_ _ | refine k_d ?_ | refine k_a ?_ _)); refine blk_far ?_ NB179_181.out _; (with_reducible repeat (first | refine k_n ?_ _ | refine k_d ?_ | refine k_a ?_ _)); exact BK179.out⟩, ⟨by (with_reducible repeat (first | refine k_n ?_ _ | refine k_d ?_ | refine k_a ?_ _)); refine blk_far ?_ NB180_181.out _; (with_reducible repeat (first | refine k_n ?_ _ | refine k_d ?_ | refine k_a ?_ _)); exact BK180.out⟩, ⟨by (with_reducible repeat (first | refine k_n ?_ _ | refine k_d ?_ | refine k_a ?_ _)); refine blk_put (cs := #[.int .i64 a0_1, .int .i64 a0_0, u182002]) ?_ 2 _ rfl; (with_reducible repeat (first | refine k_n ?_ _ | refine k_d ?_ | refine k_a ?_ _)); exact BK181.out⟩, ⟨by repeat (first | (with_reducible first | exact HB.out | apply b_a | apply b_n | apply b_d | refine b_s ?_ GE179.out | refine b_s ?_ GE180.out | refine b_s ?_ GE181.out) | exact HB.out)⟩⟩
/-! ### pelotonref03_Part: function 34 -/
mutual
def pelotonref03_Part.l0 : Nat → Int → Int → Int → Int → Int → Int → List Int → Int → Int → List Int → Option (Int × Int × List Int)
 | 0, _, _, _, _, _, _, _, _, _, _ => none
 | k + 1, x2, x3, x4, x12, x187000, x187001, x187002, x189000, x189001, x189002 => if x12 < x2 then (pelotonref03_Part.l1 k x2 x3 x4 x12 x3 x187000 x187001 x187002 x189000 x189001 x189002) else (some (x189000, x189001, x189002))
def pelotonref03_Part.l1 : Nat → Int → Int → Int → Int → Int → Int → Int → List Int → Int → Int → List Int → Option (Int × Int × List Int)
 | 0, _, _, _, _, _, _, _, _, _, _, _ => none
 | k + 1, x2, x3, x4, x12, x13, x187000, x187001, x187002, x189000, x189001, x189002 => if x13 < x4 then ((pelotonref03_Cell.f x187000 x187001 x187002 x12 x13).bind fun t189 => (if x189002.length < 35184372088832 then (pelotonref03_Part.l1 k x2 x3 x4 x12 (wrap64 (x13 + 1)) x187000 x187001 x187002 x189000 x189001 (x189002 ++ [t189])) else (none))) else (pelotonref03_Part.l0 k x2 x3 x4 (wrap64 (x12 + 1)) x187000 x187001 x187002 x189000 x189001 x189002)
end
def pelotonref03_Part.f (k : Nat) (a0_0 : Int) (a0_1 : Int) (l0_2 : List Int) (a1 : Int) (a2 : Int) (a3 : Int) (a4 : Int) : Option (Int × Int × List Int) := pelotonref03_Part.l0 k a2 a3 a4 a1 a0_0 a0_1 l0_2 (wrap64 (a2 - a1)) (wrap64 (a4 - a3)) ([] : List Int)
theorem pelotonref03_Part.mono_l : ∀ k, (∀ y0 y1 y2 y3 y4 y5 y6 y7 y8 y9, LeO (pelotonref03_Part.l0 k y0 y1 y2 y3 y4 y5 y6 y7 y8 y9) (pelotonref03_Part.l0 (k + 1) y0 y1 y2 y3 y4 y5 y6 y7 y8 y9)) ∧ (∀ y0 y1 y2 y3 y4 y5 y6 y7 y8 y9 y10, LeO (pelotonref03_Part.l1 k y0 y1 y2 y3 y4 y5 y6 y7 y8 y9 y10) (pelotonref03_Part.l1 (k + 1) y0 y1 y2 y3 y4 y5 y6 y7 y8 y9 y10))
 | 0 => ⟨fun _ _ _ _ _ _ _ _ _ _ r h => by simp [pelotonref03_Part.l0] at h, fun _ _ _ _ _ _ _ _ _ _ _ r h => by simp [pelotonref03_Part.l1] at h⟩
 | k + 1 => by
  obtain ⟨ih0, ih1⟩ := pelotonref03_Part.mono_l k
  refine ⟨?_, ?_⟩
  ·
   intro y0 y1 y2 y3 y4 y5 y6 y7 y8 y9
   unfold pelotonref03_Part.l0
   repeat' first
   | (with_reducible exact ih0 _ _ _ _ _ _ _ _ _ _)
   | (with_reducible exact ih1 _ _ _ _ _ _ _ _ _ _ _)
   | (with_reducible exact LeO.refl _)
   | (with_reducible exact LeO.none _)
   | (with_reducible refine LeO.ite ?_ ?_)
   | (with_reducible refine LeO.bind ?_ (fun _ => ?_))
   | exact ih0 _ _ _ _ _ _ _ _ _ _
   | exact ih1 _ _ _ _ _ _ _ _ _ _ _
   | exact LeO.none _
   | refine LeO.ite ?_ ?_
   | refine LeO.bind ?_ (fun _ => ?_)
  ·
   intro y0 y1 y2 y3 y4 y5 y6 y7 y8 y9 y10
   unfold pelotonref03_Part.l1
   repeat' first
   | (with_reducible exact ih0 _ _ _ _ _ _ _ _ _ _)
   | (with_reducible exact ih1 _ _ _ _ _ _ _ _ _ _ _)
   | (with_reducible exact LeO.refl _)
   | (with_reducible exact LeO.none _)
   | (with_reducible refine LeO.ite ?_ ?_)
   | (with_reducible refine LeO.bind ?_ (fun _ => ?_))
   | exact ih0 _ _ _ _ _ _ _ _ _ _
   | exact ih1 _ _ _ _ _ _ _ _ _ _ _
   | exact LeO.none _
   | refine LeO.ite ?_ ?_
   | refine LeO.bind ?_ (fun _ => ?_)
theorem pelotonref03_Part.mono : ∀ a0 a1 a2 a3 a4 a5 a6 k, LeO (pelotonref03_Part.f k a0 a1 a2 a3 a4 a5 a6) (pelotonref03_Part.f (k + 1) a0 a1 a2 a3 a4 a5 a6) := by
 intro a0 a1 a2 a3 a4 a5 a6 k
 obtain ⟨ih0, ih1⟩ := pelotonref03_Part.mono_l k
 unfold pelotonref03_Part.f
 repeat' first
   | (with_reducible exact ih0 _ _ _ _ _ _ _ _ _ _)
   | (with_reducible exact ih1 _ _ _ _ _ _ _ _ _ _ _)
   | (with_reducible exact LeO.refl _)
   | (with_reducible exact LeO.none _)
   | (with_reducible refine LeO.ite ?_ ?_)
   | (with_reducible refine LeO.bind ?_ (fun _ => ?_))
   | exact ih0 _ _ _ _ _ _ _ _ _ _
   | exact ih1 _ _ _ _ _ _ _ _ _ _ _
   | exact LeO.none _
   | refine LeO.ite ?_ ?_
   | refine LeO.bind ?_ (fun _ => ?_)
def pelotonref03_Part.T8 : Bool × List (List Nat × List Nat) := (true, [([], []), ([0], [0]), ([], []), ([], []), ([], []), ([2, 3, 4], [2, 3, 4]), ([5], [5]), ([1, 6, 5], [1, 6]), ([0, 1, 2, 3, 4, 5, 6, 7], []), ([8, 7, 7, 0, 1, 2, 3, 4, 5, 6, 7], [7, 8])])
def pelotonref03_Part.B8 : List Nat := [0, 1, 0, 0, 0, 28, 60, 127, 255, 511]
theorem pelotonref03_Part.tab8 : rtab .any (opsOf Try.f34 8) = pelotonref03_Part.T8 := by kernel_rfl
theorem pelotonref03_Part.bits8 : waitsOk pelotonref03_Part.T8.2 pelotonref03_Part.B8 = true := by kernel_rfl
set_option maxHeartbeats 60000000 in
set_option maxRecDepth 100000 in
theorem pelotonref03_Part.calls (k : Nat) (a0_0 : Int) (a0_1 : Int) (A0_2 : Option Addr) (c0_2 : Nat) (l0_2 : List Int) (a1 : Int) (a2 : Int) (a3 : Int) (a4 : Int) (r1 : Int) (r2 : Int) (r3 : List Int) (w : World) (hr0_2 : Kd.C (Kd.int .i32) w A0_2 l0_2.length l0_2) (hc0_2 : l0_2.length ≤ c0_2) (h : pelotonref03_Part.f k a0_0 a0_1 l0_2 a1 a2 a3 a4 = some (r1, r2, r3)) :
  Calls Try.prog 34 #[.agg #[.int .i64 a0_0, .int .i64 a0_1, .slice A0_2 l0_2.length c0_2], .int .i64 a1, .int .i64 a2, .int .i64 a3, .int .i64 a4] w fun e w' => ∃ v2_ : Value, e = .returned (.agg #[.int .i64 r1, .int .i64 r2, v2_]) ∧ Kd.R (Kd.int .i32) 21 w' w.heap.size (fun _ => True) v2_ r3 ∧ Below w.heap.size w w' := by
 have hu24 := Try.underlying24
 have HR0_2 := Aside0.mk hr0_2
 have HC0_2 := Aside0.mk hc0_2
 clear hr0_2 hc0_2
 have HB := Aside0.mk (Below.refl w.heap.size w)
 have H : (pelotonref03_Part.l0 k a2 a3 a4 a1 a0_0 a0_1 l0_2 (wrap64 (a2 - a1)) (wrap64 (a4 - a3)) ([] : List Int)) = some (r1, r2, r3) := h
 clear h
 have H' := Aside0.mk H
 clear H
 go_enter Try.func34, Try.ntmps34
 go_wp2_with (first | ((with_reducible refine gate_dst (N := 5) rfl ?_); refine box_event ?hg (N := 5) ?hd (cs := #[.int .i64 a0_0, .int .i64 a0_1, .slice A0_2 l0_2.length c0_2]) (t := 24) ?hr ?_; (case hd => rfl); (case hg => rfl); (case hr => first | (go_simp; done) | (go_simp; rfl)); intro gb186 hg w6 hbox hb; have BK186 := Aside0.mk (hbox); have GW186 := Aside0.mk ((by rw [hg]; exact (below_size (bw_ HB)) : w.heap.size ≤ gb186)); have GE186 := Aside0.mk ((by rw [hg]; exact (below_size (bw_ HB)) : w.heap.size ≤ gb186)); replace HB := Aside0.mk (below_step (bw_ HB) hb); clear hb hbox hg) | ((with_reducible refine gate_dst (N := 10) rfl ?_); refine box_event ?hg (N := 10) ?hd (cs := #[.int .i64 0, .int .i64 0, .slice none 0 0]) (t := 24) ?hr ?_; (case hd => rfl); (case hg => rfl); (case hr => first | (go_simp; done) | (go_simp; rfl)); intro gb187 hg w7 hbox hb; have BK187 := Aside0.mk (hbox); have GW187 := Aside0.mk ((by rw [hg]; exact (below_size (bw_ HB)) : w.heap.size ≤ gb187)); have GE187 := Aside0.mk ((by rw [hg]; exact (below_size (bw_ HB)) : w.heap.size ≤ gb187)); have NB186_187 := Aside0.mk ((by rw [hg]; exact Nat.ne_of_lt (blk_lt (tk_ BK186)) : gb186 ≠ gb187)); have NB187_186 := Aside0.mk ((by rw [hg]; exact Nat.ne_of_gt (blk_lt (tk_ BK186)) : gb187 ≠ gb186)); replace BK186 := Aside0.mk (blk_below (tk_ BK186) hb); replace HB := Aside0.mk (below_step (bw_ HB) hb); clear hb hbox hg) | ((with_reducible refine gate_dst (N := 11) rfl ?_); refine box_event ?hg (N := 11) ?hd (cs := #[.int .i64 0, .int .i64 0, .slice none 0 0]) (t := 24) ?hr ?_; (case hd => rfl); (case hg => rfl); (case hr => first | (go_simp; done) | (go_simp; rfl)); intro gb188 hg w8 hbox hb; have BK188 := Aside0.mk (hbox); have GW188 := Aside0.mk ((by rw [hg]; exact (below_size (bw_ HB)) : w.heap.size ≤ gb188)); have GE188 := Aside0.mk ((by rw [hg]; exact (below_size (bw_ HB)) : w.heap.size ≤ gb188)); have NB186_188 := Aside0.mk ((by rw [hg]; exact Nat.ne_of_lt (blk_lt (tk_ BK186)) : gb186 ≠ gb188)); have NB188_186 := Aside0.mk ((by rw [hg]; exact Nat.ne_of_gt (blk_lt (tk_ BK186)) : gb188 ≠ gb186)); have NB187_188 := Aside0.mk ((by rw [hg]; exact Nat.ne_of_lt (blk_lt (tk_ BK187)) : gb187 ≠ gb188)); have NB188_187 := Aside0.mk ((by rw [hg]; exact Nat.ne_of_gt (blk_lt (tk_ BK187)) : gb188 ≠ gb187)); replace BK186 := Aside0.mk (blk_below (tk_ BK186) hb); replace BK187 := Aside0.mk (blk_below (tk_ BK187) hb); replace HB := Aside0.mk (below_step (bw_ HB) hb); clear hb hbox hg; have hnb9 := NB188_186.out; have hnc9 := NB186_188.out; have hnb10 := NB188_187.out; have hnc10 := NB187_188.out; have hcz11_0 := bc_0 BK188; have hcz11_1 := bc_1 BK188; have hcz11_2 := bc_2 BK188; have hfz11_0 := blk_frozen BK188.out 0; have hfz11_1 := blk_frozen BK188.out 1; have hfz11_2 := blk_frozen BK188.out 2))
 go_loopg [12] k (fun kq v12 w' => ∃ (x12_1 : Int) (x189002_1 : List Int) (u189002 : Value), v12 = .int .i64 x12_1 ∧ Aside0 (pelotonref03_Part.l0 kq a2 a3 a4 x12_1 a0_0 a0_1 l0_2 (wrap64 (a2 - a1)) (wrap64 (a4 - a3)) x189002_1 = some (r1, r2, r3)) ∧ Aside0 (kq ≤ k) ∧ Aside0 (Kd.R (Kd.int .i32) 21 w' w.heap.size (fun _ => True) u189002 x189002_1) ∧ Aside0 (w'.heap[gb186]? = some (.cells #[.int .i64 a0_0, .int .i64 a0_1, (.slice A0_2 l0_2.length c0_2)] 24 (0, 0))) ∧ Aside0 (w'.heap[gb187]? = some (.cells #[.int .i64 0, .int .i64 0, (.slice none 0 0)] 24 (0, 0))) ∧ Aside0 (w'.heap[gb188]? = some (.cells #[.int .i64 (wrap64 (a2 - a1)), .int .i64 (wrap64 (a4 - a3)), u189002] 24 (0, 0))) ∧ Aside0 (Below w.heap.size w w'))
 case atStart => exact ⟨(a1), (([] : List Int)), (.slice none 0 0), (by first | rfl | (simp; done) | (simp [*]; done)), H', ⟨Nat.le_refl _⟩, ⟨by first | exact Kd.R_nil _ _ _ _ _ | exact Kd.N_nil _ _ _ _ _ | exact Kd.V_nil _ _ _ _ _ | exact Kd.Q_nil _ _ _ _ _ | exact Kd.S_nil _ _ _ _ _⟩, ⟨by (with_reducible repeat (first | refine k_n ?_ _ | refine k_d ?_ | refine k_a ?_ _)); refine blk_far ?_ NB186_188.out _; (with_reducible repeat (first | refine k_n ?_ _ | refine k_d ?_ | refine k_a ?_ _)); refine blk_far ?_ NB186_188.out _; (with_reducible repeat (first | refine k_n ?_ _ | refine k_d ?_ | refine k_a ?_ _)); refine blk_far ?_ NB186_188.out _; (with_reducible repeat (first | refine k_n ?_ _ | refine k_d ?_ | refine k_a ?_ _)); exact BK186.out⟩, ⟨by (with_reducible repeat (first | refine k_n ?_ _ | refine k_d ?_ | refine k_a ?_ _)); refine blk_far ?_ NB187_188.out _; (with_reducible repeat (first | refine k_n ?_ _ | refine k_d ?_ | refine k_a ?_ _)); refine blk_far ?_ NB187_188.out _; (with_reducible repeat (first | refine k_n ?_ _ | refine k_d ?_ | refine k_a ?_ _)); refine blk_far ?_ NB187_188.out _; (with_reducible repeat (first | refine k_n ?_ _ | refine k_d ?_ | refine k_a ?_ _)); exact BK187.out⟩, ⟨by (with_reducible repeat (first | refine k_n ?_ _ | refine k_d ?_ | refine k_a ?_ _)); refine blk_put (cs := #[.int .i64 (wrap64 (a2 - a1)), .int .i64 (wrap64 (a4 - a3)), .slice none 0 0]) ?_ 2 _ rfl; (with_reducible repeat (first | refine k_n ?_ _ | refine k_d ?_ | refine k_a ?_ _)); refine blk_put (cs := #[.int .i64 (wrap64 (a2 - a1)), .int .i64 0, .slice none 0 0]) ?_ 1 _ rfl; (with_reducible repeat (first | refine k_n ?_ _ | refine k_d ?_ | refine k_a ?_ _)); refine blk_put (cs := #[.int .i64 0, .int .i64 0, .slice none 0 0]) ?_ 0 _ rfl; (with_reducible repeat (first | refine k_n ?_ _ | refine k_d ?_ | refine k_a ?_ _)); exact BK188.out⟩, ⟨by repeat (first | (with_reducible first | exact HB.out | apply b_a | apply b_n | apply b_d | refine b_s ?_ GE186.out | refine b_s ?_ GE187.out | refine b_s ?_ GE188.out) | exact HB.out)⟩⟩
 case round =>
  clear H'
  try clear c1
  try clear p2
  try clear c3
  try clear p6
  try clear c9
  try clear c10
  try clear hcz11_0
  try clear hcz11_1
  try clear hcz11_2
  try clear hfz11_0
  try clear hfz11_1
  try clear hfz11_2
  obtain ⟨x12_1, x189002_1, u189002, rfl, HA, HK1, HO_189002, BK186, BK187, BK188, HB⟩ := hrel
  cases gk with
  | zero => exact absurd HA.out (by simp [pelotonref03_Part.l0])
  | succ k1 =>
   have H := HA.out
   clear HA
   simp only [pelotonref03_Part.l0] at H
   by_cases c12 : x12_1 < a2
   rotate_left
   ·
    rw [if_neg c12] at H
    have c12b0 : decide (x12_1 < a2) = false := decide_eq_false c12
    clear c12
    simp only [Option.some.injEq, Prod.mk.injEq] at H
    obtain ⟨rfl, rfl, rfl⟩ := H
    have hnb21 := NB188_186.out
    have hnc21 := NB186_188.out
    have hnb22 := NB188_187.out
    have hnc22 := NB187_188.out
    have hcz23_0 := bc_0 BK188
    have hcz23_1 := bc_1 BK188
    have hcz23_2 := bc_2 BK188
    have hfz23_0 := blk_frozen BK188.out 0
    have hfz23_1 := blk_frozen BK188.out 1
    have hfz23_2 := blk_frozen BK188.out 2
    have hnb24 := NB187_186.out
    have hnc24 := NB186_187.out
    have hcz25_0 := bc_0 BK187
    have hcz25_1 := bc_1 BK187
    have hcz25_2 := bc_2 BK187
    have hfz25_0 := blk_frozen BK187.out 0
    have hfz25_1 := blk_frozen BK187.out 1
    have hfz25_2 := blk_frozen BK187.out 2
    obtain ⟨Ao26, co26, eo26⟩ := Kd.R_slice HO_189002.out
    subst eo26
    go_wp2
    refine bodyPost_ret (results_cell_row rfl _ _ gb187 24 #[.int .i64 (wrap64 (a2 - a1)), .int .i64 (wrap64 (a4 - a3)), .slice Ao26 x189002_1.length co26] (0, 0) _ rfl (by (with_reducible repeat (first | refine k_n ?_ _ | refine k_d ?_ | refine k_a ?_ _)); refine blk_put (cs := #[.int .i64 (wrap64 (a2 - a1)), .int .i64 (wrap64 (a4 - a3)), .slice none 0 0]) ?_ 2 _ rfl; (with_reducible repeat (first | refine k_n ?_ _ | refine k_d ?_ | refine k_a ?_ _)); refine blk_put (cs := #[.int .i64 (wrap64 (a2 - a1)), .int .i64 0, .slice none 0 0]) ?_ 1 _ rfl; (with_reducible repeat (first | refine k_n ?_ _ | refine k_d ?_ | refine k_a ?_ _)); refine blk_put (cs := #[.int .i64 0, .int .i64 0, .slice none 0 0]) ?_ 0 _ rfl; (with_reducible repeat (first | refine k_n ?_ _ | refine k_d ?_ | refine k_a ?_ _)); exact BK187.out) Try.underlying24 rfl (by kernel_rfl)) rfl ?_
    exact ⟨_, by first | rfl | (simp [errW_none, errW_some] <;> rfl) | (simp [*, errW_none, errW_some] <;> rfl), by (with_reducible repeat (first | apply Kd.R_alloc | apply Kd.R_drewN | apply Kd.R_drew)); exact Kd.R_mono (Kd.R_far (p := ⟨gb187, 2, none⟩) (Kd.R_far (p := ⟨gb187, 1, none⟩) (Kd.R_far (p := ⟨gb187, 0, none⟩) (Kd.R_types HO_189002.out BK187.out (by decide)) (fun _ hk => hk.2) (.int .i64 (wrap64 (a2 - a1)))) (fun _ hk => hk.2) (.int .i64 (wrap64 (a4 - a3)))) (fun _ hk => hk.2) (.slice Ao26 x189002_1.length co26)) (fun _ hk => trivial), by repeat (first | (with_reducible first | exact HB.out | apply b_a | apply b_n | apply b_d | refine b_s ?_ GE186.out | refine b_s ?_ GE187.out | refine b_s ?_ GE188.out) | exact HB.out)⟩

   rw [if_pos c12] at H
   have c12b0 : decide (x12_1 < a2) = true := decide_eq_true c12
   clear c12
   have H' := Aside0.mk H
   clear H
   go_wp2
   go_loopg [13] k1 (fun kq v13 w' => ∃ (x13_2 : Int) (x189002_2 : List Int) (u189002 : Value), v13 = .int .i64 x13_2 ∧ Aside0 (pelotonref03_Part.l1 kq a2 a3 a4 x12_1 x13_2 a0_0 a0_1 l0_2 (wrap64 (a2 - a1)) (wrap64 (a4 - a3)) x189002_2 = some (r1, r2, r3)) ∧ Aside0 (kq ≤ k1) ∧ Aside0 (Kd.R (Kd.int .i32) 21 w' w.heap.size (fun _ => True) u189002 x189002_2) ∧ Aside0 (w'.heap[gb186]? = some (.cells #[.int .i64 a0_0, .int .i64 a0_1, (.slice A0_2 l0_2.length c0_2)] 24 (0, 0))) ∧ Aside0 (w'.heap[gb187]? = some (.cells #[.int .i64 0, .int .i64 0, (.slice none 0 0)] 24 (0, 0))) ∧ Aside0 (w'.heap[gb188]? = some (.cells #[.int .i64 (wrap64 (a2 - a1)), .int .i64 (wrap64 (a4 - a3)), u189002] 24 (0, 0))) ∧ Aside0 (Below w.heap.size w w'))
   case atStart => exact ⟨(a3), (x189002_1), (u189002), (by first | rfl | (simp; done) | (simp [*]; done)), H', ⟨Nat.le_refl _⟩, ⟨tR_ HO_189002⟩, ⟨tk_ BK186⟩, ⟨tk_ BK187⟩, ⟨tk_ BK188⟩, ⟨by repeat (first | (with_reducible first | exact HB.out | apply b_a | apply b_n | apply b_d | refine b_s ?_ GE186.out | refine b_s ?_ GE187.out | refine b_s ?_ GE188.out) | exact HB.out)⟩⟩
   case round =>
    clear H'
    try clear c1
    try clear p2
    try clear c3
    try clear p6
    try clear c9
    try clear c10
    try clear c12
    try clear c12b0
    try clear hcz11_0
    try clear hcz11_1
    try clear hcz11_2
    try clear hfz11_0
    try clear hfz11_1
    try clear hfz11_2
    try clear p2
    try clear p6
    obtain ⟨x13_2, x189002_2, u189002, rfl, HA, HK2, HO_189002, BK186, BK187, BK188, HB⟩ := hrel
    cases gk with
    | zero => exact absurd HA.out (by simp [pelotonref03_Part.l1])
    | succ k2 =>
     have H := HA.out
     clear HA
     simp only [pelotonref03_Part.l1] at H
     by_cases c13 : x13_2 < a4
     rotate_left
     ·
      rw [if_neg c13] at H
      have c13b0 : decide (x13_2 < a4) = false := decide_eq_false c13
      clear c13
      have H' := Aside0.mk H
      clear H
      go_wp2
      go_roundg k2
      case measure => have := HK1.out; have := HK2.out; omega
      case rel => exact ⟨(wrap64 (x12_1 + 1)), (x189002_2), (u189002), (by first | rfl | (simp; done) | (simp [*]; done)), H', ⟨by have := HK1.out; have := HK2.out; omega⟩, ⟨tR_ HO_189002⟩, ⟨tk_ BK186⟩, ⟨tk_ BK187⟩, ⟨tk_ BK188⟩, ⟨by repeat (first | (with_reducible first | exact HB.out | apply b_a | apply b_n | apply b_d | refine b_s ?_ GE186.out | refine b_s ?_ GE187.out | refine b_s ?_ GE188.out) | exact HB.out)⟩⟩
     rw [if_pos c13] at H
     have c13b0 : decide (x13_2 < a4) = true := decide_eq_true c13
     clear c13
     replace H := Option.bind_eq_some_iff.mp H
     obtain ⟨t189, A140, H⟩ := H
     replace H : (if x189002_2.length < 35184372088832 then (pelotonref03_Part.l1 k2 a2 a3 a4 x12_1 (wrap64 (x13_2 + 1)) a0_0 a0_1 l0_2 (wrap64 (a2 - a1)) (wrap64 (a4 - a3)) (x189002_2 ++ [t189])) else (none)) = some (r1, r2, r3) := H
     have A14 := Aside0.mk A140
     clear A140
     by_cases c15 : x189002_2.length < 35184372088832
     rotate_left
     ·
      rw [if_neg c15] at H
      exact absurd H (by simp)
     rw [if_pos c15] at H
     have LMc15 := Aside0.mk c15
     clear c15
     obtain ⟨y190, hy190⟩ : ∃ y_ : List Int, y_ = (x189002_2 ++ [t189]) := ⟨_, rfl⟩
     replace H : (pelotonref03_Part.l1 k2 a2 a3 a4 x12_1 (wrap64 (x13_2 + 1)) a0_0 a0_1 l0_2 (wrap64 (a2 - a1)) (wrap64 (a4 - a3)) y190) = some (r1, r2, r3) := by first | (rw [hy190]; with_reducible exact H) | (have H2_ := (Option.bind_some _ _).symm.trans H; rw [hy190]; with_reducible exact H2_) | (have H2_ := (Option.bind_some _ _).symm.trans H; with_reducible exact H2_) | with_reducible exact H | (rw [hy190]; exact H) | exact H
     have Ny190 := Aside0.mk hy190
     clear hy190
     have H' := Aside0.mk H
     clear H
     try go_wp2
     replace HO_189002 := Aside0.mk (Kd.R_drew HO_189002.out)
     replace BK186 := Aside0.mk (k_d BK186.out)
     replace BK187 := Aside0.mk (k_d BK187.out)
     replace BK188 := Aside0.mk (k_d BK188.out)
     replace HB := Aside0.mk (b_d HB.out)
     refine start_ (n := 10) (S := fun w' => w'.cell? ⟨gb188, 0, none⟩ = some (.int .i64 (wrap64 (a2 - a1))) ∧ w'.cell? ⟨gb188, 1, none⟩ = some (.int .i64 (wrap64 (a4 - a3))) ∧ w'.cell? ⟨gb188, 2, none⟩ = some (u189002) ∧ w'.cell? ⟨gb186, 0, none⟩ = some (.int .i64 a0_0) ∧ w'.cell? ⟨gb186, 1, none⟩ = some (.int .i64 a0_1) ∧ w'.cell? ⟨gb186, 2, none⟩ = some (.slice A0_2 l0_2.length c0_2)) (ds := [9]) #[false, false, false, false, false, false, false, false, false, false] (by kernel_rfl) rfl rfl ⟨(blk_cell BK188.out 0).trans rfl, (blk_cell BK188.out 1).trans rfl, (blk_cell BK188.out 2).trans rfl, (blk_cell BK186.out 0).trans rfl, (blk_cell BK186.out 1).trans rfl, (blk_cell BK186.out 2).trans rfl⟩ (fun hHeld => ?_); refine with_tabW pelotonref03_Part.tab8 pelotonref03_Part.bits8 (fun HT_ HW_ => ?_)
     generalize wr.drew = w16 at HO_189002 BK186 BK187 BK188 HB hHeld ⊢
     refine pu_ (i := 0) (N := some 33) (bs_ 10 1) rfl rfl HT_ ?_
     refine pu_ (i := 3) (N := some 36) (bs_ 10 9) rfl rfl HT_ ?_
     refine pu_ (i := 4) (N := some 37) (bs_ 10 25) rfl rfl HT_ ?_
     refine take_ (i := 1) (N := some 34) (v := ?_) (a' := ?_) (bs_ 10 27) rfl rfl (take_ofW HT_.out HW_.out (by kernel_rfl)) (fun _ _ _ h => h) (Or.inl ⟨by rfl, ?_⟩) hHeld ?_ ?_
     rotate_left
     ·
      rintro w' ⟨s0, s1, s2, s3, s4, s5⟩
      go_simp
      with_reducible rfl
     rotate_left
     ·
      simp only [Act.put, l_1, l_2, l_3, i64_w, i32_w]
      rfl
     refine take_ (i := 2) (N := some 35) (v := ?_) (a' := ?_) (bs_ 10 31) rfl rfl (take_ofW HT_.out HW_.out (by kernel_rfl)) (fun _ _ _ h => h) (Or.inl ⟨by rfl, ?_⟩) hHeld ?_ ?_
     rotate_left
     ·
      rintro w' ⟨s0, s1, s2, s3, s4, s5⟩
      go_simp
      with_reducible rfl
     rotate_left
     ·
      simp only [Act.put, l_1, l_2, l_3, i64_w, i32_w]
      rfl
     refine one_ (i := 5) (N := some 38) (bs_ 10 63) rfl rfl (one_of HT_.out (by kernel_rfl)) (by decide) (fun K hK => ?_)
     refine goes_ Try.func19 (by kernel_rfl) rfl #[.agg #[.int .i64 a0_0, .int .i64 a0_1, .slice A0_2 l0_2.length c0_2], .int .i64 x12_1, .int .i64 x13_2] (by rfl) rfl rfl (by (try simp only [l_4, l_5, l_6]); first | done | rfl | (simp only [l_7, l_8]; rfl)) ?_
     with_reducible refine (pelotonref03_Cell.calls a0_0 a0_1 _ _ l0_2 x12_1 x13_2 t189 _ ?side1 ?side2 A14.out).mono ?_
     (case side1 => repeat (first | exact (Kd.C_below HR0_2.out HB.out) | (with_reducible refine Kd.C_alloc ?_ _) | (with_reducible refine Kd.C_drewN ?_ _) | (with_reducible refine Kd.C_drew ?_)))
     (case side2 => exact HC0_2.out)
     rintro e w17 ⟨rfl, hb⟩
     refine ⟨_, rfl, ?_⟩
     replace HO_189002 := Aside0.mk (Kd.R_below (tR_ HO_189002) hb)
     replace BK186 := Aside0.mk (blk_below (tk_ BK186) hb)
     replace BK187 := Aside0.mk (blk_below (tk_ BK187) hb)
     replace BK188 := Aside0.mk (blk_below (tk_ BK188) hb)
     replace HB := Aside0.mk (below_step (bw_ HB) hb)
     (try clear hb)
     (try clear hb2)
     (try clear hk)
     (try clear hi)
     refine hK.out _ _ ⟨(blk_cell BK188.out 0).trans rfl, (blk_cell BK188.out 1).trans rfl, (blk_cell BK188.out 2).trans rfl, (blk_cell BK186.out 0).trans rfl, (blk_cell BK186.out 1).trans rfl, (blk_cell BK186.out 2).trans rfl⟩ (fun hHeld => ?_)
     clear hK K
     refine no_ (N := some 38) ?_
     refine one_ (i := 6) (N := some 39) (bs_ 10 127) rfl rfl (one_of HT_.out (by kernel_rfl)) (by decide) (fun K hK => ?_)
     refine value_ (w1 := ?_) (v := ?_) (by rfl) rfl ?_ ?_
     rotate_left 2
     ·
      go_simp
      constructor
      ·
       rfl
      ·
       rfl
     refine hK.out _ _ ⟨(blk_cell (k_a BK188.out _) 0).trans rfl, (blk_cell (k_a BK188.out _) 1).trans rfl, (blk_cell (k_a BK188.out _) 2).trans rfl, (blk_cell (k_a BK186.out _) 0).trans rfl, (blk_cell (k_a BK186.out _) 1).trans rfl, (blk_cell (k_a BK186.out _) 2).trans rfl⟩ (fun hHeld => ?_)
     clear hK K
     refine no_ (N := some 39) ?_
     refine one_ (i := 7) (N := some 40) (bs_ 10 255) rfl rfl (one_of HT_.out (by kernel_rfl)) (by decide) (fun K hK => ?_)
     refine Kd.R_append_step (Kd.int .i32) (w0 := w) w.heap.size (by rfl) (.tmp 34) (.tmp 39) 22 21 (.int .i32 0) 4 rfl Try.underlying22 info21 rfl (by decide) (by omega) u189002 x189002_2 t189 [.int .i32 t189] (fun _ => True) (fun _ => False) rfl rfl ?aP (fun _ hk => hk.elim) ?aF ?aO ?aB ?aS ?aL ?_
     (case aP => exact rfl)
     (case aB => exact (bw_ HB))
     (case aF => exact (fun _ _ => trivial))
     (case aO => exact (tR_ HO_189002))
     (case aS => exact (below_size (bw_ HB)))
     (case aL => have := LMc15.out; omega)
     intro v191 w18 ho hb hg hat
     rw [← Ny190.out] at ho
     have n0_ := Aside0.mk (blk_grown (tk_ BK186) hg (Kd.R_ne HO_189002.out BK186.out (by decide)))
     have n1_ := Aside0.mk (blk_grown (tk_ BK187) hg (Kd.R_ne HO_189002.out BK187.out (by decide)))
     have n2_ := Aside0.mk (blk_grown (tk_ BK188) hg (Kd.R_ne HO_189002.out BK188.out (by decide)))
     have n3_ := Aside0.mk (hb)
     have n4_ := Aside0.mk (ho)
     clear BK186
     clear BK187
     clear BK188
     clear HB
     clear HO_189002
     have BK186 := n0_
     have BK187 := n1_
     have BK188 := n2_
     have HB := n3_
     have HO192 := n4_
     clear n0_ n1_ n2_ n3_ n4_
     clear ho hb hg hat
     obtain ⟨Ao19, co19, eo19⟩ := Kd.R_slice HO192.out
     (first | subst eo19 | (injection eo19 with f1_ f2_ f3_; have f4_ := f1_.symm; have f5_ := f3_.symm; clear f1_ f2_ f3_; subst f4_; subst f5_))
     refine hK.out _ _ ⟨(blk_cell BK188.out 0).trans rfl, (blk_cell BK188.out 1).trans rfl, (blk_cell BK188.out 2).trans rfl, (blk_cell BK186.out 0).trans rfl, (blk_cell BK186.out 1).trans rfl, (blk_cell BK186.out 2).trans rfl⟩ (fun hHeld => ?_)
     clear hK K
     refine no_ (N := some 40) ?_
     refine pu_ (i := 8) (N := some 41) (bs_ 10 511) rfl rfl HT_ ?_
     refine last_ (i := 9) (N := none) (bs_ 10 1023) rfl rfl (one_of HT_.out (by kernel_rfl)) (by decide) (fun K hK => ?_)
     have hs20 := bc_2 BK188
     have hfs20 := blk_frozen BK188.out 2
     have hns20_0 := NB186_188.out
     have hns20_1 := NB187_188.out
     have hms20_0 := NB188_186.out
     have hms20_1 := NB188_187.out
     refine skip_ (w1 := ?_) (by rfl) rfl ?_ ?_
     rotate_left
     ·
      go_simp
      rfl
     refine hK.out _ _ ?_
     clear hK K
     refine done_ (done_of HT_.out (by kernel_rfl)) ?_
     try go_wp2
     go_roundg k2
     case measure => have := HK1.out; have := HK2.out; omega
     case rel => exact ⟨(wrap64 (x13_2 + 1)), (y190), (.slice Ao19 y190.length co19), (by first | rfl | (simp; done) | (simp [*]; done)), H', ⟨by have := HK1.out; have := HK2.out; omega⟩, ⟨by (with_reducible repeat (first | apply Kd.R_alloc | apply Kd.R_drewN | apply Kd.R_drew)); exact Kd.R_mono (Kd.R_far (p := ⟨gb188, 2, none⟩) (Kd.R_types HO192.out BK188.out (by decide)) (fun _ hk => hk.2) (.slice Ao19 y190.length co19)) (fun _ hk => trivial)⟩, ⟨by (with_reducible repeat (first | refine k_n ?_ _ | refine k_d ?_ | refine k_a ?_ _)); refine blk_far ?_ NB186_188.out _; (with_reducible repeat (first | refine k_n ?_ _ | refine k_d ?_ | refine k_a ?_ _)); exact BK186.out⟩, ⟨by (with_reducible repeat (first | refine k_n ?_ _ | refine k_d ?_ | refine k_a ?_ _)); refine blk_far ?_ NB187_188.out _; (with_reducible repeat (first | refine k_n ?_ _ | refine k_d ?_ | refine k_a ?_ _)); exact BK187.out⟩, ⟨by (with_reducible repeat (first | refine k_n ?_ _ | refine k_d ?_ | refine k_a ?_ _)); refine blk_put (cs := #[.int .i64 (wrap64 (a2 - a1)), .int .i64 (wrap64 (a4 - a3)), u189002]) ?_ 2 _ rfl; (with_reducible repeat (first | refine k_n ?_ _ | refine k_d ?_ | refine k_a ?_ _)); exact BK188.out⟩, ⟨by repeat (first | (with_reducible first | exact HB.out | apply b_a | apply b_n | apply b_d | refine b_s ?_ GE186.out | refine b_s ?_ GE187.out | refine b_s ?_ GE188.out) | exact HB.out)⟩⟩
end Go.Proofs.Ytggcgacndknlaaa.QGridCuts
