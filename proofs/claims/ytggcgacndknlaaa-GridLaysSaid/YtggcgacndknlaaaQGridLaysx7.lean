-- Written by a program of this session (a turned copy of the print) out of the translation. Lean checks it.
import Derived.Test.YtggcgacndknlaaaQGridLaysx0
import Derived.Test.YtggcgacndknlaaaQGridLaysx6
namespace Go.Proofs.Ytggcgacndknlaaa.QGridLays
open Go.RowKit Go.Proofs.YtggcgacndknlaaaW.PrintWords Go.Proofs.YtggcgacndknlaaaW.PrintLast Go.Proofs.YtggcgacndknlaaaW.PrintMore
attribute [local go_sem] max2_int min2_int max_two min_two max_three min_three max_four min_four   -- for this text's walks alone
open Go.Proofs.YtggcgacndknlaaaW.PrintWords renaming below_alloc → b_a, pw_below_drewN → b_n, below_drew1 → b_d, below_set → b_s, blk_drewN → k_n, blk_drew → k_d, blk_alloc → k_a
open List renaming setIfInBounds_toArray → l_1, set_cons_zero → l_2, set_cons_succ → l_3, map_toArray → l_4, map_cons → l_5, map_nil → l_6, length_drop → l_7, length_take → l_8
set_option linter.unusedVariables false
set_option linter.unusedSimpArgs false

/-! ### pelotonref03_Stack: function 27 -/
mutual
def pelotonref03_Stack.l0 : Nat → List (S24) → Int → Int → Int → List Int → Option (Int × Int × List Int × Bool)
 | 0, _, _, _, _, _ => none
 | k + 1, x0, x5, x187000, x187001, x187002 => if x5 < (x0.length : Int) then (if 0 ≤ x5 then ((pelotonref03_Fit.f ((rd_T24 x0 x5).f0) ((rd_T24 x0 x5).f1) ((rd_T24 x0 x5).f2)).bind fun t188 => (if t188 = true then (if x5 > 0 then (if 0 < (x0.length : Int) then (pelotonref03_Stack.j1 k x0 x5 (((rd_T24 x0 x5).f1) != ((rd_T24 x0 0).f1)) x187000 x187001 x187002) else (none)) else (pelotonref03_Stack.j1 k x0 x5 false x187000 x187001 x187002)) else (pelotonref03_Stack.j1 k x0 x5 true x187000 x187001 x187002))) else (none)) else (some (x187000, x187001, x187002, true))
def pelotonref03_Stack.j1 : Nat → List (S24) → Int → Bool → Int → Int → List Int → Option (Int × Int × List Int × Bool)
 | 0, _, _, _, _, _, _ => none
 | k + 1, x0, x5, x34, x187000, x187001, x187002 => if x34 = true then (some (0, 0, ([] : List Int), false)) else (if 0 ≤ x5 then (if x5 < (x0.length : Int) then (if x187002.length + ((rd_T24 x0 x5).f2).length < 35184372088832 then ((some (x187002 ++ ((rd_T24 x0 x5).f2) : List Int)).bind fun y194 => ((pelotonref03_Fit.f (wrap64 (x187000 + ((rd_T24 x0 x5).f0))) ((rd_T24 x0 x5).f1) y194).bind fun t197 => (if t197 = true then (pelotonref03_Stack.l0 k x0 (wrap64 (x5 + 1)) (wrap64 (x187000 + ((rd_T24 x0 x5).f0))) ((rd_T24 x0 x5).f1) y194) else (some (0, 0, ([] : List Int), false))))) else (none)) else (none)) else (none))
end
def pelotonref03_Stack.f (k : Nat) (l0 : List (S24)) : Option (Int × Int × List Int × Bool) := pelotonref03_Stack.l0 k l0 0 0 0 ([] : List Int)
theorem pelotonref03_Stack.mono_l : ∀ k, (∀ y0 y1 y2 y3 y4, LeO (pelotonref03_Stack.l0 k y0 y1 y2 y3 y4) (pelotonref03_Stack.l0 (k + 1) y0 y1 y2 y3 y4)) ∧ (∀ y0 y1 y2 y3 y4 y5, LeO (pelotonref03_Stack.j1 k y0 y1 y2 y3 y4 y5) (pelotonref03_Stack.j1 (k + 1) y0 y1 y2 y3 y4 y5))
 | 0 => ⟨fun _ _ _ _ _ r h => by simp [pelotonref03_Stack.l0] at h, fun _ _ _ _ _ _ r h => by simp [pelotonref03_Stack.j1] at h⟩
 | k + 1 => by
  obtain ⟨ih0, ih1⟩ := pelotonref03_Stack.mono_l k
  refine ⟨?_, ?_⟩
  ·
   intro y0 y1 y2 y3 y4
   unfold pelotonref03_Stack.l0
   repeat' first
   | (with_reducible exact ih0 _ _ _ _ _)
   | (with_reducible exact ih1 _ _ _ _ _ _)
   | (with_reducible exact LeO.refl _)
   | (with_reducible exact LeO.none _)
   | (with_reducible refine LeO.ite ?_ ?_)
   | (with_reducible refine LeO.bind ?_ (fun _ => ?_))
   | exact ih0 _ _ _ _ _
   | exact ih1 _ _ _ _ _ _
   | exact LeO.none _
   | refine LeO.ite ?_ ?_
   | refine LeO.bind ?_ (fun _ => ?_)
  ·
   intro y0 y1 y2 y3 y4 y5
   unfold pelotonref03_Stack.j1
   repeat' first
   | (with_reducible exact ih0 _ _ _ _ _)
   | (with_reducible exact ih1 _ _ _ _ _ _)
   | (with_reducible exact LeO.refl _)
   | (with_reducible exact LeO.none _)
   | (with_reducible refine LeO.ite ?_ ?_)
   | (with_reducible refine LeO.bind ?_ (fun _ => ?_))
   | exact ih0 _ _ _ _ _
   | exact ih1 _ _ _ _ _ _
   | exact LeO.none _
   | refine LeO.ite ?_ ?_
   | refine LeO.bind ?_ (fun _ => ?_)
theorem pelotonref03_Stack.mono : ∀ a0 k, LeO (pelotonref03_Stack.f k a0) (pelotonref03_Stack.f (k + 1) a0) := by
 intro a0 k
 obtain ⟨ih0, ih1⟩ := pelotonref03_Stack.mono_l k
 unfold pelotonref03_Stack.f
 repeat' first
   | (with_reducible exact ih0 _ _ _ _ _)
   | (with_reducible exact ih1 _ _ _ _ _ _)
   | (with_reducible exact LeO.refl _)
   | (with_reducible exact LeO.none _)
   | (with_reducible refine LeO.ite ?_ ?_)
   | (with_reducible refine LeO.bind ?_ (fun _ => ?_))
   | exact ih0 _ _ _ _ _
   | exact ih1 _ _ _ _ _ _
   | exact LeO.none _
   | refine LeO.ite ?_ ?_
   | refine LeO.bind ?_ (fun _ => ?_)
def pelotonref03_Stack.T5 : Bool × List (List Nat × List Nat) := (true, [([], []), ([], []), ([0, 1], [0, 1]), ([2], [2]), ([3], [3]), ([4], [4]), ([5, 4], [5]), ([6], [6]), ([7, 6], [6, 7]), ([8, 6, 6], [6, 8]), ([9], [9]), ([9], [9]), ([10, 11, 9], [9, 10, 11]), ([12, 9], [9, 12]), ([13, 9], [9, 13]), ([9], [9]), ([15, 9], [9, 15]), ([16, 9], [9, 16]), ([17, 9], [9, 17]), ([14, 18, 9], [9, 14, 18]), ([9, 19, 6], [6, 9, 19]), ([6, 20], [6, 20])])
def pelotonref03_Stack.B5 : List Nat := [0, 0, 3, 7, 15, 31, 63, 127, 255, 511, 1023, 1023, 4095, 8191, 16383, 1023, 33791, 99327, 230399, 524287, 1048575, 2097151]
theorem pelotonref03_Stack.tab5 : rtab .any (opsOf Try.f27 5) = pelotonref03_Stack.T5 := by kernel_rfl
theorem pelotonref03_Stack.bits5 : waitsOk pelotonref03_Stack.T5.2 pelotonref03_Stack.B5 = true := by kernel_rfl
def pelotonref03_Stack.T7 : Bool × List (List Nat × List Nat) := (true, [([], []), ([0], [0]), ([], []), ([], []), ([2, 3], [2, 3]), ([4], [4]), ([5], [5]), ([1, 6], [1, 6]), ([0, 1, 2, 3, 4, 5, 6, 7], []), ([8, 7, 0, 1, 2, 3, 4, 5, 6, 7], [7, 8])])
def pelotonref03_Stack.B7 : List Nat := [0, 1, 0, 0, 12, 28, 60, 127, 255, 511]
theorem pelotonref03_Stack.tab7 : rtab .any (opsOf Try.f27 7) = pelotonref03_Stack.T7 := by kernel_rfl
theorem pelotonref03_Stack.bits7 : waitsOk pelotonref03_Stack.T7.2 pelotonref03_Stack.B7 = true := by kernel_rfl
def pelotonref03_Stack.T9 : Bool × List (List Nat × List Nat) := (true, [([], []), ([0], [0]), ([], []), ([], []), ([2, 3], [2, 3]), ([4], [4]), ([5], [5]), ([1, 6], [1, 6]), ([0, 1, 2, 3, 4, 5, 6, 7], []), ([8, 7, 7, 0, 1, 2, 3, 4, 5, 6, 7], [7, 8])])
def pelotonref03_Stack.B9 : List Nat := [0, 1, 0, 0, 12, 28, 60, 127, 255, 511]
theorem pelotonref03_Stack.tab9 : rtab .any (opsOf Try.f27 9) = pelotonref03_Stack.T9 := by kernel_rfl
theorem pelotonref03_Stack.bits9 : waitsOk pelotonref03_Stack.T9.2 pelotonref03_Stack.B9 = true := by kernel_rfl
set_option maxHeartbeats 60000000 in
set_option maxRecDepth 100000 in
theorem pelotonref03_Stack.calls (k : Nat) (A0 : Option Addr) (c0 : Nat) (l0 : List (S24)) (r1 : Int) (r2 : Int) (r3 : List Int) (r4 : Bool) (w : World) (hr0 : Kd.C k24 w A0 l0.length l0) (hc0 : l0.length ≤ c0) (h : pelotonref03_Stack.f k l0 = some (r1, r2, r3, r4)) :
  Calls Try.prog 27 #[.slice A0 l0.length c0] w fun e w' => ∃ v2_ : Value, e = .returned (.tuple #[.agg #[.int .i64 r1, .int .i64 r2, v2_], .bool r4]) ∧ Kd.R (Kd.int .i32) 21 w' w.heap.size (fun _ => True) v2_ r3 ∧ Below w.heap.size w w' := by
 have hu24 := Try.underlying24
 have HR0 := Aside0.mk hr0
 have HC0 := Aside0.mk hc0
 clear hr0 hc0
 have HB := Aside0.mk (Below.refl w.heap.size w)
 have H : (pelotonref03_Stack.l0 k l0 0 0 0 ([] : List Int)) = some (r1, r2, r3, r4) := h
 clear h
 have H' := Aside0.mk H
 clear H
 go_enter Try.func27, Try.ntmps27
 go_wp2_with (first | ((with_reducible refine gate_dst (N := 2) rfl ?_); refine box_event ?hg (N := 2) ?hd (cs := #[.int .i64 0, .int .i64 0, .slice none 0 0]) (t := 24) ?hr ?_; (case hd => rfl); (case hg => rfl); (case hr => first | (go_simp; done) | (go_simp; rfl)); intro gb185 hg w2 hbox hb; have BK185 := Aside0.mk (hbox); have GW185 := Aside0.mk ((by rw [hg]; exact (below_size (bw_ HB)) : w.heap.size ≤ gb185)); have GE185 := Aside0.mk ((by rw [hg]; exact (below_size (bw_ HB)) : w.heap.size ≤ gb185)); replace HB := Aside0.mk (below_step (bw_ HB) hb); clear hb hbox hg) | ((with_reducible refine gate_dst (N := 4) rfl ?_); refine box_event ?hg (N := 4) ?hd (cs := #[.int .i64 0, .int .i64 0, .slice none 0 0]) (t := 24) ?hr ?_; (case hd => rfl); (case hg => rfl); (case hr => first | (go_simp; done) | (go_simp; rfl)); intro gb186 hg w3 hbox hb; have BK186 := Aside0.mk (hbox); have GW186 := Aside0.mk ((by rw [hg]; exact (below_size (bw_ HB)) : w.heap.size ≤ gb186)); have GE186 := Aside0.mk ((by rw [hg]; exact (below_size (bw_ HB)) : w.heap.size ≤ gb186)); have NB185_186 := Aside0.mk ((by rw [hg]; exact Nat.ne_of_lt (blk_lt (tk_ BK185)) : gb185 ≠ gb186)); have NB186_185 := Aside0.mk ((by rw [hg]; exact Nat.ne_of_gt (blk_lt (tk_ BK185)) : gb186 ≠ gb185)); replace BK185 := Aside0.mk (blk_below (tk_ BK185) hb); replace HB := Aside0.mk (below_step (bw_ HB) hb); clear hb hbox hg; have hnb4 := NB186_185.out; have hnc4 := NB185_186.out; have hcz5_0 := bc_0 BK186; have hcz5_1 := bc_1 BK186; have hcz5_2 := bc_2 BK186; have hfz5_0 := blk_frozen BK186.out 0; have hfz5_1 := blk_frozen BK186.out 1; have hfz5_2 := blk_frozen BK186.out 2))
 go_loopg [5] k (fun kq v5 w' => ∃ (x5_1 : Int) (x186000_1 : Int) (x186001_1 : Int) (x187000_1 : Int) (x187001_1 : Int) (x187002_1 : List Int) (u187002 : Value), v5 = .int .i64 x5_1 ∧ Aside0 (pelotonref03_Stack.l0 kq l0 x5_1 x187000_1 x187001_1 x187002_1 = some (r1, r2, r3, r4)) ∧ Aside0 (kq ≤ k) ∧ Aside0 (Kd.R (Kd.int .i32) 21 w' w.heap.size (fun _ => True) u187002 x187002_1) ∧ Aside0 (w'.heap[gb185]? = some (.cells #[.int .i64 x186000_1, .int .i64 x186001_1, (.slice none 0 0)] 24 (0, 0))) ∧ Aside0 (w'.heap[gb186]? = some (.cells #[.int .i64 x187000_1, .int .i64 x187001_1, u187002] 24 (0, 0))) ∧ Aside0 (Below w.heap.size w w'))
 case atStart => exact ⟨(0), (0), (0), (0), (0), (([] : List Int)), (.slice none 0 0), (by first | rfl | (simp; done) | (simp [*]; done)), H', ⟨Nat.le_refl _⟩, ⟨by first | exact Kd.R_nil _ _ _ _ _ | exact Kd.N_nil _ _ _ _ _ | exact Kd.V_nil _ _ _ _ _ | exact Kd.Q_nil _ _ _ _ _ | exact Kd.S_nil _ _ _ _ _⟩, ⟨by (with_reducible repeat (first | refine k_n ?_ _ | refine k_d ?_ | refine k_a ?_ _)); refine blk_far ?_ NB185_186.out _; (with_reducible repeat (first | refine k_n ?_ _ | refine k_d ?_ | refine k_a ?_ _)); refine blk_far ?_ NB185_186.out _; (with_reducible repeat (first | refine k_n ?_ _ | refine k_d ?_ | refine k_a ?_ _)); refine blk_far ?_ NB185_186.out _; (with_reducible repeat (first | refine k_n ?_ _ | refine k_d ?_ | refine k_a ?_ _)); exact BK185.out⟩, ⟨by (with_reducible repeat (first | refine k_n ?_ _ | refine k_d ?_ | refine k_a ?_ _)); refine blk_put (cs := #[.int .i64 0, .int .i64 0, .slice none 0 0]) ?_ 2 _ rfl; (with_reducible repeat (first | refine k_n ?_ _ | refine k_d ?_ | refine k_a ?_ _)); refine blk_put (cs := #[.int .i64 0, .int .i64 0, .slice none 0 0]) ?_ 1 _ rfl; (with_reducible repeat (first | refine k_n ?_ _ | refine k_d ?_ | refine k_a ?_ _)); refine blk_put (cs := #[.int .i64 0, .int .i64 0, .slice none 0 0]) ?_ 0 _ rfl; (with_reducible repeat (first | refine k_n ?_ _ | refine k_d ?_ | refine k_a ?_ _)); exact BK186.out⟩, ⟨by repeat (first | (with_reducible first | exact HB.out | apply b_a | apply b_n | apply b_d | refine b_s ?_ GE185.out | refine b_s ?_ GE186.out) | exact HB.out)⟩⟩
 case round =>
  clear H'
  try clear c2
  try clear p2
  try clear c4
  try clear hcz5_0
  try clear hcz5_1
  try clear hcz5_2
  try clear hfz5_0
  try clear hfz5_1
  try clear hfz5_2
  obtain ⟨x5_1, x186000_1, x186001_1, x187000_1, x187001_1, x187002_1, u187002, rfl, HA, HK1, HO_187002, BK185, BK186, HB⟩ := hrel
  cases gk with
  | zero => exact absurd HA.out (by simp [pelotonref03_Stack.l0])
  | succ k1 =>
   have H := HA.out
   clear HA
   simp only [pelotonref03_Stack.l0] at H
   by_cases c6 : x5_1 < (l0.length : Int)
   rotate_left
   ·
    rw [if_neg c6] at H
    have c6b0 : decide (x5_1 < (l0.length : Int)) = false := decide_eq_false c6
    clear c6
    simp only [Option.some.injEq, Prod.mk.injEq] at H
    obtain ⟨rfl, rfl, rfl, rfl⟩ := H
    have hnb40 := NB186_185.out
    have hnc40 := NB185_186.out
    have hcz41_0 := bc_0 BK186
    have hcz41_1 := bc_1 BK186
    have hcz41_2 := bc_2 BK186
    have hfz41_0 := blk_frozen BK186.out 0
    have hfz41_1 := blk_frozen BK186.out 1
    have hfz41_2 := blk_frozen BK186.out 2
    have hcz42_0 := bc_0 BK185
    have hcz42_1 := bc_1 BK185
    have hcz42_2 := bc_2 BK185
    have hfz42_0 := blk_frozen BK185.out 0
    have hfz42_1 := blk_frozen BK185.out 1
    have hfz42_2 := blk_frozen BK185.out 2
    obtain ⟨Ao43, co43, eo43⟩ := Kd.R_slice HO_187002.out
    subst eo43
    go_wp2
    refine bodyPost_ret (results_ct rfl _ _ gb185 24 #[.int .i64 x187000_1, .int .i64 x187001_1, .slice Ao43 x187002_1.length co43] (0, 0) _ rfl (by (with_reducible repeat (first | refine k_n ?_ _ | refine k_d ?_ | refine k_a ?_ _)); refine blk_put (cs := #[.int .i64 x187000_1, .int .i64 x187001_1, .slice none 0 0]) ?_ 2 _ rfl; (with_reducible repeat (first | refine k_n ?_ _ | refine k_d ?_ | refine k_a ?_ _)); refine blk_put (cs := #[.int .i64 x187000_1, .int .i64 x186001_1, .slice none 0 0]) ?_ 1 _ rfl; (with_reducible repeat (first | refine k_n ?_ _ | refine k_d ?_ | refine k_a ?_ _)); refine blk_put (cs := #[.int .i64 x186000_1, .int .i64 x186001_1, .slice none 0 0]) ?_ 0 _ rfl; (with_reducible repeat (first | refine k_n ?_ _ | refine k_d ?_ | refine k_a ?_ _)); exact BK185.out) Try.underlying24 rfl (by kernel_rfl)) rfl ?_
    exact ⟨_, by first | rfl | (simp [errW_none, errW_some] <;> rfl) | (simp [*, errW_none, errW_some] <;> rfl), by (with_reducible repeat (first | apply Kd.R_alloc | apply Kd.R_drewN | apply Kd.R_drew)); exact Kd.R_mono (Kd.R_far (p := ⟨gb185, 2, none⟩) (Kd.R_far (p := ⟨gb185, 1, none⟩) (Kd.R_far (p := ⟨gb185, 0, none⟩) (Kd.R_types HO_187002.out BK185.out (by decide)) (fun _ hk => hk.2) (.int .i64 x187000_1)) (fun _ hk => hk.2) (.int .i64 x187001_1)) (fun _ hk => hk.2) (.slice Ao43 x187002_1.length co43)) (fun _ hk => trivial), by repeat (first | (with_reducible first | exact HB.out | apply b_a | apply b_n | apply b_d | refine b_s ?_ GE185.out | refine b_s ?_ GE186.out) | exact HB.out)⟩

   rw [if_pos c6] at H
   have c6b0 : decide (x5_1 < (l0.length : Int)) = true := decide_eq_true c6
   clear c6
   have HC7 := Aside0.mk H
   clear H
   go_upto_region 5 with (fail)
   go_cut [34] (fun v34 wc => ∃ (kq : Nat) (x34_6 : Bool), v34 = .bool x34_6 ∧ Aside0 (pelotonref03_Stack.j1 kq l0 x5_1 x34_6 x187000_1 x187001_1 x187002_1 = some (r1, r2, r3, r4)) ∧ Aside0 (kq ≤ k1) ∧ Aside0 (Kd.R (Kd.int .i32) 21 wc w.heap.size (fun _ => True) u187002 x187002_1) ∧ Aside0 (wc.heap[gb185]? = some (.cells #[.int .i64 x186000_1, .int .i64 x186001_1, (.slice none 0 0)] 24 (0, 0))) ∧ Aside0 (wc.heap[gb186]? = some (.cells #[.int .i64 x187000_1, .int .i64 x187001_1, u187002] 24 (0, 0))) ∧ Aside0 (Below w.heap.size w wc))
   case first =>
    have H := HC7.out
    clear HC7
    by_cases c8 : 0 ≤ x5_1
    rotate_left
    ·
     rw [if_neg c8] at H
     exact absurd H (by simp)
    rw [if_pos c8] at H
    have c8b0 : decide (0 ≤ x5_1) = true := decide_eq_true c8
    clear c8
    (first | rw [c8b0] | (simp only [i64_w, i32_w]; rw [c8b0]) | skip)
    replace H := Option.bind_eq_some_iff.mp H
    obtain ⟨t188, A90, H⟩ := H
    replace H : (if t188 = true then (if x5_1 > 0 then (if 0 < (l0.length : Int) then (pelotonref03_Stack.j1 k1 l0 x5_1 (((rd_T24 l0 x5_1).f1) != ((rd_T24 l0 0).f1)) x187000_1 x187001_1 x187002_1) else (none)) else (pelotonref03_Stack.j1 k1 l0 x5_1 false x187000_1 x187001_1 x187002_1)) else (pelotonref03_Stack.j1 k1 l0 x5_1 true x187000_1 x187001_1 x187002_1)) = some (r1, r2, r3, r4) := H
    have A9 := Aside0.mk A90
    clear A90
    by_cases c10 : t188 = true
    rotate_left
    ·
     replace c10 := Bool.eq_false_iff.mpr c10
     subst c10
     have H1 : (pelotonref03_Stack.j1 k1 l0 x5_1 true x187000_1 x187001_1 x187002_1) = some (r1, r2, r3, r4) := by rw [if_neg (show ¬ (false = true) by decide)] at H; exact H
     clear H
     have H := H1
     clear H1
     have H' := Aside0.mk H
     clear H
     try go_wp2
     replace HO_187002 := Aside0.mk (Kd.R_drew HO_187002.out)
     replace BK185 := Aside0.mk (k_d BK185.out)
     replace BK186 := Aside0.mk (k_d BK186.out)
     replace HB := Aside0.mk (b_d HB.out)
     have p187 : 0 ≤ (x5_1 : Int) := of_decide_eq_true (by first | (with_reducible assumption) | assumption)
     have q187 : x5_1 < (l0.length : Int) := of_decide_eq_true (by first | (with_reducible assumption) | assumption)
     obtain ⟨ad187, A187_2, c187_2, e187, hx187_0, hx187_1, hx187_2, hl187_2, hi187_2⟩ := at_T24 HR0.out x5_1 p187 q187
     have hw187_2 := hx187_2
     have hw187_1 := hx187_1
     have hw187_0 := hx187_0
     cases e187
     replace hx187_0 := cb_ HB hx187_0
     replace hx187_1 := cb_ HB hx187_1
     replace hx187_2 := cb_ HB hx187_2
     have HR187_2 := Aside0.mk hi187_2
     have HC187_2 := Aside0.mk hl187_2
     clear hi187_2 hl187_2
     replace p187 := eq_true p187
     replace q187 := eq_true q187
     refine start_ (n := 22) (S := fun w' => w'.cell? (ad187.add ((x5_1).toNat * 3)) = some (.int .i64 ((rd_T24 l0 x5_1).f0)) ∧ w'.cell? ⟨(ad187.add ((x5_1).toNat * 3)).block, (ad187.add ((x5_1).toNat * 3)).off + 1, none⟩ = some (.int .i64 ((rd_T24 l0 x5_1).f1)) ∧ w'.cell? ⟨(ad187.add ((x5_1).toNat * 3)).block, (ad187.add ((x5_1).toNat * 3)).off + 2, none⟩ = some (.slice A187_2 ((rd_T24 l0 x5_1).f2).length c187_2)) (ds := []) #[false, false, false, false, false, false, false, false, false, false, false, false, false, false, false, false, false, false, false, false, false, false] (by kernel_rfl) rfl rfl ⟨(cb_ HB hw187_0), (cb_ HB hw187_1), (cb_ HB hw187_2)⟩ (fun hHeld => ?_); refine with_tabW pelotonref03_Stack.tab5 pelotonref03_Stack.bits5 (fun HT_ HW_ => ?_)
     generalize wr.drew = w17 at HO_187002 BK185 BK186 HB HR187_2 hx187_0 hx187_1 hx187_2 hHeld ⊢
     refine pu_ (i := 0) (N := some 13) (bs_ 22 1) rfl rfl HT_ ?_
     refine pu_ (i := 1) (N := some 14) (bs_ 22 3) rfl rfl HT_ ?_
     refine pu_ (i := 2) (N := some 15) (bs_ 22 7) rfl rfl HT_ ?_
     refine take_ (i := 3) (N := some 16) (v := ?_) (a' := ?_) (bs_ 22 15) rfl rfl (take_ofW HT_.out HW_.out (by kernel_rfl)) (fun _ _ _ h => h) (Or.inl ⟨by rfl, ?_⟩) hHeld ?_ ?_
     rotate_left
     ·
      rintro w' ⟨s0, s1, s2⟩
      go_simp
      with_reducible rfl
     rotate_left
     ·
      simp only [Act.put, l_1, l_2, l_3, i64_w, i32_w]
      rfl
     refine one_ (i := 4) (N := some 17) (bs_ 22 31) rfl rfl (one_of HT_.out (by kernel_rfl)) (by decide) (fun K hK => ?_)
     refine goes_ Try.func32 (by kernel_rfl) rfl #[.agg #[.int .i64 ((rd_T24 l0 x5_1).f0), .int .i64 ((rd_T24 l0 x5_1).f1), .slice A187_2 ((rd_T24 l0 x5_1).f2).length c187_2]] (by rfl) rfl rfl (by (try simp only [l_4, l_5, l_6]); first | done | rfl | (simp only [l_7, l_8]; rfl)) ?_
     with_reducible refine (pelotonref03_Fit.calls ((rd_T24 l0 x5_1).f0) ((rd_T24 l0 x5_1).f1) _ _ ((rd_T24 l0 x5_1).f2) false _ ?side1 ?side2 A9.out).mono ?_
     (case side1 => repeat (first | exact (Kd.C_below HR187_2.out HB.out) | (with_reducible refine Kd.C_alloc ?_ _) | (with_reducible refine Kd.C_drewN ?_ _) | (with_reducible refine Kd.C_drew ?_)))
     (case side2 => exact HC187_2.out)
     rintro e w18 ⟨rfl, hb⟩
     refine ⟨_, rfl, ?_⟩
     replace HO_187002 := Aside0.mk (Kd.R_below (tR_ HO_187002) hb)
     replace BK185 := Aside0.mk (blk_below (tk_ BK185) hb)
     replace BK186 := Aside0.mk (blk_below (tk_ BK186) hb)
     replace HB := Aside0.mk (below_step (bw_ HB) hb)
     (try clear hb)
     (try clear hb2)
     (try clear hk)
     (try clear hi)
     refine hK.out _ _ ⟨(cb_ HB hw187_0), (cb_ HB hw187_1), (cb_ HB hw187_2)⟩ (fun hHeld => ?_)
     clear hK K
     refine no_ (N := some 17) ?_
     refine pu_ (i := 5) (N := some 18) (bs_ 22 63) rfl rfl HT_ ?_
     refine pu_ (i := 6) (N := some 19) (bs_ 22 127) rfl rfl HT_ ?_
     refine pn_ (i := 7) (N := some 20) (bs_ 22 255) rfl rfl HT_ ?_
     refine pn_ (i := 8) (N := some 21) (bs_ 22 511) rfl rfl HT_ ?_
     refine pn_ (i := 9) (N := some 22) (bs_ 22 1023) rfl rfl HT_ ?_
     refine pn_ (i := 10) (N := some 23) (bs_ 22 2047) rfl rfl HT_ ?_
     refine pn_ (i := 11) (N := some 24) (bs_ 22 4095) rfl rfl HT_ ?_
     refine pn_ (i := 12) (N := some 25) (bs_ 22 8191) rfl rfl HT_ ?_
     refine pn_ (i := 13) (N := some 26) (bs_ 22 16383) rfl rfl HT_ ?_
     refine pn_ (i := 14) (N := some 27) (bs_ 22 32767) rfl rfl HT_ ?_
     refine pn_ (i := 15) (N := some 28) (bs_ 22 65535) rfl rfl HT_ ?_
     refine pn_ (i := 16) (N := some 29) (bs_ 22 131071) rfl rfl HT_ ?_
     refine pn_ (i := 17) (N := some 30) (bs_ 22 262143) rfl rfl HT_ ?_
     refine pn_ (i := 18) (N := some 31) (bs_ 22 524287) rfl rfl HT_ ?_
     refine pn_ (i := 19) (N := some 32) (bs_ 22 1048575) rfl rfl HT_ ?_
     refine pn_ (i := 20) (N := some 33) (bs_ 22 2097151) rfl rfl HT_ ?_
     refine pu_ (i := 21) (N := some 34) (bs_ 22 4194303) rfl rfl HT_ ?_
     refine done_ (done_of HT_.out (by kernel_rfl)) ?_
     try go_wp2
     go_meet
     case rel => exact ⟨_, (true), (by first | rfl | (simp; done) | (simp [*]; done)), H', ⟨by have := HK1.out; first | omega | exact Nat.le_refl _⟩, ⟨tR_ HO_187002⟩, ⟨tk_ BK185⟩, ⟨tk_ BK186⟩, ⟨by repeat (first | (with_reducible first | exact HB.out | apply b_a | apply b_n | apply b_d | refine b_s ?_ GE185.out | refine b_s ?_ GE186.out) | exact HB.out)⟩⟩
    subst c10
    have H1 : (if x5_1 > 0 then (if 0 < (l0.length : Int) then (pelotonref03_Stack.j1 k1 l0 x5_1 (((rd_T24 l0 x5_1).f1) != ((rd_T24 l0 0).f1)) x187000_1 x187001_1 x187002_1) else (none)) else (pelotonref03_Stack.j1 k1 l0 x5_1 false x187000_1 x187001_1 x187002_1)) = some (r1, r2, r3, r4) := by rw [if_pos rfl] at H; exact H
    clear H
    have H := H1
    clear H1
    by_cases c11 : x5_1 > 0
    rotate_left
    ·
     rw [if_neg c11] at H
     have c11b0 : decide (0 < x5_1) = false := decide_eq_false c11
     clear c11
     have H' := Aside0.mk H
     clear H
     try go_wp2
     replace HO_187002 := Aside0.mk (Kd.R_drew HO_187002.out)
     replace BK185 := Aside0.mk (k_d BK185.out)
     replace BK186 := Aside0.mk (k_d BK186.out)
     replace HB := Aside0.mk (b_d HB.out)
     have p187 : 0 ≤ (x5_1 : Int) := of_decide_eq_true (by first | (with_reducible assumption) | assumption)
     have q187 : x5_1 < (l0.length : Int) := of_decide_eq_true (by first | (with_reducible assumption) | assumption)
     obtain ⟨ad187, A187_2, c187_2, e187, hx187_0, hx187_1, hx187_2, hl187_2, hi187_2⟩ := at_T24 HR0.out x5_1 p187 q187
     have hw187_2 := hx187_2
     have hw187_1 := hx187_1
     have hw187_0 := hx187_0
     cases e187
     replace hx187_0 := cb_ HB hx187_0
     replace hx187_1 := cb_ HB hx187_1
     replace hx187_2 := cb_ HB hx187_2
     have HR187_2 := Aside0.mk hi187_2
     have HC187_2 := Aside0.mk hl187_2
     clear hi187_2 hl187_2
     replace p187 := eq_true p187
     replace q187 := eq_true q187
     refine start_ (n := 22) (S := fun w' => w'.cell? (ad187.add ((x5_1).toNat * 3)) = some (.int .i64 ((rd_T24 l0 x5_1).f0)) ∧ w'.cell? ⟨(ad187.add ((x5_1).toNat * 3)).block, (ad187.add ((x5_1).toNat * 3)).off + 1, none⟩ = some (.int .i64 ((rd_T24 l0 x5_1).f1)) ∧ w'.cell? ⟨(ad187.add ((x5_1).toNat * 3)).block, (ad187.add ((x5_1).toNat * 3)).off + 2, none⟩ = some (.slice A187_2 ((rd_T24 l0 x5_1).f2).length c187_2)) (ds := []) #[false, false, false, false, false, false, false, false, false, false, false, false, false, false, false, false, false, false, false, false, false, false] (by kernel_rfl) rfl rfl ⟨(cb_ HB hw187_0), (cb_ HB hw187_1), (cb_ HB hw187_2)⟩ (fun hHeld => ?_); refine with_tabW pelotonref03_Stack.tab5 pelotonref03_Stack.bits5 (fun HT_ HW_ => ?_)
     generalize wr.drew = w15 at HO_187002 BK185 BK186 HB HR187_2 hx187_0 hx187_1 hx187_2 hHeld ⊢
     refine pu_ (i := 0) (N := some 13) (bs_ 22 1) rfl rfl HT_ ?_
     refine pu_ (i := 1) (N := some 14) (bs_ 22 3) rfl rfl HT_ ?_
     refine pu_ (i := 2) (N := some 15) (bs_ 22 7) rfl rfl HT_ ?_
     refine take_ (i := 3) (N := some 16) (v := ?_) (a' := ?_) (bs_ 22 15) rfl rfl (take_ofW HT_.out HW_.out (by kernel_rfl)) (fun _ _ _ h => h) (Or.inl ⟨by rfl, ?_⟩) hHeld ?_ ?_
     rotate_left
     ·
      rintro w' ⟨s0, s1, s2⟩
      go_simp
      with_reducible rfl
     rotate_left
     ·
      simp only [Act.put, l_1, l_2, l_3, i64_w, i32_w]
      rfl
     refine one_ (i := 4) (N := some 17) (bs_ 22 31) rfl rfl (one_of HT_.out (by kernel_rfl)) (by decide) (fun K hK => ?_)
     refine goes_ Try.func32 (by kernel_rfl) rfl #[.agg #[.int .i64 ((rd_T24 l0 x5_1).f0), .int .i64 ((rd_T24 l0 x5_1).f1), .slice A187_2 ((rd_T24 l0 x5_1).f2).length c187_2]] (by rfl) rfl rfl (by (try simp only [l_4, l_5, l_6]); first | done | rfl | (simp only [l_7, l_8]; rfl)) ?_
     with_reducible refine (pelotonref03_Fit.calls ((rd_T24 l0 x5_1).f0) ((rd_T24 l0 x5_1).f1) _ _ ((rd_T24 l0 x5_1).f2) true _ ?side1 ?side2 A9.out).mono ?_
     (case side1 => repeat (first | exact (Kd.C_below HR187_2.out HB.out) | (with_reducible refine Kd.C_alloc ?_ _) | (with_reducible refine Kd.C_drewN ?_ _) | (with_reducible refine Kd.C_drew ?_)))
     (case side2 => exact HC187_2.out)
     rintro e w16 ⟨rfl, hb⟩
     refine ⟨_, rfl, ?_⟩
     replace HO_187002 := Aside0.mk (Kd.R_below (tR_ HO_187002) hb)
     replace BK185 := Aside0.mk (blk_below (tk_ BK185) hb)
     replace BK186 := Aside0.mk (blk_below (tk_ BK186) hb)
     replace HB := Aside0.mk (below_step (bw_ HB) hb)
     (try clear hb)
     (try clear hb2)
     (try clear hk)
     (try clear hi)
     refine hK.out _ _ ⟨(cb_ HB hw187_0), (cb_ HB hw187_1), (cb_ HB hw187_2)⟩ (fun hHeld => ?_)
     clear hK K
     refine no_ (N := some 17) ?_
     refine pu_ (i := 5) (N := some 18) (bs_ 22 63) rfl rfl HT_ ?_
     refine pu_ (i := 6) (N := some 19) (bs_ 22 127) rfl rfl HT_ ?_
     refine pu_ (i := 7) (N := some 20) (bs_ 22 255) rfl rfl HT_ ?_
     refine pu_ (i := 8) (N := some 21) (bs_ 22 511) rfl rfl HT_ ?_
     refine pu_ (i := 9) (N := some 22) (bs_ 22 1023) rfl rfl HT_ ?_
     refine pn_ (i := 10) (N := some 23) (bs_ 22 2047) rfl rfl HT_ ?_
     refine pn_ (i := 11) (N := some 24) (bs_ 22 4095) rfl rfl HT_ ?_
     refine pn_ (i := 12) (N := some 25) (bs_ 22 8191) rfl rfl HT_ ?_
     refine pn_ (i := 13) (N := some 26) (bs_ 22 16383) rfl rfl HT_ ?_
     refine pn_ (i := 14) (N := some 27) (bs_ 22 32767) rfl rfl HT_ ?_
     refine pn_ (i := 15) (N := some 28) (bs_ 22 65535) rfl rfl HT_ ?_
     refine pn_ (i := 16) (N := some 29) (bs_ 22 131071) rfl rfl HT_ ?_
     refine pn_ (i := 17) (N := some 30) (bs_ 22 262143) rfl rfl HT_ ?_
     refine pn_ (i := 18) (N := some 31) (bs_ 22 524287) rfl rfl HT_ ?_
     refine pn_ (i := 19) (N := some 32) (bs_ 22 1048575) rfl rfl HT_ ?_
     refine pu_ (i := 20) (N := some 33) (bs_ 22 2097151) rfl rfl HT_ ?_
     refine pu_ (i := 21) (N := some 34) (bs_ 22 4194303) rfl rfl HT_ ?_
     refine done_ (done_of HT_.out (by kernel_rfl)) ?_
     try go_wp2
     go_meet
     case rel => exact ⟨_, (false), (by first | rfl | (simp; done) | (simp [*]; done)), H', ⟨by have := HK1.out; first | omega | exact Nat.le_refl _⟩, ⟨tR_ HO_187002⟩, ⟨tk_ BK185⟩, ⟨tk_ BK186⟩, ⟨by repeat (first | (with_reducible first | exact HB.out | apply b_a | apply b_n | apply b_d | refine b_s ?_ GE185.out | refine b_s ?_ GE186.out) | exact HB.out)⟩⟩
    rw [if_pos c11] at H
    have c11b0 : decide (0 < x5_1) = true := decide_eq_true c11
    clear c11
    by_cases c12 : 0 < (l0.length : Int)
    rotate_left
    ·
     rw [if_neg c12] at H
     exact absurd H (by simp)
    rw [if_pos c12] at H
    have c12b0 : decide (0 < (l0.length : Int)) = true := decide_eq_true c12
    have c12b1 : decide (0 < l0.length) = true := decide_eq_true (by omega)
    clear c12
    have H' := Aside0.mk H
    clear H
    try go_wp2
    replace HO_187002 := Aside0.mk (Kd.R_drew HO_187002.out)
    replace BK185 := Aside0.mk (k_d BK185.out)
    replace BK186 := Aside0.mk (k_d BK186.out)
    replace HB := Aside0.mk (b_d HB.out)
    have p187 : 0 ≤ (x5_1 : Int) := of_decide_eq_true (by first | (with_reducible assumption) | assumption)
    have q187 : x5_1 < (l0.length : Int) := of_decide_eq_true (by first | (with_reducible assumption) | assumption)
    obtain ⟨ad187, A187_2, c187_2, e187, hx187_0, hx187_1, hx187_2, hl187_2, hi187_2⟩ := at_T24 HR0.out x5_1 p187 q187
    have hw187_2 := hx187_2
    have hw187_1 := hx187_1
    have hw187_0 := hx187_0
    cases e187
    replace hx187_0 := cb_ HB hx187_0
    replace hx187_1 := cb_ HB hx187_1
    replace hx187_2 := cb_ HB hx187_2
    have HR187_2 := Aside0.mk hi187_2
    have HC187_2 := Aside0.mk hl187_2
    clear hi187_2 hl187_2
    replace p187 := eq_true p187
    replace q187 := eq_true q187
    have p189 : 0 ≤ (x5_1 : Int) := of_decide_eq_true (by first | (with_reducible assumption) | assumption)
    have q189 : x5_1 < (l0.length : Int) := of_decide_eq_true (by first | (with_reducible assumption) | assumption)
    obtain ⟨ad189, A189_2, c189_2, e189, hx189_0, hx189_1, hx189_2, hl189_2, hi189_2⟩ := at_T24 HR0.out x5_1 p189 q189
    have hw189_2 := hx189_2
    have hw189_1 := hx189_1
    have hw189_0 := hx189_0
    obtain rfl : ad187 = ad189 := (by injection e189)
    replace hx189_0 := cb_ HB hx189_0
    replace hx189_1 := cb_ HB hx189_1
    replace hx189_2 := cb_ HB hx189_2
    have HR189_2 := Aside0.mk hi189_2
    have HC189_2 := Aside0.mk hl189_2
    clear hi189_2 hl189_2
    replace p189 := eq_true p189
    replace q189 := eq_true q189
    have p190 : 0 ≤ (0 : Int) := (by omega)
    have q190 : 0 < (l0.length : Int) := of_decide_eq_true (by first | (with_reducible assumption) | assumption)
    obtain ⟨ad190, A190_2, c190_2, e190, hx190_0, hx190_1, hx190_2, hl190_2, hi190_2⟩ := at_T24 HR0.out 0 p190 q190
    have hw190_2 := hx190_2
    (try rw [show ((0 : Int)).toNat = 0 from rfl] at hw190_2)
    (try rw [show 0 * 3 = 0 from rfl] at hw190_2)
    (try rw [Addr.add_zero'] at hw190_2)
    have hw190_1 := hx190_1
    (try rw [show ((0 : Int)).toNat = 0 from rfl] at hw190_1)
    (try rw [show 0 * 3 = 0 from rfl] at hw190_1)
    (try rw [Addr.add_zero'] at hw190_1)
    have hw190_0 := hx190_0
    (try rw [show ((0 : Int)).toNat = 0 from rfl] at hw190_0)
    (try rw [show 0 * 3 = 0 from rfl] at hw190_0)
    (try rw [Addr.add_zero'] at hw190_0)
    obtain rfl : ad187 = ad190 := (by injection e190)
    have qi190 : (0 < l0.length) = True := eq_true (by omega)
    (try rw [show ((0 : Int)).toNat = 0 from rfl] at hx190_0)
    (try rw [show 0 * 3 = 0 from rfl] at hx190_0)
    (try rw [Addr.add_zero'] at hx190_0)
    (try rw [show ((0 : Int)).toNat = 0 from rfl] at hx190_1)
    (try rw [show 0 * 3 = 0 from rfl] at hx190_1)
    (try rw [Addr.add_zero'] at hx190_1)
    (try rw [show ((0 : Int)).toNat = 0 from rfl] at hx190_2)
    (try rw [show 0 * 3 = 0 from rfl] at hx190_2)
    (try rw [Addr.add_zero'] at hx190_2)
    replace hx190_0 := cb_ HB hx190_0
    replace hx190_1 := cb_ HB hx190_1
    replace hx190_2 := cb_ HB hx190_2
    have HR190_2 := Aside0.mk hi190_2
    have HC190_2 := Aside0.mk hl190_2
    clear hi190_2 hl190_2
    replace p190 := eq_true p190
    replace q190 := eq_true q190
    refine start_ (n := 22) (S := fun w' => w'.cell? (ad187.add ((x5_1).toNat * 3)) = some (.int .i64 ((rd_T24 l0 x5_1).f0)) ∧ w'.cell? ⟨(ad187.add ((x5_1).toNat * 3)).block, (ad187.add ((x5_1).toNat * 3)).off + 1, none⟩ = some (.int .i64 ((rd_T24 l0 x5_1).f1)) ∧ w'.cell? ⟨(ad187.add ((x5_1).toNat * 3)).block, (ad187.add ((x5_1).toNat * 3)).off + 2, none⟩ = some (.slice A187_2 ((rd_T24 l0 x5_1).f2).length c187_2) ∧ w'.cell? (ad187.add ((x5_1).toNat * 3)) = some (.int .i64 ((rd_T24 l0 x5_1).f0)) ∧ w'.cell? ⟨(ad187.add ((x5_1).toNat * 3)).block, (ad187.add ((x5_1).toNat * 3)).off + 1, none⟩ = some (.int .i64 ((rd_T24 l0 x5_1).f1)) ∧ w'.cell? ⟨(ad187.add ((x5_1).toNat * 3)).block, (ad187.add ((x5_1).toNat * 3)).off + 2, none⟩ = some (.slice A189_2 ((rd_T24 l0 x5_1).f2).length c189_2) ∧ w'.cell? ad187 = some (.int .i64 ((rd_T24 l0 0).f0)) ∧ w'.cell? ⟨ad187.block, ad187.off + 1, none⟩ = some (.int .i64 ((rd_T24 l0 0).f1)) ∧ w'.cell? ⟨ad187.block, ad187.off + 2, none⟩ = some (.slice A190_2 ((rd_T24 l0 0).f2).length c190_2)) (ds := []) #[false, false, false, false, false, false, false, false, false, false, false, false, false, false, false, false, false, false, false, false, false, false] (by kernel_rfl) rfl rfl ⟨(cb_ HB hw187_0), (cb_ HB hw187_1), (cb_ HB hw187_2), (cb_ HB hw189_0), (cb_ HB hw189_1), (cb_ HB hw189_2), (cb_ HB hw190_0), (cb_ HB hw190_1), (cb_ HB hw190_2)⟩ (fun hHeld => ?_); refine with_tabW pelotonref03_Stack.tab5 pelotonref03_Stack.bits5 (fun HT_ HW_ => ?_)
    generalize wr.drew = w13 at HO_187002 BK185 BK186 HB HR187_2 HR189_2 HR190_2 hx187_0 hx187_1 hx187_2 hx189_0 hx189_1 hx189_2 hx190_0 hx190_1 hx190_2 hHeld ⊢
    refine pu_ (i := 0) (N := some 13) (bs_ 22 1) rfl rfl HT_ ?_
    refine pu_ (i := 1) (N := some 14) (bs_ 22 3) rfl rfl HT_ ?_
    refine pu_ (i := 2) (N := some 15) (bs_ 22 7) rfl rfl HT_ ?_
    refine take_ (i := 3) (N := some 16) (v := ?_) (a' := ?_) (bs_ 22 15) rfl rfl (take_ofW HT_.out HW_.out (by kernel_rfl)) (fun _ _ _ h => h) (Or.inl ⟨by rfl, ?_⟩) hHeld ?_ ?_
    rotate_left
    ·
     rintro w' ⟨s0, s1, s2, s3, s4, s5, s6, s7, s8⟩
     go_simp
     with_reducible rfl
    rotate_left
    ·
     simp only [Act.put, l_1, l_2, l_3, i64_w, i32_w]
     rfl
    refine one_ (i := 4) (N := some 17) (bs_ 22 31) rfl rfl (one_of HT_.out (by kernel_rfl)) (by decide) (fun K hK => ?_)
    refine goes_ Try.func32 (by kernel_rfl) rfl #[.agg #[.int .i64 ((rd_T24 l0 x5_1).f0), .int .i64 ((rd_T24 l0 x5_1).f1), .slice A187_2 ((rd_T24 l0 x5_1).f2).length c187_2]] (by rfl) rfl rfl (by (try simp only [l_4, l_5, l_6]); first | done | rfl | (simp only [l_7, l_8]; rfl)) ?_
    with_reducible refine (pelotonref03_Fit.calls ((rd_T24 l0 x5_1).f0) ((rd_T24 l0 x5_1).f1) _ _ ((rd_T24 l0 x5_1).f2) true _ ?side1 ?side2 A9.out).mono ?_
    (case side1 => repeat (first | exact (Kd.C_below HR187_2.out HB.out) | (with_reducible refine Kd.C_alloc ?_ _) | (with_reducible refine Kd.C_drewN ?_ _) | (with_reducible refine Kd.C_drew ?_)))
    (case side2 => exact HC187_2.out)
    rintro e w14 ⟨rfl, hb⟩
    refine ⟨_, rfl, ?_⟩
    replace HO_187002 := Aside0.mk (Kd.R_below (tR_ HO_187002) hb)
    replace BK185 := Aside0.mk (blk_below (tk_ BK185) hb)
    replace BK186 := Aside0.mk (blk_below (tk_ BK186) hb)
    replace HB := Aside0.mk (below_step (bw_ HB) hb)
    (try clear hb)
    (try clear hb2)
    (try clear hk)
    (try clear hi)
    refine hK.out _ _ ⟨(cb_ HB hw187_0), (cb_ HB hw187_1), (cb_ HB hw187_2), (cb_ HB hw189_0), (cb_ HB hw189_1), (cb_ HB hw189_2), (cb_ HB hw190_0), (cb_ HB hw190_1), (cb_ HB hw190_2)⟩ (fun hHeld => ?_)
    clear hK K
    refine no_ (N := some 17) ?_
    refine pu_ (i := 5) (N := some 18) (bs_ 22 63) rfl rfl HT_ ?_
    refine pu_ (i := 6) (N := some 19) (bs_ 22 127) rfl rfl HT_ ?_
    refine pu_ (i := 7) (N := some 20) (bs_ 22 255) rfl rfl HT_ ?_
    refine pu_ (i := 8) (N := some 21) (bs_ 22 511) rfl rfl HT_ ?_
    refine pu_ (i := 9) (N := some 22) (bs_ 22 1023) rfl rfl HT_ ?_
    refine pu_ (i := 10) (N := some 23) (bs_ 22 2047) rfl rfl HT_ ?_
    refine pu_ (i := 11) (N := some 24) (bs_ 22 4095) rfl rfl HT_ ?_
    refine pu_ (i := 12) (N := some 25) (bs_ 22 8191) rfl rfl HT_ ?_
    refine pu_ (i := 13) (N := some 26) (bs_ 22 16383) rfl rfl HT_ ?_
    refine pu_ (i := 15) (N := some 28) (bs_ 22 49151) rfl rfl HT_ ?_
    refine pu_ (i := 16) (N := some 29) (bs_ 22 114687) rfl rfl HT_ ?_
    refine pu_ (i := 17) (N := some 30) (bs_ 22 245759) rfl rfl HT_ ?_
    refine take_ (i := 14) (N := some 27) (v := ?_) (a' := ?_) (bs_ 22 262143) rfl rfl (take_ofW HT_.out HW_.out (by kernel_rfl)) (fun _ _ _ h => h) (Or.inl ⟨by rfl, ?_⟩) hHeld ?_ ?_
    rotate_left
    ·
     rintro w' ⟨s0, s1, s2, s3, s4, s5, s6, s7, s8⟩
     go_simp
     with_reducible rfl
    rotate_left
    ·
     simp only [Act.put, l_1, l_2, l_3, i64_w, i32_w]
     rfl
    refine take_ (i := 18) (N := some 31) (v := ?_) (a' := ?_) (bs_ 22 524287) rfl rfl (take_ofW HT_.out HW_.out (by kernel_rfl)) (fun _ _ _ h => h) (Or.inl ⟨by rfl, ?_⟩) hHeld ?_ ?_
    rotate_left
    ·
     rintro w' ⟨s0, s1, s2, s3, s4, s5, s6, s7, s8⟩
     go_simp
     with_reducible rfl
    rotate_left
    ·
     simp only [Act.put, l_1, l_2, l_3, i64_w, i32_w]
     rfl
    refine pu_ (i := 19) (N := some 32) (bs_ 22 1048575) rfl rfl HT_ ?_
    refine pu_ (i := 20) (N := some 33) (bs_ 22 2097151) rfl rfl HT_ ?_
    refine pu_ (i := 21) (N := some 34) (bs_ 22 4194303) rfl rfl HT_ ?_
    refine done_ (done_of HT_.out (by kernel_rfl)) ?_
    try go_wp2
    go_meet
    case rel => exact ⟨_, ((((rd_T24 l0 x5_1).f1) != ((rd_T24 l0 0).f1))), (by first | rfl | (simp; done) | (simp [*]; done)), H', ⟨by have := HK1.out; first | omega | exact Nat.le_refl _⟩, ⟨tR_ HO_187002⟩, ⟨tk_ BK185⟩, ⟨tk_ BK186⟩, ⟨by repeat (first | (with_reducible first | exact HB.out | apply b_a | apply b_n | apply b_d | refine b_s ?_ GE185.out | refine b_s ?_ GE186.out) | exact HB.out)⟩⟩
   case rest => as_aux_lemma =>
    clear HC7
    try clear c1
    try clear p1
    try clear q1
    try clear hx1
    try clear p2
    try clear c3
    try clear c8
    try clear c10
    try clear c11
    try clear c11b0
    try clear c12
    try clear c18
    try clear p18
    try clear q18
    try clear hx18
    try clear hx187_0
    try clear hx187_1
    try clear hx187_2
    try clear hx189_0
    try clear hx189_1
    try clear hx189_2
    try clear hx190_0
    try clear hx190_1
    try clear hx190_2
    try clear p187
    try clear p190
    try clear q187
    try clear q190
    obtain ⟨kq, x34_6, rfl, HA, HJ6, HO_187002, BK185, BK186, HB⟩ := hcut
    cases kq with
    | zero => exact absurd HA.out (by simp [pelotonref03_Stack.j1])
    | succ kj6 =>
     have H := HA.out
     clear HA
     simp only [pelotonref03_Stack.j1] at H
     by_cases c19 : x34_6 = true
     ·
      subst c19
      have H1 : (some (0, 0, ([] : List Int), false)) = some (r1, r2, r3, r4) := by rw [if_pos rfl] at H; exact H
      clear H
      have H := H1
      clear H1
      simp only [Option.some.injEq, Prod.mk.injEq] at H
      obtain ⟨rfl, rfl, rfl, rfl⟩ := H
      have hnb20 := NB185_186.out
      have hnc20 := NB186_185.out
      have hcz21_0 := bc_0 BK185
      have hcz21_1 := bc_1 BK185
      have hcz21_2 := bc_2 BK185
      have hfz21_0 := blk_frozen BK185.out 0
      have hfz21_1 := blk_frozen BK185.out 1
      have hfz21_2 := blk_frozen BK185.out 2
      go_wp2
      refine bodyPost_ret (results_ct rfl _ _ gb185 24 #[.int .i64 0, .int .i64 0, .slice none 0 0] (0, 0) _ rfl (by (with_reducible repeat (first | refine k_n ?_ _ | refine k_d ?_ | refine k_a ?_ _)); refine blk_put (cs := #[.int .i64 0, .int .i64 0, .slice none 0 0]) ?_ 2 _ rfl; (with_reducible repeat (first | refine k_n ?_ _ | refine k_d ?_ | refine k_a ?_ _)); refine blk_put (cs := #[.int .i64 0, .int .i64 x186001_1, .slice none 0 0]) ?_ 1 _ rfl; (with_reducible repeat (first | refine k_n ?_ _ | refine k_d ?_ | refine k_a ?_ _)); refine blk_put (cs := #[.int .i64 x186000_1, .int .i64 x186001_1, .slice none 0 0]) ?_ 0 _ rfl; (with_reducible repeat (first | refine k_n ?_ _ | refine k_d ?_ | refine k_a ?_ _)); exact BK185.out) Try.underlying24 rfl (by kernel_rfl)) rfl ?_
      exact ⟨_, by first | rfl | (simp [errW_none, errW_some] <;> rfl) | (simp [*, errW_none, errW_some] <;> rfl), by first | exact Kd.R_nil _ _ _ _ _ | exact Kd.N_nil _ _ _ _ _ | exact Kd.V_nil _ _ _ _ _ | exact Kd.Q_nil _ _ _ _ _ | exact Kd.S_nil _ _ _ _ _, by repeat (first | (with_reducible first | exact HB.out | apply b_a | apply b_n | apply b_d | refine b_s ?_ GE185.out | refine b_s ?_ GE186.out) | exact HB.out)⟩
     replace c19 := Bool.eq_false_iff.mpr c19
     subst c19
     have H1 : (if 0 ≤ x5_1 then (if x5_1 < (l0.length : Int) then (if x187002_1.length + ((rd_T24 l0 x5_1).f2).length < 35184372088832 then ((some (x187002_1 ++ ((rd_T24 l0 x5_1).f2) : List Int)).bind fun y194 => ((pelotonref03_Fit.f (wrap64 (x187000_1 + ((rd_T24 l0 x5_1).f0))) ((rd_T24 l0 x5_1).f1) y194).bind fun t197 => (if t197 = true then (pelotonref03_Stack.l0 kj6 l0 (wrap64 (x5_1 + 1)) (wrap64 (x187000_1 + ((rd_T24 l0 x5_1).f0))) ((rd_T24 l0 x5_1).f1) y194) else (some (0, 0, ([] : List Int), false))))) else (none)) else (none)) else (none)) = some (r1, r2, r3, r4) := by rw [if_neg (show ¬ (false = true) by decide)] at H; exact H
     clear H
     have H := H1
     clear H1
     by_cases c22 : 0 ≤ x5_1
     rotate_left
     ·
      rw [if_neg c22] at H
      exact absurd H (by simp)
     rw [if_pos c22] at H
     have c22b0 : decide (0 ≤ x5_1) = true := decide_eq_true c22
     clear c22
     by_cases c23 : x5_1 < (l0.length : Int)
     rotate_left
     ·
      rw [if_neg c23] at H
      exact absurd H (by simp)
     rw [if_pos c23] at H
     have c23b0 : decide (x5_1 < (l0.length : Int)) = true := decide_eq_true c23
     clear c23
     by_cases c24 : x187002_1.length + ((rd_T24 l0 x5_1).f2).length < 35184372088832
     rotate_left
     ·
      rw [if_neg c24] at H
      exact absurd H (by simp)
     rw [if_pos c24] at H
     have LMc24 := Aside0.mk c24
     clear c24
     obtain ⟨y194, hy194⟩ : ∃ y_ : List Int, y_ = (x187002_1 ++ ((rd_T24 l0 x5_1).f2)) := ⟨_, rfl⟩
     replace H : ((pelotonref03_Fit.f (wrap64 (x187000_1 + ((rd_T24 l0 x5_1).f0))) ((rd_T24 l0 x5_1).f1) y194).bind fun t197 => (if t197 = true then (pelotonref03_Stack.l0 kj6 l0 (wrap64 (x5_1 + 1)) (wrap64 (x187000_1 + ((rd_T24 l0 x5_1).f0))) ((rd_T24 l0 x5_1).f1) y194) else (some (0, 0, ([] : List Int), false)))) = some (r1, r2, r3, r4) := by first | (rw [hy194]; with_reducible exact H) | (have H2_ := (Option.bind_some _ _).symm.trans H; rw [hy194]; with_reducible exact H2_) | (have H2_ := (Option.bind_some _ _).symm.trans H; with_reducible exact H2_) | with_reducible exact H | (rw [hy194]; exact H) | exact H
     have Ny194 := Aside0.mk hy194
     clear hy194
     replace H := Option.bind_eq_some_iff.mp H
     obtain ⟨t197, A250, H⟩ := H
     replace H : (if t197 = true then (pelotonref03_Stack.l0 kj6 l0 (wrap64 (x5_1 + 1)) (wrap64 (x187000_1 + ((rd_T24 l0 x5_1).f0))) ((rd_T24 l0 x5_1).f1) y194) else (some (0, 0, ([] : List Int), false))) = some (r1, r2, r3, r4) := H
     have A25 := Aside0.mk A250
     clear A250
     try go_wp2
     replace HO_187002 := Aside0.mk (Kd.R_drew HO_187002.out)
     replace BK185 := Aside0.mk (k_d BK185.out)
     replace BK186 := Aside0.mk (k_d BK186.out)
     replace HB := Aside0.mk (b_d HB.out)
     have p191 : 0 ≤ (x5_1 : Int) := of_decide_eq_true (by first | (with_reducible assumption) | assumption)
     have q191 : x5_1 < (l0.length : Int) := of_decide_eq_true (by first | (with_reducible assumption) | assumption)
     obtain ⟨ad191, A191_2, c191_2, e191, hx191_0, hx191_1, hx191_2, hl191_2, hi191_2⟩ := at_T24 HR0.out x5_1 p191 q191
     have hw191_2 := hx191_2
     have hw191_1 := hx191_1
     have hw191_0 := hx191_0
     cases e191
     replace hx191_0 := cb_ HB hx191_0
     replace hx191_1 := cb_ HB hx191_1
     replace hx191_2 := cb_ HB hx191_2
     have HR191_2 := Aside0.mk hi191_2
     have HC191_2 := Aside0.mk hl191_2
     clear hi191_2 hl191_2
     replace p191 := eq_true p191
     replace q191 := eq_true q191
     refine start_ (n := 10) (S := fun w' => w'.cell? ⟨gb186, 0, none⟩ = some (.int .i64 x187000_1) ∧ w'.cell? ⟨gb186, 1, none⟩ = some (.int .i64 x187001_1) ∧ w'.cell? ⟨gb186, 2, none⟩ = some (u187002) ∧ w'.cell? (ad191.add ((x5_1).toNat * 3)) = some (.int .i64 ((rd_T24 l0 x5_1).f0)) ∧ w'.cell? ⟨(ad191.add ((x5_1).toNat * 3)).block, (ad191.add ((x5_1).toNat * 3)).off + 1, none⟩ = some (.int .i64 ((rd_T24 l0 x5_1).f1)) ∧ w'.cell? ⟨(ad191.add ((x5_1).toNat * 3)).block, (ad191.add ((x5_1).toNat * 3)).off + 2, none⟩ = some (.slice A191_2 ((rd_T24 l0 x5_1).f2).length c191_2)) (ds := [9]) #[false, false, false, false, false, false, false, false, false, false] (by kernel_rfl) rfl rfl ⟨(blk_cell BK186.out 0).trans rfl, (blk_cell BK186.out 1).trans rfl, (blk_cell BK186.out 2).trans rfl, (cb_ HB hw191_0), (cb_ HB hw191_1), (cb_ HB hw191_2)⟩ (fun hHeld => ?_); refine with_tabW pelotonref03_Stack.tab7 pelotonref03_Stack.bits7 (fun HT_ HW_ => ?_)
     generalize wc.drew = w26 at HO_187002 BK185 BK186 HB HR191_2 hx191_0 hx191_1 hx191_2 hHeld ⊢
     refine pu_ (i := 0) (N := some 36) (bs_ 10 1) rfl rfl HT_ ?_
     refine pu_ (i := 2) (N := some 38) (bs_ 10 5) rfl rfl HT_ ?_
     refine pu_ (i := 3) (N := some 39) (bs_ 10 13) rfl rfl HT_ ?_
     refine pu_ (i := 4) (N := some 40) (bs_ 10 29) rfl rfl HT_ ?_
     refine pu_ (i := 5) (N := some 41) (bs_ 10 61) rfl rfl HT_ ?_
     refine take_ (i := 1) (N := some 37) (v := ?_) (a' := ?_) (bs_ 10 63) rfl rfl (take_ofW HT_.out HW_.out (by kernel_rfl)) (fun _ _ _ h => h) (Or.inl ⟨by rfl, ?_⟩) hHeld ?_ ?_
     rotate_left
     ·
      rintro w' ⟨s0, s1, s2, s3, s4, s5⟩
      go_simp
      with_reducible rfl
     rotate_left
     ·
      simp only [Act.put, l_1, l_2, l_3, i64_w, i32_w]
      rfl
     refine take_ (i := 6) (N := some 42) (v := ?_) (a' := ?_) (bs_ 10 127) rfl rfl (take_ofW HT_.out HW_.out (by kernel_rfl)) (fun _ _ _ h => h) (Or.inl ⟨by rfl, ?_⟩) hHeld ?_ ?_
     rotate_left
     ·
      rintro w' ⟨s0, s1, s2, s3, s4, s5⟩
      go_simp
      with_reducible rfl
     rotate_left
     ·
      simp only [Act.put, l_1, l_2, l_3, i64_w, i32_w]
      rfl
     refine pu_ (i := 7) (N := some 43) (bs_ 10 255) rfl rfl HT_ ?_
     refine pu_ (i := 8) (N := some 44) (bs_ 10 511) rfl rfl HT_ ?_
     refine last_ (i := 9) (N := none) (bs_ 10 1023) rfl rfl (one_of HT_.out (by kernel_rfl)) (by decide) (fun K hK => ?_)
     have hs27 := bc_0 BK186
     have hfs27 := blk_frozen BK186.out 0
     have hns27_0 := NB185_186.out
     have hms27_0 := NB186_185.out
     refine skip_ (w1 := ?_) (by rfl) rfl ?_ ?_
     rotate_left
     ·
      go_simp
      rfl
     refine hK.out _ _ ?_
     clear hK K
     refine done_ (done_of HT_.out (by kernel_rfl)) ?_
     have p192 : 0 ≤ (x5_1 : Int) := of_decide_eq_true (by first | (with_reducible assumption) | assumption)
     have q192 : x5_1 < (l0.length : Int) := of_decide_eq_true (by first | (with_reducible assumption) | assumption)
     obtain ⟨ad192, A192_2, c192_2, e192, hx192_0, hx192_1, hx192_2, hl192_2, hi192_2⟩ := at_T24 HR0.out x5_1 p192 q192
     obtain rfl : ad191 = ad192 := (by injection e192)
     have hn192_0 : ad191.block ≠ gb186 := Nat.ne_of_lt (Nat.lt_of_lt_of_le (by have := World.block_lt_of_cell? _ _ hx192_0; first | rwa [add_block] at this | exact this) GW186.out)
     replace hx192_0 := cb_ HB hx192_0
     replace hx192_1 := cb_ HB hx192_1
     replace hx192_2 := cb_ HB hx192_2
     have HR192_2 := Aside0.mk hi192_2
     have HC192_2 := Aside0.mk hl192_2
     clear hi192_2 hl192_2
     replace hx192_0 := (cell_far (p := ⟨gb186, 0, none⟩) (by first | (rw [add_block]; exact hn192_0) | (show (Addr.add _ _).block ≠ _; rw [add_block]; exact hn192_0) | exact hn192_0) (.int .i64 (wrap64 (x187000_1 + ((rd_T24 l0 x5_1).f0))))).trans hx192_0
     replace hx192_1 := (cell_far (p := ⟨gb186, 0, none⟩) (by first | (rw [add_block]; exact hn192_0) | (show (Addr.add _ _).block ≠ _; rw [add_block]; exact hn192_0) | exact hn192_0) (.int .i64 (wrap64 (x187000_1 + ((rd_T24 l0 x5_1).f0))))).trans hx192_1
     replace hx192_2 := (cell_far (p := ⟨gb186, 0, none⟩) (by first | (rw [add_block]; exact hn192_0) | (show (Addr.add _ _).block ≠ _; rw [add_block]; exact hn192_0) | exact hn192_0) (.int .i64 (wrap64 (x187000_1 + ((rd_T24 l0 x5_1).f0))))).trans hx192_2
     clear hn192_0
     replace p192 := eq_true p192
     replace q192 := eq_true q192
     have hnb28 := NB186_185.out
     have hnc28 := NB185_186.out
     have hcz29_0 := bc_0 BK186
     have hcz29_1 := bc_1 BK186
     have hcz29_2 := bc_2 BK186
     have hfz29_0 := blk_frozen BK186.out 0
     have hfz29_1 := blk_frozen BK186.out 1
     have hfz29_2 := blk_frozen BK186.out 2
     try go_wp2
     have n0_ : Aside0 (Kd.R (Kd.int .i32) 21 ((w26.setCell ⟨gb186, 0, none⟩ (.int .i64 (wrap64 (x187000_1 + ((rd_T24 l0 x5_1).f0))))).setCell ⟨gb186, 1, none⟩ (.int .i64 ((rd_T24 l0 x5_1).f1))) w.heap.size (fun _ => True) u187002 x187002_1) := ⟨by (with_reducible repeat (first | apply Kd.R_alloc | apply Kd.R_drewN | apply Kd.R_drew)); exact Kd.R_mono (Kd.R_far (p := ⟨gb186, 1, none⟩) (Kd.R_far (p := ⟨gb186, 0, none⟩) (Kd.R_types HO_187002.out BK186.out (by decide)) (fun _ hk => hk.2) (.int .i64 (wrap64 (x187000_1 + ((rd_T24 l0 x5_1).f0))))) (fun _ hk => hk.2) (.int .i64 ((rd_T24 l0 x5_1).f1))) (fun _ hk => trivial)⟩
     have n1_ : Aside0 (((w26.setCell ⟨gb186, 0, none⟩ (.int .i64 (wrap64 (x187000_1 + ((rd_T24 l0 x5_1).f0))))).setCell ⟨gb186, 1, none⟩ (.int .i64 ((rd_T24 l0 x5_1).f1))).heap[gb185]? = some (.cells #[.int .i64 x186000_1, .int .i64 x186001_1, .slice none 0 0] 24 (0, 0))) := ⟨by (with_reducible repeat (first | refine k_n ?_ _ | refine k_d ?_ | refine k_a ?_ _)); refine blk_far ?_ NB185_186.out _; (with_reducible repeat (first | refine k_n ?_ _ | refine k_d ?_ | refine k_a ?_ _)); refine blk_far ?_ NB185_186.out _; (with_reducible repeat (first | refine k_n ?_ _ | refine k_d ?_ | refine k_a ?_ _)); exact BK185.out⟩
     have n2_ : Aside0 (((w26.setCell ⟨gb186, 0, none⟩ (.int .i64 (wrap64 (x187000_1 + ((rd_T24 l0 x5_1).f0))))).setCell ⟨gb186, 1, none⟩ (.int .i64 ((rd_T24 l0 x5_1).f1))).heap[gb186]? = some (.cells #[.int .i64 (wrap64 (x187000_1 + ((rd_T24 l0 x5_1).f0))), .int .i64 ((rd_T24 l0 x5_1).f1), u187002] 24 (0, 0))) := ⟨by (with_reducible repeat (first | refine k_n ?_ _ | refine k_d ?_ | refine k_a ?_ _)); refine blk_put (cs := #[.int .i64 (wrap64 (x187000_1 + ((rd_T24 l0 x5_1).f0))), .int .i64 x187001_1, u187002]) ?_ 1 _ rfl; (with_reducible repeat (first | refine k_n ?_ _ | refine k_d ?_ | refine k_a ?_ _)); refine blk_put (cs := #[.int .i64 x187000_1, .int .i64 x187001_1, u187002]) ?_ 0 _ rfl; (with_reducible repeat (first | refine k_n ?_ _ | refine k_d ?_ | refine k_a ?_ _)); exact BK186.out⟩
     have n3_ : Aside0 (Below w.heap.size w ((w26.setCell ⟨gb186, 0, none⟩ (.int .i64 (wrap64 (x187000_1 + ((rd_T24 l0 x5_1).f0))))).setCell ⟨gb186, 1, none⟩ (.int .i64 ((rd_T24 l0 x5_1).f1)))) := ⟨by repeat (first | (with_reducible first | exact HB.out | apply b_a | apply b_n | apply b_d | refine b_s ?_ GE185.out | refine b_s ?_ GE186.out) | exact HB.out)⟩
     (try clear HO_187002)
     (try clear BK185)
     (try clear BK186)
     (try clear HB)
     generalize ((w26.setCell ⟨gb186, 0, none⟩ (.int .i64 (wrap64 (x187000_1 + ((rd_T24 l0 x5_1).f0))))).setCell ⟨gb186, 1, none⟩ (.int .i64 ((rd_T24 l0 x5_1).f1))) = w30 at n0_ n1_ n2_ n3_ ⊢
     have HO_187002 := n0_
     have BK185 := n1_
     have BK186 := n2_
     have HB := n3_
     clear n0_ n1_ n2_ n3_
     replace HO_187002 := Aside0.mk (Kd.R_drew HO_187002.out)
     replace BK185 := Aside0.mk (k_d BK185.out)
     replace BK186 := Aside0.mk (k_d BK186.out)
     replace HB := Aside0.mk (b_d HB.out)
     have p193 : 0 ≤ (x5_1 : Int) := of_decide_eq_true (by first | (with_reducible assumption) | assumption)
     have q193 : x5_1 < (l0.length : Int) := of_decide_eq_true (by first | (with_reducible assumption) | assumption)
     obtain ⟨ad193, A193_2, c193_2, e193, hx193_0, hx193_1, hx193_2, hl193_2, hi193_2⟩ := at_T24 HR0.out x5_1 p193 q193
     have hw193_2 := hx193_2
     have hw193_1 := hx193_1
     have hw193_0 := hx193_0
     obtain rfl : ad191 = ad193 := (by injection e193)
     replace hx193_0 := cb_ HB hx193_0
     replace hx193_1 := cb_ HB hx193_1
     replace hx193_2 := cb_ HB hx193_2
     have HR193_2 := Aside0.mk hi193_2
     have HC193_2 := Aside0.mk hl193_2
     clear hi193_2 hl193_2
     replace p193 := eq_true p193
     replace q193 := eq_true q193
     refine start_ (n := 10) (S := fun w' => w'.cell? ⟨gb186, 0, none⟩ = some (.int .i64 (wrap64 (x187000_1 + ((rd_T24 l0 x5_1).f0)))) ∧ w'.cell? ⟨gb186, 1, none⟩ = some (.int .i64 ((rd_T24 l0 x5_1).f1)) ∧ w'.cell? ⟨gb186, 2, none⟩ = some (u187002) ∧ w'.cell? (ad191.add ((x5_1).toNat * 3)) = some (.int .i64 ((rd_T24 l0 x5_1).f0)) ∧ w'.cell? ⟨(ad191.add ((x5_1).toNat * 3)).block, (ad191.add ((x5_1).toNat * 3)).off + 1, none⟩ = some (.int .i64 ((rd_T24 l0 x5_1).f1)) ∧ w'.cell? ⟨(ad191.add ((x5_1).toNat * 3)).block, (ad191.add ((x5_1).toNat * 3)).off + 2, none⟩ = some (.slice A193_2 ((rd_T24 l0 x5_1).f2).length c193_2)) (ds := [9]) #[false, false, false, false, false, false, false, false, false, false] (by kernel_rfl) rfl rfl ⟨(blk_cell BK186.out 0).trans rfl, (blk_cell BK186.out 1).trans rfl, (blk_cell BK186.out 2).trans rfl, (cb_ HB hw193_0), (cb_ HB hw193_1), (cb_ HB hw193_2)⟩ (fun hHeld => ?_); refine with_tabW pelotonref03_Stack.tab9 pelotonref03_Stack.bits9 (fun HT_ HW_ => ?_)
     generalize w30.drew = w31 at HO_187002 BK185 BK186 HB HR193_2 hx193_0 hx193_1 hx193_2 hHeld ⊢
     refine pu_ (i := 0) (N := some 51) (bs_ 10 1) rfl rfl HT_ ?_
     refine pu_ (i := 2) (N := some 53) (bs_ 10 5) rfl rfl HT_ ?_
     refine pu_ (i := 3) (N := some 54) (bs_ 10 13) rfl rfl HT_ ?_
     refine pu_ (i := 4) (N := some 55) (bs_ 10 29) rfl rfl HT_ ?_
     refine pu_ (i := 5) (N := some 56) (bs_ 10 61) rfl rfl HT_ ?_
     refine take_ (i := 1) (N := some 52) (v := ?_) (a' := ?_) (bs_ 10 63) rfl rfl (take_ofW HT_.out HW_.out (by kernel_rfl)) (fun _ _ _ h => h) (Or.inl ⟨by rfl, ?_⟩) hHeld ?_ ?_
     rotate_left
     ·
      rintro w' ⟨s0, s1, s2, s3, s4, s5⟩
      go_simp
      with_reducible rfl
     rotate_left
     ·
      simp only [Act.put, l_1, l_2, l_3, i64_w, i32_w]
      rfl
     refine take_ (i := 6) (N := some 57) (v := ?_) (a' := ?_) (bs_ 10 127) rfl rfl (take_ofW HT_.out HW_.out (by kernel_rfl)) (fun _ _ _ h => h) (Or.inl ⟨by rfl, ?_⟩) hHeld ?_ ?_
     rotate_left
     ·
      rintro w' ⟨s0, s1, s2, s3, s4, s5⟩
      go_simp
      with_reducible rfl
     rotate_left
     ·
      simp only [Act.put, l_1, l_2, l_3, i64_w, i32_w]
      rfl
     refine one_ (i := 7) (N := some 58) (bs_ 10 255) rfl rfl (one_of HT_.out (by kernel_rfl)) (by decide) (fun K hK => ?_)
     refine Kd.R_append_rows_step (Kd.int .i32) (w0 := w) w.heap.size (by rfl) (.tmp 52) (.tmp 57) 22 21 (.int .i32 0) 4 rfl Try.underlying22 info21 rfl (by decide) (by omega) u187002 x187002_1 ((rd_T24 l0 x5_1).f2) _ _ _ (fun _ => True) (fun _ => False) rfl rfl ?aO ?aR (fun _ _ h => h) (fun _ h => h.elim) ?aF ?aB ?aS ?aL ?_
     (case aR => repeat (first | exact (Kd.C_below HR193_2.out HB.out) | (with_reducible refine Kd.C_alloc ?_ _) | (with_reducible refine Kd.C_drewN ?_ _) | (with_reducible refine Kd.C_drew ?_)))
     (case aB => exact (bw_ HB))
     (case aF => exact (fun _ _ => trivial))
     (case aO => exact (tR_ HO_187002))
     (case aS => exact (below_size (bw_ HB)))
     (case aL => have := LMc24.out; omega)
     intro v195 w32 ho hb hg hat
     rw [← Ny194.out] at ho
     have n0_ := Aside0.mk (blk_grown (tk_ BK185) hg (Kd.R_ne HO_187002.out BK185.out (by decide)))
     have n1_ := Aside0.mk (blk_grown (tk_ BK186) hg (Kd.R_ne HO_187002.out BK186.out (by decide)))
     have n2_ := Aside0.mk (hb)
     have n3_ := Aside0.mk (ho)
     clear BK185
     clear BK186
     clear HB
     clear HO_187002
     have BK185 := n0_
     have BK186 := n1_
     have HB := n2_
     have HO196 := n3_
     clear n0_ n1_ n2_ n3_
     clear ho hb hg hat
     obtain ⟨Ao33, co33, eo33⟩ := Kd.R_slice HO196.out
     (first | subst eo33 | (injection eo33 with f1_ f2_ f3_; have f4_ := f1_.symm; have f5_ := f3_.symm; clear f1_ f2_ f3_; subst f4_; subst f5_))
     refine hK.out _ _ ⟨(blk_cell BK186.out 0).trans rfl, (blk_cell BK186.out 1).trans rfl, (blk_cell BK186.out 2).trans rfl, (cb_ HB hw193_0), (cb_ HB hw193_1), (cb_ HB hw193_2)⟩ (fun hHeld => ?_)
     clear hK K
     refine no_ (N := some 58) ?_
     refine pu_ (i := 8) (N := some 59) (bs_ 10 511) rfl rfl HT_ ?_
     refine last_ (i := 9) (N := none) (bs_ 10 1023) rfl rfl (one_of HT_.out (by kernel_rfl)) (by decide) (fun K hK => ?_)
     have hs34 := bc_2 BK186
     have hfs34 := blk_frozen BK186.out 2
     have hns34_0 := NB185_186.out
     have hms34_0 := NB186_185.out
     refine skip_ (w1 := ?_) (by rfl) rfl ?_ ?_
     rotate_left
     ·
      go_simp
      rfl
     refine hK.out _ _ ?_
     clear hK K
     refine done_ (done_of HT_.out (by kernel_rfl)) ?_
     have hcz35_0 := bc_0 BK186
     have hcz35_1 := bc_1 BK186
     have hcz35_2 := bc_2 BK186
     have hfz35_0 := blk_frozen BK186.out 0
     have hfz35_1 := blk_frozen BK186.out 1
     have hfz35_2 := blk_frozen BK186.out 2
     go_upto_if 62 with (first | ((with_reducible refine gate_callee (f := 32) rfl ?_); refine goesL_ (some 61) rfl rfl Try.func32 (by kernel_rfl) rfl #[.agg #[.int .i64 (wrap64 (x187000_1 + ((rd_T24 l0 x5_1).f0))), .int .i64 ((rd_T24 l0 x5_1).f1), .slice Ao33 y194.length co33]] rfl (by (try simp only [l_4, l_5, l_6]); first | done | rfl | (simp only [l_7, l_8]; rfl)) ?_; (with_reducible refine (pelotonref03_Fit.calls (wrap64 (x187000_1 + ((rd_T24 l0 x5_1).f0))) ((rd_T24 l0 x5_1).f1) _ _ y194 t197 _ ?side1 ?side2 A25.out).mono ?_); (case side1 => refine (Kd.R_reads' (e := 21) (base := w.heap.size) (ok := fun k_ => True) (n := y194.length) (c := co33) ?_).2.2; exact (by (with_reducible repeat (first | apply Kd.R_alloc | apply Kd.R_drewN | apply Kd.R_drew)); exact (Kd.R_mono (Kd.R_far (p := ⟨gb186, 2, none⟩) (Kd.R_types HO196.out BK186.out (by decide)) (fun _ hk => hk.2) (.slice Ao33 y194.length co33)) (fun _ h_ => h_.1)))); (case side2 => exact (Kd.R_reads' HO196.out).2.1); rintro e w36 ⟨rfl, hb⟩; (try clear A25); refine ⟨_, rfl, ?_⟩; replace HO196 := Aside0.mk (Kd.R_below (by (with_reducible repeat (first | apply Kd.R_alloc | apply Kd.R_drewN | apply Kd.R_drew)); exact (Kd.R_mono (Kd.R_far (p := ⟨gb186, 2, none⟩) (Kd.R_types HO196.out BK186.out (by decide)) (fun _ hk => hk.2) (.slice Ao33 y194.length co33)) (fun _ h_ => h_.1))) hb); replace BK185 := Aside0.mk (blk_below (g := gb185) (o := .cells #[.int .i64 x186000_1, .int .i64 x186001_1, .slice none 0 0] 24 (0, 0)) (by (with_reducible repeat (first | refine k_n ?_ _ | refine k_d ?_ | refine k_a ?_ _)); refine blk_far ?_ NB185_186.out _; (with_reducible repeat (first | refine k_n ?_ _ | refine k_d ?_ | refine k_a ?_ _)); exact BK185.out) hb); replace BK186 := Aside0.mk (blk_below (g := gb186) (o := .cells #[.int .i64 (wrap64 (x187000_1 + ((rd_T24 l0 x5_1).f0))), .int .i64 ((rd_T24 l0 x5_1).f1), .slice Ao33 y194.length co33] 24 (0, 0)) (by (with_reducible repeat (first | refine k_n ?_ _ | refine k_d ?_ | refine k_a ?_ _)); refine blk_put (cs := #[.int .i64 (wrap64 (x187000_1 + ((rd_T24 l0 x5_1).f0))), .int .i64 ((rd_T24 l0 x5_1).f1), u187002]) ?_ 2 _ rfl; (with_reducible repeat (first | refine k_n ?_ _ | refine k_d ?_ | refine k_a ?_ _)); exact BK186.out) hb); replace HB := Aside0.mk (below_step (bw_ HB) hb); (try clear hb); (try clear hb2); (try clear hk); (try clear hi)))
     by_cases c37 : t197 = true
     ·
      subst c37
      have H1 : (pelotonref03_Stack.l0 kj6 l0 (wrap64 (x5_1 + 1)) (wrap64 (x187000_1 + ((rd_T24 l0 x5_1).f0))) ((rd_T24 l0 x5_1).f1) y194) = some (r1, r2, r3, r4) := by rw [if_pos rfl] at H; exact H
      clear H
      have H := H1
      clear H1
      have H' := Aside0.mk H
      clear H
      go_wp2
      go_roundg kj6
      case measure => have := HK1.out; have := HJ6.out; omega
      case rel => exact ⟨(wrap64 (x5_1 + 1)), (x186000_1), (x186001_1), (wrap64 (x187000_1 + ((rd_T24 l0 x5_1).f0))), ((rd_T24 l0 x5_1).f1), (y194), (.slice Ao33 y194.length co33), (by first | rfl | (simp; done) | (simp [*]; done)), H', ⟨by have := HK1.out; have := HJ6.out; omega⟩, ⟨tR_ HO196⟩, ⟨tk_ BK185⟩, ⟨tk_ BK186⟩, ⟨by repeat (first | (with_reducible first | exact HB.out | apply b_a | apply b_n | apply b_d | refine b_s ?_ GE185.out | refine b_s ?_ GE186.out) | exact HB.out)⟩⟩
     replace c37 := Bool.eq_false_iff.mpr c37
     subst c37
     have H1 : (some (0, 0, ([] : List Int), false)) = some (r1, r2, r3, r4) := by rw [if_neg (show ¬ (false = true) by decide)] at H; exact H
     clear H
     have H := H1
     clear H1
     simp only [Option.some.injEq, Prod.mk.injEq] at H
     obtain ⟨rfl, rfl, rfl, rfl⟩ := H
     have hnb38 := NB185_186.out
     have hnc38 := NB186_185.out
     have hcz39_0 := bc_0 BK185
     have hcz39_1 := bc_1 BK185
     have hcz39_2 := bc_2 BK185
     have hfz39_0 := blk_frozen BK185.out 0
     have hfz39_1 := blk_frozen BK185.out 1
     have hfz39_2 := blk_frozen BK185.out 2
     go_wp2
     refine bodyPost_ret (results_ct rfl _ _ gb185 24 #[.int .i64 0, .int .i64 0, .slice none 0 0] (0, 0) _ rfl (by (with_reducible repeat (first | refine k_n ?_ _ | refine k_d ?_ | refine k_a ?_ _)); refine blk_put (cs := #[.int .i64 0, .int .i64 0, .slice none 0 0]) ?_ 2 _ rfl; (with_reducible repeat (first | refine k_n ?_ _ | refine k_d ?_ | refine k_a ?_ _)); refine blk_put (cs := #[.int .i64 0, .int .i64 x186001_1, .slice none 0 0]) ?_ 1 _ rfl; (with_reducible repeat (first | refine k_n ?_ _ | refine k_d ?_ | refine k_a ?_ _)); refine blk_put (cs := #[.int .i64 x186000_1, .int .i64 x186001_1, .slice none 0 0]) ?_ 0 _ rfl; (with_reducible repeat (first | refine k_n ?_ _ | refine k_d ?_ | refine k_a ?_ _)); exact BK185.out) Try.underlying24 rfl (by kernel_rfl)) rfl ?_
     exact ⟨_, by first | rfl | (simp [errW_none, errW_some] <;> rfl) | (simp [*, errW_none, errW_some] <;> rfl), by first | exact Kd.R_nil _ _ _ _ _ | exact Kd.N_nil _ _ _ _ _ | exact Kd.V_nil _ _ _ _ _ | exact Kd.Q_nil _ _ _ _ _ | exact Kd.S_nil _ _ _ _ _, by repeat (first | (with_reducible first | exact HB.out | apply b_a | apply b_n | apply b_d | refine b_s ?_ GE185.out | refine b_s ?_ GE186.out) | exact HB.out)⟩
end Go.Proofs.Ytggcgacndknlaaa.QGridLays
