-- Written by a program of this session (a turned copy of the print) out of the translation. Lean checks it.
import Derived.Test.YtggcgacndknlaaaQGridCellsx0
import Derived.Test.YtggcgacndknlaaaQGridCellsx1
import Derived.Test.YtggcgacndknlaaaQGridCellsx2
import Derived.Test.YtggcgacndknlaaaQGridCellsx4
namespace Go.Proofs.Ytggcgacndknlaaa.QGridCells
open Go.RowKit Go.Proofs.YtggcgacndknlaaaW.PrintWords Go.Proofs.YtggcgacndknlaaaW.PrintLast Go.Proofs.YtggcgacndknlaaaW.PrintMore
attribute [local go_sem] max2_int min2_int max_two min_two max_three min_three max_four min_four   -- for this text's walks alone
open Go.Proofs.YtggcgacndknlaaaW.PrintWords renaming below_alloc → b_a, pw_below_drewN → b_n, below_drew1 → b_d, below_set → b_s, blk_drewN → k_n, blk_drew → k_d, blk_alloc → k_a
open List renaming setIfInBounds_toArray → l_1, set_cons_zero → l_2, set_cons_succ → l_3, map_toArray → l_4, map_cons → l_5, map_nil → l_6, length_drop → l_7, length_take → l_8
set_option linter.unusedVariables false
set_option linter.unusedSimpArgs false

/-! ### pelotonlaw03_GridCells: function 4 -/
mutual
def pelotonlaw03_GridCells.j0 : Nat → Int → Int → Bool → Int → Int → List Int → Option (Bool)
 | 0, _, _, _, _, _, _ => none
 | k + 1, x1, x2, x20, x136000, x136001, x136002 => if x20 = true then ((pelotonlaw03_awake.f).bind fun t141 => (some t141)) else ((pelotonref03_Right.f x136000 x136001 x136002).bind fun t142 => ((grid_At.f k x136000 x136001 x136002 x1 x2).bind fun bt143 => (if t142 = true then (if x1 ≥ 0 then (if x1 < x136000 then (if x2 ≥ 0 then (pelotonlaw03_GridCells.j1 k x1 x2 t142 bt143.1 bt143.2 (decide (x2 < x136001)) x136000 x136001 x136002) else (pelotonlaw03_GridCells.j1 k x1 x2 t142 bt143.1 bt143.2 false x136000 x136001 x136002)) else (pelotonlaw03_GridCells.j1 k x1 x2 t142 bt143.1 bt143.2 false x136000 x136001 x136002)) else (pelotonlaw03_GridCells.j1 k x1 x2 t142 bt143.1 bt143.2 false x136000 x136001 x136002)) else (pelotonlaw03_GridCells.j1 k x1 x2 t142 bt143.1 bt143.2 false x136000 x136001 x136002))))
def pelotonlaw03_GridCells.j1 : Nat → Int → Int → Bool → Int → Bool → Bool → Int → Int → List Int → Option (Bool)
 | 0, _, _, _, _, _, _, _, _, _ => none
 | k + 1, x1, x2, x7, x8, x9, x10, x136000, x136001, x136002 => (grid_Right.f k (([(⟨x136000, x136001, x136002⟩ : S24)] : List (S24)))).bind fun t148 => (if (t148 != x7) = true then (pelotonlaw03_GridCells.j2 k x1 x2 true) else ((pelotonlaw03_two.f ([] : List Int)).bind fun bt149 => ((grid_Right.f k (([(⟨x136000, x136001, x136002⟩ : S24), (⟨bt149.1, bt149.2.1, bt149.2.2⟩ : S24)] : List (S24)))).bind fun t157 => (if (t157 != x7) = true then (pelotonlaw03_GridCells.j2 k x1 x2 true) else ((grid_Right.f k ([] : List (S24))).bind fun t158 => (if t158 = true then (if (x9 != x10) = true then (pelotonlaw03_GridCells.j2 k x1 x2 true) else (if x10 = true then ((pelotonref03_Cell.f x136000 x136001 x136002 x1 x2).bind fun t159 => (if x8 = t159 then (pelotonlaw03_GridCells.j2 k x1 x2 false) else (pelotonlaw03_GridCells.j2 k x1 x2 true))) else (pelotonlaw03_GridCells.j2 k x1 x2 (x8 != 0)))) else (pelotonlaw03_GridCells.j2 k x1 x2 true)))))))
def pelotonlaw03_GridCells.j2 : Nat → Int → Int → Bool → Option (Bool)
 | 0, _, _, _ => none
 | k + 1, x1, x2, x92 => if x92 = true then (some false) else ((grid_New.f x1 x2).bind fun bt160 => (if x1 < 0 then (if bt160.2.2.2 = 30 then (some ((bt160.2.2.1.length : Int) == 0)) else (some false)) else (if x2 < 0 then (if bt160.2.2.2 = 30 then (some ((bt160.2.2.1.length : Int) == 0)) else (some false)) else (if x1 > 4096 then (if bt160.2.2.2 = 30 then (some ((bt160.2.2.1.length : Int) == 0)) else (some false)) else (if x2 > 4096 then (if bt160.2.2.2 = 30 then (some ((bt160.2.2.1.length : Int) == 0)) else (some false)) else (if (wrap64 (x1 * x2)) > 1048576 then (if bt160.2.2.2 = 30 then (some ((bt160.2.2.1.length : Int) == 0)) else (some false)) else (if bt160.2.2.2 = 0 then (if bt160.1 = x1 then (if bt160.2.1 = x2 then (some ((bt160.2.2.1.length : Int) == (wrap64 (x1 * x2)))) else (some false)) else (some false)) else (some false))))))))
end
def pelotonlaw03_GridCells.f (k : Nat) (a0_0 : Int) (a0_1 : Int) (l0_2 : List Int) (a1 : Int) (a2 : Int) : Option (Bool) := (pelotonlaw03_awake.f).bind fun t136 => (if t136 = true then ((pelotonlaw03_small.f k (([(⟨a0_0, a0_1, l0_2⟩ : S24)] : List (S24)))).bind fun t140 => (pelotonlaw03_GridCells.j0 k a1 a2 (!t140) a0_0 a0_1 l0_2)) else (pelotonlaw03_GridCells.j0 k a1 a2 true a0_0 a0_1 l0_2))
theorem pelotonlaw03_GridCells.mono_l : ∀ k, (∀ y0 y1 y2 y3 y4 y5, LeO (pelotonlaw03_GridCells.j0 k y0 y1 y2 y3 y4 y5) (pelotonlaw03_GridCells.j0 (k + 1) y0 y1 y2 y3 y4 y5)) ∧ (∀ y0 y1 y2 y3 y4 y5 y6 y7 y8, LeO (pelotonlaw03_GridCells.j1 k y0 y1 y2 y3 y4 y5 y6 y7 y8) (pelotonlaw03_GridCells.j1 (k + 1) y0 y1 y2 y3 y4 y5 y6 y7 y8)) ∧ (∀ y0 y1 y2, LeO (pelotonlaw03_GridCells.j2 k y0 y1 y2) (pelotonlaw03_GridCells.j2 (k + 1) y0 y1 y2))
 | 0 => ⟨fun _ _ _ _ _ _ r h => by simp [pelotonlaw03_GridCells.j0] at h, fun _ _ _ _ _ _ _ _ _ r h => by simp [pelotonlaw03_GridCells.j1] at h, fun _ _ _ r h => by simp [pelotonlaw03_GridCells.j2] at h⟩
 | k + 1 => by
  obtain ⟨ih0, ih1, ih2⟩ := pelotonlaw03_GridCells.mono_l k
  refine ⟨?_, ?_, ?_⟩
  ·
   intro y0 y1 y2 y3 y4 y5
   unfold pelotonlaw03_GridCells.j0
   repeat' first
   | (with_reducible exact ih0 _ _ _ _ _ _)
   | (with_reducible exact ih1 _ _ _ _ _ _ _ _ _)
   | (with_reducible exact ih2 _ _ _)
   | (with_reducible exact grid_At.mono _ _ _ _ _ _)
   | (with_reducible exact grid_Right.mono _ _)
   | (with_reducible exact pelotonlaw03_small.mono _ _)
   | (with_reducible exact LeO.refl _)
   | (with_reducible exact LeO.none _)
   | (with_reducible refine LeO.ite ?_ ?_)
   | (with_reducible refine LeO.bind ?_ (fun _ => ?_))
   | exact ih0 _ _ _ _ _ _
   | exact ih1 _ _ _ _ _ _ _ _ _
   | exact ih2 _ _ _
   | exact grid_At.mono _ _ _ _ _ _
   | exact grid_Right.mono _ _
   | exact pelotonlaw03_small.mono _ _
   | exact LeO.none _
   | refine LeO.ite ?_ ?_
   | refine LeO.bind ?_ (fun _ => ?_)
  ·
   intro y0 y1 y2 y3 y4 y5 y6 y7 y8
   unfold pelotonlaw03_GridCells.j1
   repeat' first
   | (with_reducible exact ih0 _ _ _ _ _ _)
   | (with_reducible exact ih1 _ _ _ _ _ _ _ _ _)
   | (with_reducible exact ih2 _ _ _)
   | (with_reducible exact grid_At.mono _ _ _ _ _ _)
   | (with_reducible exact grid_Right.mono _ _)
   | (with_reducible exact pelotonlaw03_small.mono _ _)
   | (with_reducible exact LeO.refl _)
   | (with_reducible exact LeO.none _)
   | (with_reducible refine LeO.ite ?_ ?_)
   | (with_reducible refine LeO.bind ?_ (fun _ => ?_))
   | exact ih0 _ _ _ _ _ _
   | exact ih1 _ _ _ _ _ _ _ _ _
   | exact ih2 _ _ _
   | exact grid_At.mono _ _ _ _ _ _
   | exact grid_Right.mono _ _
   | exact pelotonlaw03_small.mono _ _
   | exact LeO.none _
   | refine LeO.ite ?_ ?_
   | refine LeO.bind ?_ (fun _ => ?_)
  ·
   intro y0 y1 y2
   unfold pelotonlaw03_GridCells.j2
   repeat' first
   | (with_reducible exact ih0 _ _ _ _ _ _)
   | (with_reducible exact ih1 _ _ _ _ _ _ _ _ _)
   | (with_reducible exact ih2 _ _ _)
   | (with_reducible exact grid_At.mono _ _ _ _ _ _)
   | (with_reducible exact grid_Right.mono _ _)
   | (with_reducible exact pelotonlaw03_small.mono _ _)
   | (with_reducible exact LeO.refl _)
   | (with_reducible exact LeO.none _)
   | (with_reducible refine LeO.ite ?_ ?_)
   | (with_reducible refine LeO.bind ?_ (fun _ => ?_))
   | exact ih0 _ _ _ _ _ _
   | exact ih1 _ _ _ _ _ _ _ _ _
   | exact ih2 _ _ _
   | exact grid_At.mono _ _ _ _ _ _
   | exact grid_Right.mono _ _
   | exact pelotonlaw03_small.mono _ _
   | exact LeO.none _
   | refine LeO.ite ?_ ?_
   | refine LeO.bind ?_ (fun _ => ?_)
theorem pelotonlaw03_GridCells.mono : ∀ a0 a1 a2 a3 a4 k, LeO (pelotonlaw03_GridCells.f k a0 a1 a2 a3 a4) (pelotonlaw03_GridCells.f (k + 1) a0 a1 a2 a3 a4) := by
 intro a0 a1 a2 a3 a4 k
 obtain ⟨ih0, ih1, ih2⟩ := pelotonlaw03_GridCells.mono_l k
 unfold pelotonlaw03_GridCells.f
 repeat' first
   | (with_reducible exact ih0 _ _ _ _ _ _)
   | (with_reducible exact ih1 _ _ _ _ _ _ _ _ _)
   | (with_reducible exact ih2 _ _ _)
   | (with_reducible exact grid_At.mono _ _ _ _ _ _)
   | (with_reducible exact grid_Right.mono _ _)
   | (with_reducible exact pelotonlaw03_small.mono _ _)
   | (with_reducible exact LeO.refl _)
   | (with_reducible exact LeO.none _)
   | (with_reducible refine LeO.ite ?_ ?_)
   | (with_reducible refine LeO.bind ?_ (fun _ => ?_))
   | exact ih0 _ _ _ _ _ _
   | exact ih1 _ _ _ _ _ _ _ _ _
   | exact ih2 _ _ _
   | exact grid_At.mono _ _ _ _ _ _
   | exact grid_Right.mono _ _
   | exact pelotonlaw03_small.mono _ _
   | exact LeO.none _
   | refine LeO.ite ?_ ?_
   | refine LeO.bind ?_ (fun _ => ?_)
def pelotonlaw03_GridCells.T6 : Bool × List (List Nat × List Nat) := (true, [([], []), ([0], [0]), ([1], [1]), ([], []), ([2, 3], [2, 3]), ([4, 2], [4]), ([5], [5]), ([5, 5], [5]), ([6, 7, 5], [5, 6, 7]), ([8, 7, 5], [5, 8]), ([5], [5]), ([9, 10, 5], [5, 9, 10]), ([5, 11], [5, 11]), ([12, 9], [12]), ([13, 13], [13]), ([14, 13], [13, 14]), ([13, 15], [13, 15]), ([16, 14], [16]), ([17], [17]), ([17], [17]), ([18, 19, 17], [17, 18, 19]), ([17, 20], [17, 20]), ([21, 17], [21]), ([22], [22]), ([23, 22, 22], [22, 23]), ([24], [24]), ([24], [24]), ([24], [24]), ([24], [24]), ([26, 27, 28, 24, 24], [24, 26, 27, 28]), ([25, 29, 24], [24, 25, 29]), ([24, 30, 22], [22, 24, 30]), ([22, 31], [22, 31]), ([32, 29], [32]), ([33], [33]), ([34, 33], [33, 34]), ([35, 33, 33], [33, 35]), ([36], [36]), ([37, 36], [36, 37]), ([36, 38, 33], [33, 36, 38]), ([33, 39], [33, 39])])
def pelotonlaw03_GridCells.B6 : List Nat := [0, 1, 3, 0, 15, 31, 63, 63, 255, 511, 63, 2047, 4095, 8191, 16383, 32767, 65535, 131071, 262143, 262143, 1048575, 2097151, 4194303, 8388607, 16777215, 33554431, 33554431, 33554431, 33554431, 503316479, 1073741823, 2147483647, 4294967295, 8589934591, 17179869183, 34359738367, 68719476735, 137438953471, 274877906943, 549755813887, 1099511627775]
theorem pelotonlaw03_GridCells.tab6 : rtab .any (opsOf Try.f4 6) = pelotonlaw03_GridCells.T6 := by kernel_rfl
theorem pelotonlaw03_GridCells.bits6 : waitsOk pelotonlaw03_GridCells.T6.2 pelotonlaw03_GridCells.B6 = true := by kernel_rfl
set_option maxHeartbeats 60000000 in
set_option maxRecDepth 100000 in
theorem pelotonlaw03_GridCells.callsV (k : Nat) (a0_0 : Int) (a0_1 : Int) (P0_2_ : Nat → Prop) (A0_2 : Option Addr) (c0_2 : Nat) (l0_2 : List Int) (a1 : Int) (a2 : Int) (r : Bool) (w : World) (hs0_2 : Kd.V (Kd.int .i32) 21 w w.heap.size (fun k_ => P0_2_ k_) (.slice A0_2 l0_2.length c0_2) l0_2) (h : pelotonlaw03_GridCells.f k a0_0 a0_1 l0_2 a1 a2 = some r) :
  Calls Try.prog 4 #[.agg #[.int .i64 a0_0, .int .i64 a0_1, .slice A0_2 l0_2.length c0_2], .int .i64 a1, .int .i64 a2] w fun e w' => e = .returned (.bool r) ∧ Below w.heap.size w w' := by
 have hu24 := Try.underlying24
 have HO0_2 := Aside0.mk (show Kd.V (Kd.int .i32) 21 w w.heap.size (fun k_ => (P0_2_ k_ ∨ w.heap.size ≤ k_)) (.slice A0_2 l0_2.length c0_2) l0_2 from Kd.V_mono hs0_2 (fun k_ hk => .inl hk))
 have HB := Aside0.mk (Below.refl w.heap.size w)
 have H : ((pelotonlaw03_awake.f).bind fun t136 => (if t136 = true then ((pelotonlaw03_small.f k (([(⟨a0_0, a0_1, l0_2⟩ : S24)] : List (S24)))).bind fun t140 => (pelotonlaw03_GridCells.j0 k a1 a2 (!t140) a0_0 a0_1 l0_2)) else (pelotonlaw03_GridCells.j0 k a1 a2 true a0_0 a0_1 l0_2))) = some r := h
 clear h
 have HC4 := Aside0.mk H
 clear H
 go_enter Try.func4, Try.ntmps4
 go_upto_region 1 with (first | ((with_reducible refine gate_dst (N := 3) rfl ?_); (try (refine gate_guard (by rfl) ?_; dsimp only)); refine box_event ?hg (N := 3) ?hd (cs := #[.int .i64 a0_0, .int .i64 a0_1, .slice A0_2 l0_2.length c0_2]) (t := 24) ?hr ?_; (case hd => rfl); (case hg => rfl); (case hr => first | (go_simp; done) | (go_simp; rfl)); intro gb135 hg w5 hbox hb; have BK135 := Aside0.mk (hbox); have GW135 := Aside0.mk ((by rw [hg]; exact (below_size (bw_ HB)) : w.heap.size ≤ gb135)); have GE135 := Aside0.mk ((by rw [hg]; exact (below_size (bw_ HB)) : w.heap.size ≤ gb135)); replace HO0_2 := Aside0.mk (Kd.V_below (Kd.V_elderB (tV_ HO0_2) gb135 (Nat.le_of_eq hg.symm)) hb); replace HB := Aside0.mk (below_step (bw_ HB) hb); clear hb hbox hg))
 (try simp only [Act.put, l_1, l_2, l_3])
 go_cut [20] (fun v20 wc => ∃ (kq : Nat) (x20_3 : Bool), v20 = .bool x20_3 ∧ Aside0 (pelotonlaw03_GridCells.j0 kq a1 a2 x20_3 a0_0 a0_1 l0_2 = some r) ∧ Aside0 (kq ≤ k) ∧ Aside0 (Kd.V (Kd.int .i32) 21 wc w.heap.size (fun k_ => (P0_2_ k_ ∨ w.heap.size ≤ k_) ∧ k_ ≠ gb135) (.slice A0_2 l0_2.length c0_2) l0_2) ∧ Aside0 (wc.heap[gb135]? = some (.cells #[.int .i64 a0_0, .int .i64 a0_1, (.slice A0_2 l0_2.length c0_2)] 24 (0, 0))) ∧ Aside0 (Below w.heap.size w wc))
 case first =>
  have H := HC4.out
  clear HC4
  replace H := Option.bind_eq_some_iff.mp H
  obtain ⟨t136, A60, H⟩ := H
  replace H : (if t136 = true then ((pelotonlaw03_small.f k (([(⟨a0_0, a0_1, l0_2⟩ : S24)] : List (S24)))).bind fun t140 => (pelotonlaw03_GridCells.j0 k a1 a2 (!t140) a0_0 a0_1 l0_2)) else (pelotonlaw03_GridCells.j0 k a1 a2 true a0_0 a0_1 l0_2)) = some r := H
  have A6 := Aside0.mk A60
  clear A60
  by_cases c7 : t136 = true
  rotate_left
  ·
   replace c7 := Bool.eq_false_iff.mpr c7
   subst c7
   have H1 : (pelotonlaw03_GridCells.j0 k a1 a2 true a0_0 a0_1 l0_2) = some r := by rw [if_neg (show ¬ (false = true) by decide)] at H; exact H
   clear H
   have H := H1
   clear H1
   have H' := Aside0.mk H
   clear H
   go_wp2_with (first | ((with_reducible refine gate_callee (f := 10) rfl ?_); refine goesL_ (some 13) rfl rfl Try.func10 (by kernel_rfl) rfl #[] rfl (by (try simp only [l_4, l_5, l_6]); first | done | rfl | (simp only [l_7, l_8]; rfl)) ?_; (with_reducible refine (pelotonlaw03_awake.calls  false _ A6.out).mono ?_); rintro e w14 ⟨rfl, hb⟩; (try clear A6); refine ⟨_, rfl, ?_⟩; replace HO0_2 := Aside0.mk (Kd.V_below (tV_ HO0_2) hb); replace BK135 := Aside0.mk (blk_below (tk_ BK135) hb); replace HB := Aside0.mk (below_step (bw_ HB) hb); (try clear hb); (try clear hb2); (try clear hk); (try clear hi)))
   go_meet
   case rel => exact ⟨_, (true), (by first | rfl | (simp; done) | (simp [*]; done)), H', ⟨by first | omega | exact Nat.le_refl _⟩, ⟨tV_ HO0_2⟩, ⟨tk_ BK135⟩, ⟨by repeat (first | (with_reducible first | exact HB.out | apply b_a | apply b_n | apply b_d | refine b_s ?_ GE135.out) | exact HB.out)⟩⟩
  subst c7
  have H1 : ((pelotonlaw03_small.f k (([(⟨a0_0, a0_1, l0_2⟩ : S24)] : List (S24)))).bind fun t140 => (pelotonlaw03_GridCells.j0 k a1 a2 (!t140) a0_0 a0_1 l0_2)) = some r := by rw [if_pos rfl] at H; exact H
  clear H
  have H := H1
  clear H1
  obtain ⟨y137, hy137⟩ : ∃ y_ : List (S24), y_ = (([(⟨a0_0, a0_1, l0_2⟩ : S24)] : List (S24))) := ⟨_, rfl⟩
  replace H : ((pelotonlaw03_small.f k y137).bind fun t140 => (pelotonlaw03_GridCells.j0 k a1 a2 (!t140) a0_0 a0_1 l0_2)) = some r := by first | (rw [hy137]; with_reducible exact H) | (have H2_ := (Option.bind_some _ _).symm.trans H; rw [hy137]; with_reducible exact H2_) | (have H2_ := (Option.bind_some _ _).symm.trans H; with_reducible exact H2_) | with_reducible exact H | (rw [hy137]; exact H) | exact H
  have Ny137 := Aside0.mk hy137
  clear hy137
  replace H := Option.bind_eq_some_iff.mp H
  obtain ⟨t140, A80, H⟩ := H
  replace H : (pelotonlaw03_GridCells.j0 k a1 a2 (!t140) a0_0 a0_1 l0_2) = some r := H
  have A8 := Aside0.mk A80
  clear A80
  have H' := Aside0.mk H
  clear H
  go_wp2_with (first | ((with_reducible refine gate_callee (f := 10) rfl ?_); refine goesL_ (some 13) rfl rfl Try.func10 (by kernel_rfl) rfl #[] rfl (by (try simp only [l_4, l_5, l_6]); first | done | rfl | (simp only [l_7, l_8]; rfl)) ?_; (with_reducible refine (pelotonlaw03_awake.calls  true _ A6.out).mono ?_); rintro e w9 ⟨rfl, hb⟩; (try clear A6); refine ⟨_, rfl, ?_⟩; replace HO0_2 := Aside0.mk (Kd.V_below (tV_ HO0_2) hb); replace BK135 := Aside0.mk (blk_below (tk_ BK135) hb); replace HB := Aside0.mk (below_step (bw_ HB) hb); (try clear hb); (try clear hb2); (try clear hk); (try clear hi); have hcz10_0 := bc_0 BK135; have hcz10_1 := bc_1 BK135; have hcz10_2 := bc_2 BK135; have hfz10_0 := blk_frozen BK135.out 0; have hfz10_1 := blk_frozen BK135.out 1; have hfz10_2 := blk_frozen BK135.out 2) | ((with_reducible refine gate_dst (N := 17) rfl ?_); (try (refine gate_guard (by rfl) ?_; dsimp only)); refine Kd.N_lit k24 _ 24 ?hg (N' := 17) ?hd (xs := ([(⟨a0_0, a0_1, l0_2⟩ : S24)] : List (S24))) (inner := [.int .i64 a0_0, .int .i64 a0_1, .slice A0_2 l0_2.length c0_2]) (ok := (fun k_ => (P0_2_ k_ ∨ w.heap.size ≤ k_) ∧ k_ ≠ gb135)) (okp := (fun k_ => (P0_2_ k_ ∨ w.heap.size ≤ k_) ∧ k_ ≠ gb135)) ?hr ?hp (fun _ hk => hk) ((show ∀ k_, (_ : Nat) ≤ k_ → (fun k_ => (P0_2_ k_ ∨ w.heap.size ≤ k_) ∧ k_ ≠ gb135) k_ from fun k_ hk => ⟨(.inr (Nat.le_trans (below_size (bw_ HB)) hk)), Kd.freshB (tk_ BK135) k_ hk⟩) _ (Nat.le_refl _)) (Below.refl _ _) (Nat.le_refl _) (by simp) ?_; (case hd => rfl); (case hg => rfl); (case hr => first | (go_simp; done) | (go_simp; rfl)); (case hp => exact (Reps.c3 (show Kd.FK k24 _ _ (⟨a0_0, a0_1, l0_2⟩ : S24) [.int .i64 a0_0, .int .i64 a0_1, .slice A0_2 l0_2.length c0_2] from (k24_mkF _ _ (⟨a0_0, a0_1, l0_2⟩ : S24) (Kd.V_reads' (Kd.V_mono (ok' := (fun k_ => (P0_2_ k_ ∨ w.heap.size ≤ k_) ∧ k_ ≠ gb135)) (HO0_2.out) (fun k_ hk => ⟨hk.1, hk.2⟩))).2.1 (Kd.V_F (Kd.V_mono (ok' := (fun k_ => (P0_2_ k_ ∨ w.heap.size ≤ k_) ∧ k_ ≠ gb135)) (HO0_2.out) (fun k_ hk => ⟨hk.1, hk.2⟩))))) (Reps.none _ _))); intro v138 w11 ho12 hb hg_ hnew_; clear hg_ hnew_; (first | rw [← Ny137.out] at ho12 | (simp only [Int.reduceToNat] at ho12; rw [← Ny137.out] at ho12)); have HO139 := Aside0.mk (Kd.N_lower ho12 (below_size (bw_ HB))); replace HO0_2 := Aside0.mk (Kd.V_elder' (tV_ HO0_2) (by first | exact Kd.N_base ho12 | exact Kd.N_base (Kd.S_N ho12)) hb); replace BK135 := Aside0.mk (blk_below (tk_ BK135) hb); replace HB := Aside0.mk (below_step (bw_ HB) hb); clear hb ho12; obtain ⟨Ao13, co13, eo13⟩ := Kd.N_slice HO139.out; subst eo13) | (go_at_call 11; (with_reducible refine (pelotonlaw03_small.calls k _ _ y137 t140 _ ?side1 ?side2 A8.out).mono ?_); (case side1 => repeat (first | exact (Kd.N_reads' HO139.out).2.2 | (with_reducible refine Kd.C_alloc ?_ _) | (with_reducible refine Kd.C_drewN ?_ _) | (with_reducible refine Kd.C_drew ?_))); (case side2 => exact (Kd.N_reads' HO139.out).2.1); rintro e w' ⟨rfl, ⟨nd, rfl⟩⟩))
  go_meet
  case rel => exact ⟨_, (!t140), (by first | rfl | (simp; done) | (simp [*]; done)), H', ⟨by first | omega | exact Nat.le_refl _⟩, ⟨by (with_reducible repeat (first | apply Kd.V_alloc | apply Kd.V_drewN | apply Kd.V_drew)); exact Kd.V_mono HO0_2.out (fun _ hk => ⟨hk.1.1, hk.1.2⟩)⟩, ⟨tk_ BK135⟩, ⟨by repeat (first | (with_reducible first | exact HB.out | apply b_a | apply b_n | apply b_d | refine b_s ?_ GE135.out) | exact HB.out)⟩⟩
 case rest => as_aux_lemma =>
  clear HC4
  try clear c1
  try clear p2
  try clear c3
  try clear c4
  try clear c7
  try clear c10
  try clear hcz10_0
  try clear hcz10_1
  try clear hcz10_2
  try clear hfz10_0
  try clear hfz10_1
  try clear hfz10_2
  obtain ⟨kq, x20_3, rfl, HA, HJ3, HO_136002, BK135, HB⟩ := hcut
  cases kq with
  | zero => exact absurd HA.out (by simp [pelotonlaw03_GridCells.j0])
  | succ kj3 =>
   have H := HA.out
   clear HA
   simp only [pelotonlaw03_GridCells.j0] at H
   by_cases c15 : x20_3 = true
   ·
    subst c15
    have H1 : ((pelotonlaw03_awake.f).bind fun t141 => (some t141)) = some r := by rw [if_pos rfl] at H; exact H
    clear H
    have H := H1
    clear H1
    replace H := Option.bind_eq_some_iff.mp H
    obtain ⟨t141, A160, H⟩ := H
    replace H : (some t141) = some r := H
    have A16 := Aside0.mk A160
    clear A160
    obtain rfl := Option.some.inj H
    go_wp2_with (first | ((with_reducible refine gate_callee (f := 10) rfl ?_); refine goesL_ (some 21) rfl rfl Try.func10 (by kernel_rfl) rfl #[] rfl (by (try simp only [l_4, l_5, l_6]); first | done | rfl | (simp only [l_7, l_8]; rfl)) ?_; (with_reducible refine (pelotonlaw03_awake.calls  t141 _ A16.out).mono ?_); rintro e w17 ⟨rfl, hb⟩; (try clear A16); refine ⟨_, rfl, ?_⟩; replace HO_136002 := Aside0.mk (Kd.V_below (tV_ HO_136002) hb); replace BK135 := Aside0.mk (blk_below (tk_ BK135) hb); replace HB := Aside0.mk (below_step (bw_ HB) hb); (try clear hb); (try clear hb2); (try clear hk); (try clear hi)))
    go_ret
    exact ⟨by first | rfl | (simp [errW_none, errW_some] <;> rfl) | (simp [*, errW_none, errW_some] <;> rfl), by repeat (first | (with_reducible first | exact HB.out | apply b_a | apply b_n | apply b_d | refine b_s ?_ GE135.out) | exact HB.out)⟩
   replace c15 := Bool.eq_false_iff.mpr c15
   subst c15
   have H1 : ((pelotonref03_Right.f a0_0 a0_1 l0_2).bind fun t142 => ((grid_At.f kj3 a0_0 a0_1 l0_2 a1 a2).bind fun bt143 => (if t142 = true then (if a1 ≥ 0 then (if a1 < a0_0 then (if a2 ≥ 0 then (pelotonlaw03_GridCells.j1 kj3 a1 a2 t142 bt143.1 bt143.2 (decide (a2 < a0_1)) a0_0 a0_1 l0_2) else (pelotonlaw03_GridCells.j1 kj3 a1 a2 t142 bt143.1 bt143.2 false a0_0 a0_1 l0_2)) else (pelotonlaw03_GridCells.j1 kj3 a1 a2 t142 bt143.1 bt143.2 false a0_0 a0_1 l0_2)) else (pelotonlaw03_GridCells.j1 kj3 a1 a2 t142 bt143.1 bt143.2 false a0_0 a0_1 l0_2)) else (pelotonlaw03_GridCells.j1 kj3 a1 a2 t142 bt143.1 bt143.2 false a0_0 a0_1 l0_2)))) = some r := by rw [if_neg (show ¬ (false = true) by decide)] at H; exact H
   clear H
   have H := H1
   clear H1
   replace H := Option.bind_eq_some_iff.mp H
   obtain ⟨t142, A180, H⟩ := H
   replace H : ((grid_At.f kj3 a0_0 a0_1 l0_2 a1 a2).bind fun bt143 => (if t142 = true then (if a1 ≥ 0 then (if a1 < a0_0 then (if a2 ≥ 0 then (pelotonlaw03_GridCells.j1 kj3 a1 a2 t142 bt143.1 bt143.2 (decide (a2 < a0_1)) a0_0 a0_1 l0_2) else (pelotonlaw03_GridCells.j1 kj3 a1 a2 t142 bt143.1 bt143.2 false a0_0 a0_1 l0_2)) else (pelotonlaw03_GridCells.j1 kj3 a1 a2 t142 bt143.1 bt143.2 false a0_0 a0_1 l0_2)) else (pelotonlaw03_GridCells.j1 kj3 a1 a2 t142 bt143.1 bt143.2 false a0_0 a0_1 l0_2)) else (pelotonlaw03_GridCells.j1 kj3 a1 a2 t142 bt143.1 bt143.2 false a0_0 a0_1 l0_2))) = some r := H
   have A18 := Aside0.mk A180
   clear A180
   replace H := Option.bind_eq_some_iff.mp H
   obtain ⟨⟨t143, t144⟩, A190, H⟩ := H
   replace H : (if t142 = true then (if a1 ≥ 0 then (if a1 < a0_0 then (if a2 ≥ 0 then (pelotonlaw03_GridCells.j1 kj3 a1 a2 t142 t143 t144 (decide (a2 < a0_1)) a0_0 a0_1 l0_2) else (pelotonlaw03_GridCells.j1 kj3 a1 a2 t142 t143 t144 false a0_0 a0_1 l0_2)) else (pelotonlaw03_GridCells.j1 kj3 a1 a2 t142 t143 t144 false a0_0 a0_1 l0_2)) else (pelotonlaw03_GridCells.j1 kj3 a1 a2 t142 t143 t144 false a0_0 a0_1 l0_2)) else (pelotonlaw03_GridCells.j1 kj3 a1 a2 t142 t143 t144 false a0_0 a0_1 l0_2)) = some r := H
   have A19 := Aside0.mk A190
   clear A190
   have HC20 := Aside0.mk H
   clear H
   have hcz21_0 := bc_0 BK135
   have hcz21_1 := bc_1 BK135
   have hcz21_2 := bc_2 BK135
   have hfz21_0 := blk_frozen BK135.out 0
   have hfz21_1 := blk_frozen BK135.out 1
   have hfz21_2 := blk_frozen BK135.out 2
   go_upto_region 5 with (first | ((with_reducible refine gate_callee (f := 15) rfl ?_); refine goesL_ (some 23) rfl rfl Try.func15 (by kernel_rfl) rfl #[.agg #[.int .i64 a0_0, .int .i64 a0_1, .slice A0_2 l0_2.length c0_2]] rfl (by (try simp only [l_4, l_5, l_6]); first | done | rfl | (simp only [l_7, l_8]; rfl)) ?_; (with_reducible refine (pelotonref03_Right.calls a0_0 a0_1 _ _ l0_2 t142 _ ?side1 ?side2 A18.out).mono ?_); (case side1 => repeat (first | exact (Kd.V_reads' HO_136002.out).2.2 | (with_reducible refine Kd.C_alloc ?_ _) | (with_reducible refine Kd.C_drewN ?_ _) | (with_reducible refine Kd.C_drew ?_))); (case side2 => exact (Kd.V_reads' HO_136002.out).2.1); rintro e w22 ⟨rfl, hb⟩; (try clear A18); refine ⟨_, rfl, ?_⟩; replace HO_136002 := Aside0.mk (Kd.V_below (tV_ HO_136002) hb); replace BK135 := Aside0.mk (blk_below (tk_ BK135) hb); replace HB := Aside0.mk (below_step (bw_ HB) hb); (try clear hb); (try clear hb2); (try clear hk); (try clear hi); have hcz23_0 := bc_0 BK135; have hcz23_1 := bc_1 BK135; have hcz23_2 := bc_2 BK135; have hfz23_0 := blk_frozen BK135.out 0; have hfz23_1 := blk_frozen BK135.out 1; have hfz23_2 := blk_frozen BK135.out 2) | ((with_reducible refine gate_callee (f := 16) rfl ?_); refine goesL_ (some 28) rfl rfl Try.func16 (by kernel_rfl) rfl #[.agg #[.int .i64 a0_0, .int .i64 a0_1, .slice A0_2 l0_2.length c0_2], .int .i64 a1, .int .i64 a2] rfl (by (try simp only [l_4, l_5, l_6]); first | done | rfl | (simp only [l_7, l_8]; rfl)) ?_; (with_reducible refine (grid_At.calls kj3 a0_0 a0_1 (fun k_ => ((P0_2_ k_ ∨ w.heap.size ≤ k_) ∧ k_ ≠ gb135)) _ _ l0_2 a1 a2 t143 t144 _ ?side1 A19.out).mono ?_); (case side1 => exact HO_136002.out); rintro e w24 ⟨rfl, hb⟩; (try clear A19); refine ⟨_, rfl, ?_⟩; replace HO_136002 := Aside0.mk (Kd.V_below (tV_ HO_136002) hb); replace BK135 := Aside0.mk (blk_below (tk_ BK135) hb); replace HB := Aside0.mk (below_step (bw_ HB) hb); (try clear hb); (try clear hb2); (try clear hk); (try clear hi)))
   (try simp only [Act.put, l_1, l_2, l_3])
   go_cut [10] (fun v10 wc => ∃ (kq : Nat) (x10_19 : Bool), v10 = .bool x10_19 ∧ Aside0 (pelotonlaw03_GridCells.j1 kq a1 a2 t142 t143 t144 x10_19 a0_0 a0_1 l0_2 = some r) ∧ Aside0 (kq ≤ kj3) ∧ Aside0 (Kd.V (Kd.int .i32) 21 wc w.heap.size (fun k_ => (P0_2_ k_ ∨ w.heap.size ≤ k_) ∧ k_ ≠ gb135) (.slice A0_2 l0_2.length c0_2) l0_2) ∧ Aside0 (wc.heap[gb135]? = some (.cells #[.int .i64 a0_0, .int .i64 a0_1, (.slice A0_2 l0_2.length c0_2)] 24 (0, 0))) ∧ Aside0 (Below w.heap.size w wc))
   case first =>
    have H := HC20.out
    clear HC20
    by_cases c25 : t142 = true
    rotate_left
    ·
     replace c25 := Bool.eq_false_iff.mpr c25
     subst c25
     have H1 : (pelotonlaw03_GridCells.j1 kj3 a1 a2 false t143 t144 false a0_0 a0_1 l0_2) = some r := by rw [if_neg (show ¬ (false = true) by decide)] at H; exact H
     clear H
     have H := H1
     clear H1
     have H' := Aside0.mk H
     clear H
     go_wp2
     go_meet
     case rel => exact ⟨_, (false), (by first | rfl | (simp; done) | (simp [*]; done)), H', ⟨by have := HJ3.out; first | omega | exact Nat.le_refl _⟩, ⟨tV_ HO_136002⟩, ⟨tk_ BK135⟩, ⟨by repeat (first | (with_reducible first | exact HB.out | apply b_a | apply b_n | apply b_d | refine b_s ?_ GE135.out) | exact HB.out)⟩⟩
    subst c25
    have H1 : (if a1 ≥ 0 then (if a1 < a0_0 then (if a2 ≥ 0 then (pelotonlaw03_GridCells.j1 kj3 a1 a2 true t143 t144 (decide (a2 < a0_1)) a0_0 a0_1 l0_2) else (pelotonlaw03_GridCells.j1 kj3 a1 a2 true t143 t144 false a0_0 a0_1 l0_2)) else (pelotonlaw03_GridCells.j1 kj3 a1 a2 true t143 t144 false a0_0 a0_1 l0_2)) else (pelotonlaw03_GridCells.j1 kj3 a1 a2 true t143 t144 false a0_0 a0_1 l0_2)) = some r := by rw [if_pos rfl] at H; exact H
    clear H
    have H := H1
    clear H1
    by_cases c26 : a1 ≥ 0
    rotate_left
    ·
     rw [if_neg c26] at H
     have c26b0 : decide (0 ≤ a1) = false := decide_eq_false c26
     clear c26
     (first | rw [c26b0] | (simp only [i64_w, i32_w]; rw [c26b0]) | skip)
     have H' := Aside0.mk H
     clear H
     go_wp2
     go_meet
     case rel => exact ⟨_, (false), (by first | rfl | (simp; done) | (simp [*]; done)), H', ⟨by have := HJ3.out; first | omega | exact Nat.le_refl _⟩, ⟨tV_ HO_136002⟩, ⟨tk_ BK135⟩, ⟨by repeat (first | (with_reducible first | exact HB.out | apply b_a | apply b_n | apply b_d | refine b_s ?_ GE135.out) | exact HB.out)⟩⟩
    rw [if_pos c26] at H
    have c26b0 : decide (0 ≤ a1) = true := decide_eq_true c26
    clear c26
    (first | rw [c26b0] | (simp only [i64_w, i32_w]; rw [c26b0]) | skip)
    by_cases c27 : a1 < a0_0
    rotate_left
    ·
     rw [if_neg c27] at H
     have c27b0 : decide (a1 < a0_0) = false := decide_eq_false c27
     clear c27
     have H' := Aside0.mk H
     clear H
     have hcz31_0 := bc_0 BK135
     have hcz31_1 := bc_1 BK135
     have hcz31_2 := bc_2 BK135
     have hfz31_0 := blk_frozen BK135.out 0
     have hfz31_1 := blk_frozen BK135.out 1
     have hfz31_2 := blk_frozen BK135.out 2
     go_wp2
     go_meet
     case rel => exact ⟨_, (false), (by first | rfl | (simp; done) | (simp [*]; done)), H', ⟨by have := HJ3.out; first | omega | exact Nat.le_refl _⟩, ⟨tV_ HO_136002⟩, ⟨tk_ BK135⟩, ⟨by repeat (first | (with_reducible first | exact HB.out | apply b_a | apply b_n | apply b_d | refine b_s ?_ GE135.out) | exact HB.out)⟩⟩
    rw [if_pos c27] at H
    have c27b0 : decide (a1 < a0_0) = true := decide_eq_true c27
    clear c27
    by_cases c28 : a2 ≥ 0
    rotate_left
    ·
     rw [if_neg c28] at H
     have c28b0 : decide (0 ≤ a2) = false := decide_eq_false c28
     clear c28
     have H' := Aside0.mk H
     clear H
     have hcz30_0 := bc_0 BK135
     have hcz30_1 := bc_1 BK135
     have hcz30_2 := bc_2 BK135
     have hfz30_0 := blk_frozen BK135.out 0
     have hfz30_1 := blk_frozen BK135.out 1
     have hfz30_2 := blk_frozen BK135.out 2
     go_wp2
     go_meet
     case rel => exact ⟨_, (false), (by first | rfl | (simp; done) | (simp [*]; done)), H', ⟨by have := HJ3.out; first | omega | exact Nat.le_refl _⟩, ⟨tV_ HO_136002⟩, ⟨tk_ BK135⟩, ⟨by repeat (first | (with_reducible first | exact HB.out | apply b_a | apply b_n | apply b_d | refine b_s ?_ GE135.out) | exact HB.out)⟩⟩
    rw [if_pos c28] at H
    have c28b0 : decide (0 ≤ a2) = true := decide_eq_true c28
    clear c28
    have H' := Aside0.mk H
    clear H
    have hcz29_0 := bc_0 BK135
    have hcz29_1 := bc_1 BK135
    have hcz29_2 := bc_2 BK135
    have hfz29_0 := blk_frozen BK135.out 0
    have hfz29_1 := blk_frozen BK135.out 1
    have hfz29_2 := blk_frozen BK135.out 2
    go_wp2
    go_meet
    case rel => exact ⟨_, (decide (a2 < a0_1)), (by first | rfl | (simp; done) | (simp [*]; done)), H', ⟨by have := HJ3.out; first | omega | exact Nat.le_refl _⟩, ⟨tV_ HO_136002⟩, ⟨tk_ BK135⟩, ⟨by repeat (first | (with_reducible first | exact HB.out | apply b_a | apply b_n | apply b_d | refine b_s ?_ GE135.out) | exact HB.out)⟩⟩
   case rest => as_aux_lemma =>
    clear HC20
    try clear c1
    try clear c2
    try clear p2
    try clear c3
    try clear c4
    try clear c7
    try clear c10
    try clear c15
    try clear c16
    try clear c25
    try clear c26
    try clear c26b0
    try clear c27
    try clear c27b0
    try clear c28
    try clear c28b0
    try clear hcz10_0
    try clear hcz10_1
    try clear hcz10_2
    try clear hcz21_0
    try clear hcz21_1
    try clear hcz21_2
    try clear hcz23_0
    try clear hcz23_1
    try clear hcz23_2
    try clear hcz29_0
    try clear hcz29_1
    try clear hcz29_2
    try clear hcz30_0
    try clear hcz30_1
    try clear hcz30_2
    try clear hcz31_0
    try clear hcz31_1
    try clear hcz31_2
    try clear hfz10_0
    try clear hfz10_1
    try clear hfz10_2
    try clear hfz21_0
    try clear hfz21_1
    try clear hfz21_2
    try clear hfz23_0
    try clear hfz23_1
    try clear hfz23_2
    try clear hfz29_0
    try clear hfz29_1
    try clear hfz29_2
    try clear hfz30_0
    try clear hfz30_1
    try clear hfz30_2
    try clear hfz31_0
    try clear hfz31_1
    try clear hfz31_2
    try clear p2
    obtain ⟨kq, x10_19, rfl, HA, HJ19, HO_136002, BK135, HB⟩ := hcut
    cases kq with
    | zero => exact absurd HA.out (by simp [pelotonlaw03_GridCells.j1])
    | succ kj19 =>
     have H := HA.out
     clear HA
     simp only [pelotonlaw03_GridCells.j1] at H
     have HC32 := Aside0.mk H
     clear H
     go_upto_region 6 with (fail)
     go_cut [92] (fun v92 wc => ∃ (kq : Nat) (x92_31 : Bool), v92 = .bool x92_31 ∧ Aside0 (pelotonlaw03_GridCells.j2 kq a1 a2 x92_31 = some r) ∧ Aside0 (kq ≤ kj19) ∧ Aside0 (Kd.V (Kd.int .i32) 21 wc w.heap.size (fun k_ => (P0_2_ k_ ∨ w.heap.size ≤ k_) ∧ k_ ≠ gb135) (.slice A0_2 l0_2.length c0_2) l0_2) ∧ Aside0 (wc.heap[gb135]? = some (.cells #[.int .i64 a0_0, .int .i64 a0_1, (.slice A0_2 l0_2.length c0_2)] 24 (0, 0))) ∧ Aside0 (Below w.heap.size w wc))
     case first =>
      have H := HC32.out
      clear HC32
      obtain ⟨y145, hy145⟩ : ∃ y_ : List (S24), y_ = (([(⟨a0_0, a0_1, l0_2⟩ : S24)] : List (S24))) := ⟨_, rfl⟩
      replace H : ((grid_Right.f kj19 y145).bind fun t148 => (if (t148 != t142) = true then (pelotonlaw03_GridCells.j2 kj19 a1 a2 true) else ((pelotonlaw03_two.f ([] : List Int)).bind fun bt149 => ((grid_Right.f kj19 (([(⟨a0_0, a0_1, l0_2⟩ : S24), (⟨bt149.1, bt149.2.1, bt149.2.2⟩ : S24)] : List (S24)))).bind fun t157 => (if (t157 != t142) = true then (pelotonlaw03_GridCells.j2 kj19 a1 a2 true) else ((grid_Right.f kj19 ([] : List (S24))).bind fun t158 => (if t158 = true then (if (t144 != x10_19) = true then (pelotonlaw03_GridCells.j2 kj19 a1 a2 true) else (if x10_19 = true then ((pelotonref03_Cell.f a0_0 a0_1 l0_2 a1 a2).bind fun t159 => (if t143 = t159 then (pelotonlaw03_GridCells.j2 kj19 a1 a2 false) else (pelotonlaw03_GridCells.j2 kj19 a1 a2 true))) else (pelotonlaw03_GridCells.j2 kj19 a1 a2 (t143 != 0)))) else (pelotonlaw03_GridCells.j2 kj19 a1 a2 true)))))))) = some r := by first | (rw [hy145]; with_reducible exact H) | (have H2_ := (Option.bind_some _ _).symm.trans H; rw [hy145]; with_reducible exact H2_) | (have H2_ := (Option.bind_some _ _).symm.trans H; with_reducible exact H2_) | with_reducible exact H | (rw [hy145]; exact H) | exact H
      have Ny145 := Aside0.mk hy145
      clear hy145
      replace H := Option.bind_eq_some_iff.mp H
      obtain ⟨t148, A330, H⟩ := H
      replace H : (if (t148 != t142) = true then (pelotonlaw03_GridCells.j2 kj19 a1 a2 true) else ((pelotonlaw03_two.f ([] : List Int)).bind fun bt149 => ((grid_Right.f kj19 (([(⟨a0_0, a0_1, l0_2⟩ : S24), (⟨bt149.1, bt149.2.1, bt149.2.2⟩ : S24)] : List (S24)))).bind fun t157 => (if (t157 != t142) = true then (pelotonlaw03_GridCells.j2 kj19 a1 a2 true) else ((grid_Right.f kj19 ([] : List (S24))).bind fun t158 => (if t158 = true then (if (t144 != x10_19) = true then (pelotonlaw03_GridCells.j2 kj19 a1 a2 true) else (if x10_19 = true then ((pelotonref03_Cell.f a0_0 a0_1 l0_2 a1 a2).bind fun t159 => (if t143 = t159 then (pelotonlaw03_GridCells.j2 kj19 a1 a2 false) else (pelotonlaw03_GridCells.j2 kj19 a1 a2 true))) else (pelotonlaw03_GridCells.j2 kj19 a1 a2 (t143 != 0)))) else (pelotonlaw03_GridCells.j2 kj19 a1 a2 true))))))) = some r := H
      have A33 := Aside0.mk A330
      clear A330
      by_cases c34 : (t148 != t142) = true
      ·
       rw [if_pos c34] at H
       have c34b0 : (t148 != t142) = true := c34
       (try (have c34b1 : decide (t148 = t142) = false := by simpa using c34))
       (try (have c34b2 : (t148 == t142) = false := by simpa using c34))
       (try (have c34b3 : ¬ (t148 = t142) := by simpa using c34))
       clear c34
       (first | rw [c34b0] | (simp only [i64_w, i32_w]; rw [c34b0]) | skip)
       have H' := Aside0.mk H
       clear H
       try go_wp2
       replace HO_136002 := Aside0.mk (Kd.V_drew HO_136002.out)
       replace BK135 := Aside0.mk (k_d BK135.out)
       replace HB := Aside0.mk (b_d HB.out)
       refine start_ (n := 41) (S := fun w' => w'.cell? ⟨gb135, 0, none⟩ = some (.int .i64 a0_0) ∧ w'.cell? ⟨gb135, 1, none⟩ = some (.int .i64 a0_1) ∧ w'.cell? ⟨gb135, 2, none⟩ = some (.slice A0_2 l0_2.length c0_2)) (ds := []) #[false, false, false, false, false, false, false, false, false, false, false, false, false, false, false, false, false, false, false, false, false, false, false, false, false, false, false, false, false, false, false, false, false, false, false, false, false, false, false, false, false] (by kernel_rfl) rfl rfl ⟨(blk_cell BK135.out 0).trans rfl, (blk_cell BK135.out 1).trans rfl, (blk_cell BK135.out 2).trans rfl⟩ (fun hHeld => ?_); refine with_tabW pelotonlaw03_GridCells.tab6 pelotonlaw03_GridCells.bits6 (fun HT_ HW_ => ?_)
       generalize wc.drew = w35 at HO_136002 BK135 HB hHeld ⊢
       refine pu_ (i := 3) (N := some 55) (bs_ 41 8) rfl rfl HT_ ?_
       refine take_ (i := 0) (N := some 52) (v := ?_) (a' := ?_) (bs_ 41 9) rfl rfl (take_ofW HT_.out HW_.out (by kernel_rfl)) (fun _ _ _ h => h) (Or.inl ⟨by rfl, ?_⟩) hHeld ?_ ?_
       rotate_left
       ·
        rintro w' ⟨s0, s1, s2⟩
        go_simp
        with_reducible rfl
       rotate_left
       ·
        simp only [Act.put, l_1, l_2, l_3, i64_w, i32_w]
        rfl
       refine one_ (i := 1) (N := some 53) (bs_ 41 11) rfl rfl (one_of HT_.out (by kernel_rfl)) (by decide) (fun K hK => ?_)
       refine Kd.N_lit_step k24 _ 24 ?hg (N' := 53) ?hd (xs := ([(⟨a0_0, a0_1, l0_2⟩ : S24)] : List (S24))) (inner := [.int .i64 a0_0, .int .i64 a0_1, .slice A0_2 l0_2.length c0_2]) (ok := (fun k_ => (P0_2_ k_ ∨ w.heap.size ≤ k_) ∧ k_ ≠ gb135)) (okp := (fun k_ => (P0_2_ k_ ∨ w.heap.size ≤ k_) ∧ k_ ≠ gb135)) ?hr ?hp (fun _ hk => hk) ((show ∀ k_, (_ : Nat) ≤ k_ → (fun k_ => (P0_2_ k_ ∨ w.heap.size ≤ k_) ∧ k_ ≠ gb135) k_ from fun k_ hk => ⟨(.inr (Nat.le_trans (below_size (bw_ HB)) hk)), Kd.freshB (tk_ BK135) k_ hk⟩) _ (Nat.le_refl _)) (Below.refl _ _) (Nat.le_refl _) (by simp) ?_; (case hd => rfl); (case hg => rfl); (case hr => first | exact bld_ 3 ((.agg #[(.int .i64 0), (.int .i64 0), (.slice none 0 0)])) rfl rfl (by simp only [Act.eval, Array.getD_eq_getD_getElem?, l_4, l_5, l_6, List.getElem?_toArray, List.getElem?_cons_succ, List.getElem?_cons_zero, Option.getD_some]; kernel_rfl) | (go_simp; done) | (go_simp; rfl)); (case hp => exact (Reps.c3 (show Kd.FK k24 _ _ (⟨a0_0, a0_1, l0_2⟩ : S24) [.int .i64 a0_0, .int .i64 a0_1, .slice A0_2 l0_2.length c0_2] from (k24_mkF _ _ (⟨a0_0, a0_1, l0_2⟩ : S24) (Kd.V_reads' (Kd.V_mono (ok' := (fun k_ => (P0_2_ k_ ∨ w.heap.size ≤ k_) ∧ k_ ≠ gb135)) (HO_136002.out) (fun k_ hk => ⟨hk.1, hk.2⟩))).2.1 (Kd.V_F (Kd.V_mono (ok' := (fun k_ => (P0_2_ k_ ∨ w.heap.size ≤ k_) ∧ k_ ≠ gb135)) (HO_136002.out) (fun k_ hk => ⟨hk.1, hk.2⟩))))) (Reps.none _ _)))
       intro v146 w36 ho37 hb hg_ hnew_
       clear hg_ hnew_
       (first | rw [← Ny145.out] at ho37 | (simp only [Int.reduceToNat] at ho37; rw [← Ny145.out] at ho37))
       have HO147 := Aside0.mk (Kd.N_lower ho37 (below_size (bw_ HB)))
       replace HO_136002 := Aside0.mk (Kd.V_elder' (tV_ HO_136002) (by first | exact Kd.N_base ho37 | exact Kd.N_base (Kd.S_N ho37)) hb)
       replace BK135 := Aside0.mk (blk_below (tk_ BK135) hb)
       replace HB := Aside0.mk (below_step (bw_ HB) hb)
       clear hb ho37
       obtain ⟨Ao38, co38, eo38⟩ := Kd.N_slice HO147.out
       (first | subst eo38 | (injection eo38 with f1_ f2_ f3_; have f4_ := f1_.symm; have f5_ := f3_.symm; clear f1_ f2_ f3_; subst f4_; subst f5_))
       refine hK.out _ _ ⟨(blk_cell BK135.out 0).trans rfl, (blk_cell BK135.out 1).trans rfl, (blk_cell BK135.out 2).trans rfl⟩ (fun hHeld => ?_)
       clear hK K
       refine no_ (N := some 53) ?_
       refine one_ (i := 2) (N := some 54) (bs_ 41 15) rfl rfl (one_of HT_.out (by kernel_rfl)) (by decide) (fun K hK => ?_)
       refine goes_ Try.func17 (by kernel_rfl) rfl #[.slice Ao38 y145.length co38] (by rfl) rfl rfl (by (try simp only [l_4, l_5, l_6]); first | done | rfl | (simp only [l_7, l_8]; rfl)) ?_
       with_reducible refine (grid_Right.calls kj19 _ _ y145 t148 _ ?side1 ?side2 A33.out).mono ?_
       (case side1 => repeat (first | exact (Kd.N_reads' HO147.out).2.2 | (with_reducible refine Kd.C_alloc ?_ _) | (with_reducible refine Kd.C_drewN ?_ _) | (with_reducible refine Kd.C_drew ?_)))
       (case side2 => exact (Kd.N_reads' HO147.out).2.1)
       rintro e w39 ⟨rfl, hb⟩
       refine ⟨_, rfl, ?_⟩
       replace HO_136002 := Aside0.mk (Kd.V_below (tV_ HO_136002) hb)
       replace HO147 := Aside0.mk (Kd.N_below (tN_ HO147) hb)
       replace BK135 := Aside0.mk (blk_below (tk_ BK135) hb)
       replace HB := Aside0.mk (below_step (bw_ HB) hb)
       (try clear hb)
       (try clear hb2)
       (try clear hk)
       (try clear hi)
       refine hK.out _ _ ⟨(blk_cell BK135.out 0).trans rfl, (blk_cell BK135.out 1).trans rfl, (blk_cell BK135.out 2).trans rfl⟩ (fun hHeld => ?_)
       clear hK K
       refine no_ (N := some 54) ?_
       refine pu_ (i := 4) (N := some 56) (bs_ 41 31) rfl rfl HT_ ?_
       refine pu_ (i := 5) (N := some 57) (bs_ 41 63) rfl rfl HT_ ?_
       refine pn_ (i := 6) (N := some 58) (bs_ 41 127) rfl rfl HT_ ?_
       refine pn_ (i := 7) (N := some 59) (bs_ 41 255) rfl rfl HT_ ?_
       refine pn_ (i := 8) (N := some 60) (bs_ 41 511) rfl rfl HT_ ?_
       refine pn_ (i := 9) (N := some 61) (bs_ 41 1023) rfl rfl HT_ ?_
       refine pn_ (i := 10) (N := some 62) (bs_ 41 2047) rfl rfl HT_ ?_
       refine pn_ (i := 11) (N := some 63) (bs_ 41 4095) rfl rfl HT_ ?_
       refine pu_ (i := 12) (N := some 64) (bs_ 41 8191) rfl rfl HT_ ?_
       refine pu_ (i := 13) (N := some 65) (bs_ 41 16383) rfl rfl HT_ ?_
       refine pn_ (i := 14) (N := some 66) (bs_ 41 32767) rfl rfl HT_ ?_
       refine pn_ (i := 15) (N := some 67) (bs_ 41 65535) rfl rfl HT_ ?_
       refine pu_ (i := 16) (N := some 68) (bs_ 41 131071) rfl rfl HT_ ?_
       refine pu_ (i := 17) (N := some 69) (bs_ 41 262143) rfl rfl HT_ ?_
       refine pn_ (i := 18) (N := some 70) (bs_ 41 524287) rfl rfl HT_ ?_
       refine pn_ (i := 19) (N := some 71) (bs_ 41 1048575) rfl rfl HT_ ?_
       refine pn_ (i := 20) (N := some 72) (bs_ 41 2097151) rfl rfl HT_ ?_
       refine pu_ (i := 21) (N := some 73) (bs_ 41 4194303) rfl rfl HT_ ?_
       refine pu_ (i := 22) (N := some 74) (bs_ 41 8388607) rfl rfl HT_ ?_
       refine pn_ (i := 23) (N := some 75) (bs_ 41 16777215) rfl rfl HT_ ?_
       refine pn_ (i := 24) (N := some 76) (bs_ 41 33554431) rfl rfl HT_ ?_
       refine pn_ (i := 25) (N := some 77) (bs_ 41 67108863) rfl rfl HT_ ?_
       refine pn_ (i := 26) (N := some 78) (bs_ 41 134217727) rfl rfl HT_ ?_
       refine pn_ (i := 27) (N := some 79) (bs_ 41 268435455) rfl rfl HT_ ?_
       refine pn_ (i := 28) (N := some 80) (bs_ 41 536870911) rfl rfl HT_ ?_
       refine pn_ (i := 29) (N := some 81) (bs_ 41 1073741823) rfl rfl HT_ ?_
       refine pn_ (i := 30) (N := some 82) (bs_ 41 2147483647) rfl rfl HT_ ?_
       refine pn_ (i := 31) (N := some 83) (bs_ 41 4294967295) rfl rfl HT_ ?_
       refine pu_ (i := 32) (N := some 84) (bs_ 41 8589934591) rfl rfl HT_ ?_
       refine pu_ (i := 33) (N := some 85) (bs_ 41 17179869183) rfl rfl HT_ ?_
       refine pn_ (i := 34) (N := some 86) (bs_ 41 34359738367) rfl rfl HT_ ?_
       refine pn_ (i := 35) (N := some 87) (bs_ 41 68719476735) rfl rfl HT_ ?_
       refine pn_ (i := 36) (N := some 88) (bs_ 41 137438953471) rfl rfl HT_ ?_
       refine pn_ (i := 37) (N := some 89) (bs_ 41 274877906943) rfl rfl HT_ ?_
       refine pn_ (i := 38) (N := some 90) (bs_ 41 549755813887) rfl rfl HT_ ?_
       refine pn_ (i := 39) (N := some 91) (bs_ 41 1099511627775) rfl rfl HT_ ?_
       refine pu_ (i := 40) (N := some 92) (bs_ 41 2199023255551) rfl rfl HT_ ?_
       refine done_ (done_of HT_.out (by kernel_rfl)) ?_
       try go_wp2
       go_meet
       case rel => exact ⟨_, (true), (by first | rfl | (simp; done) | (simp [*]; done)), H', ⟨by have := HJ3.out; have := HJ19.out; first | omega | exact Nat.le_refl _⟩, ⟨by (with_reducible repeat (first | apply Kd.V_alloc | apply Kd.V_drewN | apply Kd.V_drew)); exact Kd.V_mono HO_136002.out (fun _ hk => ⟨hk.1.1, hk.1.2⟩)⟩, ⟨tk_ BK135⟩, ⟨by repeat (first | (with_reducible first | exact HB.out | apply b_a | apply b_n | apply b_d | refine b_s ?_ GE135.out) | exact HB.out)⟩⟩
      rw [if_neg c34] at H
      have c34b0 : (t148 != t142) = false := by simpa using c34
      (try (have c34b1 : decide (t148 = t142) = true := by simpa using c34))
      (try (have c34b2 : (t148 == t142) = true := by simpa using c34))
      clear c34
      (first | rw [c34b0] | (simp only [i64_w, i32_w]; rw [c34b0]) | skip)
      replace H := Option.bind_eq_some_iff.mp H
      obtain ⟨⟨t149, t150, t151⟩, A400, H⟩ := H
      replace H : ((grid_Right.f kj19 (([(⟨a0_0, a0_1, l0_2⟩ : S24), (⟨t149, t150, t151⟩ : S24)] : List (S24)))).bind fun t157 => (if (t157 != t142) = true then (pelotonlaw03_GridCells.j2 kj19 a1 a2 true) else ((grid_Right.f kj19 ([] : List (S24))).bind fun t158 => (if t158 = true then (if (t144 != x10_19) = true then (pelotonlaw03_GridCells.j2 kj19 a1 a2 true) else (if x10_19 = true then ((pelotonref03_Cell.f a0_0 a0_1 l0_2 a1 a2).bind fun t159 => (if t143 = t159 then (pelotonlaw03_GridCells.j2 kj19 a1 a2 false) else (pelotonlaw03_GridCells.j2 kj19 a1 a2 true))) else (pelotonlaw03_GridCells.j2 kj19 a1 a2 (t143 != 0)))) else (pelotonlaw03_GridCells.j2 kj19 a1 a2 true))))) = some r := H
      have A40 := Aside0.mk A400
      clear A400
      obtain ⟨y154, hy154⟩ : ∃ y_ : List (S24), y_ = (([(⟨a0_0, a0_1, l0_2⟩ : S24), (⟨t149, t150, t151⟩ : S24)] : List (S24))) := ⟨_, rfl⟩
      replace H : ((grid_Right.f kj19 y154).bind fun t157 => (if (t157 != t142) = true then (pelotonlaw03_GridCells.j2 kj19 a1 a2 true) else ((grid_Right.f kj19 ([] : List (S24))).bind fun t158 => (if t158 = true then (if (t144 != x10_19) = true then (pelotonlaw03_GridCells.j2 kj19 a1 a2 true) else (if x10_19 = true then ((pelotonref03_Cell.f a0_0 a0_1 l0_2 a1 a2).bind fun t159 => (if t143 = t159 then (pelotonlaw03_GridCells.j2 kj19 a1 a2 false) else (pelotonlaw03_GridCells.j2 kj19 a1 a2 true))) else (pelotonlaw03_GridCells.j2 kj19 a1 a2 (t143 != 0)))) else (pelotonlaw03_GridCells.j2 kj19 a1 a2 true))))) = some r := by first | (rw [hy154]; with_reducible exact H) | (have H2_ := (Option.bind_some _ _).symm.trans H; rw [hy154]; with_reducible exact H2_) | (have H2_ := (Option.bind_some _ _).symm.trans H; with_reducible exact H2_) | with_reducible exact H | (rw [hy154]; exact H) | exact H
      have Ny154 := Aside0.mk hy154
      clear hy154
      replace H := Option.bind_eq_some_iff.mp H
      obtain ⟨t157, A410, H⟩ := H
      replace H : (if (t157 != t142) = true then (pelotonlaw03_GridCells.j2 kj19 a1 a2 true) else ((grid_Right.f kj19 ([] : List (S24))).bind fun t158 => (if t158 = true then (if (t144 != x10_19) = true then (pelotonlaw03_GridCells.j2 kj19 a1 a2 true) else (if x10_19 = true then ((pelotonref03_Cell.f a0_0 a0_1 l0_2 a1 a2).bind fun t159 => (if t143 = t159 then (pelotonlaw03_GridCells.j2 kj19 a1 a2 false) else (pelotonlaw03_GridCells.j2 kj19 a1 a2 true))) else (pelotonlaw03_GridCells.j2 kj19 a1 a2 (t143 != 0)))) else (pelotonlaw03_GridCells.j2 kj19 a1 a2 true)))) = some r := H
      have A41 := Aside0.mk A410
      clear A410
      by_cases c42 : (t157 != t142) = true
      ·
       rw [if_pos c42] at H
       have c42b0 : (t157 != t142) = true := c42
       (try (have c42b1 : decide (t157 = t142) = false := by simpa using c42))
       (try (have c42b2 : (t157 == t142) = false := by simpa using c42))
       (try (have c42b3 : ¬ (t157 = t142) := by simpa using c42))
       clear c42
       have H' := Aside0.mk H
       clear H
       try go_wp2
       replace HO_136002 := Aside0.mk (Kd.V_drew HO_136002.out)
       replace BK135 := Aside0.mk (k_d BK135.out)
       replace HB := Aside0.mk (b_d HB.out)
       refine start_ (n := 41) (S := fun w' => w'.cell? ⟨gb135, 0, none⟩ = some (.int .i64 a0_0) ∧ w'.cell? ⟨gb135, 1, none⟩ = some (.int .i64 a0_1) ∧ w'.cell? ⟨gb135, 2, none⟩ = some (.slice A0_2 l0_2.length c0_2)) (ds := []) #[false, false, false, false, false, false, false, false, false, false, false, false, false, false, false, false, false, false, false, false, false, false, false, false, false, false, false, false, false, false, false, false, false, false, false, false, false, false, false, false, false] (by kernel_rfl) rfl rfl ⟨(blk_cell BK135.out 0).trans rfl, (blk_cell BK135.out 1).trans rfl, (blk_cell BK135.out 2).trans rfl⟩ (fun hHeld => ?_); refine with_tabW pelotonlaw03_GridCells.tab6 pelotonlaw03_GridCells.bits6 (fun HT_ HW_ => ?_)
       generalize wc.drew = w43 at HO_136002 BK135 HB hHeld ⊢
       refine pu_ (i := 3) (N := some 55) (bs_ 41 8) rfl rfl HT_ ?_
       refine take_ (i := 0) (N := some 52) (v := ?_) (a' := ?_) (bs_ 41 9) rfl rfl (take_ofW HT_.out HW_.out (by kernel_rfl)) (fun _ _ _ h => h) (Or.inl ⟨by rfl, ?_⟩) hHeld ?_ ?_
       rotate_left
       ·
        rintro w' ⟨s0, s1, s2⟩
        go_simp
        with_reducible rfl
       rotate_left
       ·
        simp only [Act.put, l_1, l_2, l_3, i64_w, i32_w]
        rfl
       refine one_ (i := 1) (N := some 53) (bs_ 41 11) rfl rfl (one_of HT_.out (by kernel_rfl)) (by decide) (fun K hK => ?_)
       refine Kd.N_lit_step k24 _ 24 ?hg (N' := 53) ?hd (xs := ([(⟨a0_0, a0_1, l0_2⟩ : S24)] : List (S24))) (inner := [.int .i64 a0_0, .int .i64 a0_1, .slice A0_2 l0_2.length c0_2]) (ok := (fun k_ => (P0_2_ k_ ∨ w.heap.size ≤ k_) ∧ k_ ≠ gb135)) (okp := (fun k_ => (P0_2_ k_ ∨ w.heap.size ≤ k_) ∧ k_ ≠ gb135)) ?hr ?hp (fun _ hk => hk) ((show ∀ k_, (_ : Nat) ≤ k_ → (fun k_ => (P0_2_ k_ ∨ w.heap.size ≤ k_) ∧ k_ ≠ gb135) k_ from fun k_ hk => ⟨(.inr (Nat.le_trans (below_size (bw_ HB)) hk)), Kd.freshB (tk_ BK135) k_ hk⟩) _ (Nat.le_refl _)) (Below.refl _ _) (Nat.le_refl _) (by simp) ?_; (case hd => rfl); (case hg => rfl); (case hr => first | exact bld_ 3 ((.agg #[(.int .i64 0), (.int .i64 0), (.slice none 0 0)])) rfl rfl (by simp only [Act.eval, Array.getD_eq_getD_getElem?, l_4, l_5, l_6, List.getElem?_toArray, List.getElem?_cons_succ, List.getElem?_cons_zero, Option.getD_some]; kernel_rfl) | (go_simp; done) | (go_simp; rfl)); (case hp => exact (Reps.c3 (show Kd.FK k24 _ _ (⟨a0_0, a0_1, l0_2⟩ : S24) [.int .i64 a0_0, .int .i64 a0_1, .slice A0_2 l0_2.length c0_2] from (k24_mkF _ _ (⟨a0_0, a0_1, l0_2⟩ : S24) (Kd.V_reads' (Kd.V_mono (ok' := (fun k_ => (P0_2_ k_ ∨ w.heap.size ≤ k_) ∧ k_ ≠ gb135)) (HO_136002.out) (fun k_ hk => ⟨hk.1, hk.2⟩))).2.1 (Kd.V_F (Kd.V_mono (ok' := (fun k_ => (P0_2_ k_ ∨ w.heap.size ≤ k_) ∧ k_ ≠ gb135)) (HO_136002.out) (fun k_ hk => ⟨hk.1, hk.2⟩))))) (Reps.none _ _)))
       intro v146 w44 ho45 hb hg_ hnew_
       clear hg_ hnew_
       (first | rw [← Ny145.out] at ho45 | (simp only [Int.reduceToNat] at ho45; rw [← Ny145.out] at ho45))
       have HO147 := Aside0.mk (Kd.N_lower ho45 (below_size (bw_ HB)))
       replace HO_136002 := Aside0.mk (Kd.V_elder' (tV_ HO_136002) (by first | exact Kd.N_base ho45 | exact Kd.N_base (Kd.S_N ho45)) hb)
       replace BK135 := Aside0.mk (blk_below (tk_ BK135) hb)
       replace HB := Aside0.mk (below_step (bw_ HB) hb)
       clear hb ho45
       obtain ⟨Ao46, co46, eo46⟩ := Kd.N_slice HO147.out
       (first | subst eo46 | (injection eo46 with f1_ f2_ f3_; have f4_ := f1_.symm; have f5_ := f3_.symm; clear f1_ f2_ f3_; subst f4_; subst f5_))
       refine hK.out _ _ ⟨(blk_cell BK135.out 0).trans rfl, (blk_cell BK135.out 1).trans rfl, (blk_cell BK135.out 2).trans rfl⟩ (fun hHeld => ?_)
       clear hK K
       refine no_ (N := some 53) ?_
       refine one_ (i := 2) (N := some 54) (bs_ 41 15) rfl rfl (one_of HT_.out (by kernel_rfl)) (by decide) (fun K hK => ?_)
       refine goes_ Try.func17 (by kernel_rfl) rfl #[.slice Ao46 y145.length co46] (by rfl) rfl rfl (by (try simp only [l_4, l_5, l_6]); first | done | rfl | (simp only [l_7, l_8]; rfl)) ?_
       with_reducible refine (grid_Right.calls kj19 _ _ y145 t148 _ ?side1 ?side2 A33.out).mono ?_
       (case side1 => repeat (first | exact (Kd.N_reads' HO147.out).2.2 | (with_reducible refine Kd.C_alloc ?_ _) | (with_reducible refine Kd.C_drewN ?_ _) | (with_reducible refine Kd.C_drew ?_)))
       (case side2 => exact (Kd.N_reads' HO147.out).2.1)
       rintro e w47 ⟨rfl, hb⟩
       refine ⟨_, rfl, ?_⟩
       replace HO_136002 := Aside0.mk (Kd.V_below (tV_ HO_136002) hb)
       replace HO147 := Aside0.mk (Kd.N_below (tN_ HO147) hb)
       replace BK135 := Aside0.mk (blk_below (tk_ BK135) hb)
       replace HB := Aside0.mk (below_step (bw_ HB) hb)
       (try clear hb)
       (try clear hb2)
       (try clear hk)
       (try clear hi)
       refine hK.out _ _ ⟨(blk_cell BK135.out 0).trans rfl, (blk_cell BK135.out 1).trans rfl, (blk_cell BK135.out 2).trans rfl⟩ (fun hHeld => ?_)
       clear hK K
       refine no_ (N := some 54) ?_
       refine pu_ (i := 4) (N := some 56) (bs_ 41 31) rfl rfl HT_ ?_
       refine pu_ (i := 5) (N := some 57) (bs_ 41 63) rfl rfl HT_ ?_
       refine pu_ (i := 10) (N := some 62) (bs_ 41 1087) rfl rfl HT_ ?_
       refine take_ (i := 6) (N := some 58) (v := ?_) (a' := ?_) (bs_ 41 1151) rfl rfl (take_ofW HT_.out HW_.out (by kernel_rfl)) (fun _ _ _ h => h) (Or.inl ⟨by rfl, ?_⟩) hHeld ?_ ?_
       rotate_left
       ·
        rintro w' ⟨s0, s1, s2⟩
        go_simp
        with_reducible rfl
       rotate_left
       ·
        simp only [Act.put, l_1, l_2, l_3, i64_w, i32_w]
        rfl
       refine one_ (i := 7) (N := some 59) (bs_ 41 1279) rfl rfl (one_of HT_.out (by kernel_rfl)) (by decide) (fun K hK => ?_)
       refine goes_ Try.func18 (by kernel_rfl) rfl #[.slice none 0 0] (by rfl) rfl rfl (by (try simp only [l_4, l_5, l_6]); first | done | rfl | (simp only [l_7, l_8]; rfl)) ?_
       refine (pelotonlaw03_two.calls (fun k_ => some k_ = (.slice none 0 0 : Value).ownBlock) (.slice none 0 0) ([] : List Int) t149 t150 t151 w _ ?side1 ?side2 A40.out).mono ?_
       (case side1 => repeat (first | (with_reducible first | exact HB.out | apply b_a | apply b_n | apply b_d | refine b_s ?_ GE135.out) | exact HB.out))
       (case side2 => exact Kd.R_nil _ _ _ _ _)
       rintro e w48 ⟨v152, rfl, ho0, hb, hkp⟩
       refine ⟨_, rfl, ?_⟩
       have HO153 := Aside0.mk (Kd.R_mono (ok' := fun k_ => (w.heap.size ≤ k_)) ho0 (fun k_ hk_ => Or.elim hk_ (fun hs_ => absurd hs_ (by simp [Value.ownBlock])) (fun hn_ => (Nat.le_trans (below_size (bw_ HB)) hn_))))
       replace HO_136002 := Aside0.mk (Kd.V_mono (ok' := fun k_ => (P0_2_ k_ ∨ w.heap.size ≤ k_) ∧ some k_ ≠ (.slice Ao46 y145.length co46 : Value).ownBlock ∧ k_ ≠ gb135 ∧ some k_ ≠ (v152 : Value).ownBlock) (Kd.V_keptB (HO_136002.out) hkp (fun k_ hk_ hs_ => (fun e_ => by simp [Value.ownBlock] at e_) hs_)) (fun k_ hk_ => ⟨hk_.1.1.1, hk_.1.2, hk_.1.1.2, fun e_ => Or.elim (ho0.1 k_ e_.symm) (fun hs_ => hk_.2.1 hs_) (fun hn_ => Nat.not_le.2 hk_.2.2 hn_)⟩))
       replace BK135 := Aside0.mk (blk_kept (tk_ BK135) hkp (fun hs_ => (fun e_ => by simp [Value.ownBlock] at e_) hs_))
       replace HO147 := Aside0.mk (Kd.N_mono (ok' := fun k_ => (P0_2_ k_ ∨ w.heap.size ≤ k_) ∧ k_ ≠ gb135 ∧ some k_ ≠ (v152 : Value).ownBlock) (Kd.N_keptB (HO147.out) hkp (fun k_ hk_ hs_ => (fun e_ => by simp [Value.ownBlock] at e_) hs_)) (fun k_ hk_ => ⟨hk_.1.1, hk_.1.2, fun e_ => Or.elim (ho0.1 k_ e_.symm) (fun hs_ => hk_.2.1 hs_) (fun hn_ => Nat.not_le.2 hk_.2.2 hn_)⟩))
       replace HB := Aside0.mk (hb)
       (try clear hb)
       (try clear hkp)
       (try clear ho0)
       obtain ⟨Ao49, co49, eo49⟩ := Kd.R_slice HO153.out
       (first | subst eo49 | (injection eo49 with f1_ f2_ f3_; have f4_ := f1_.symm; have f5_ := f3_.symm; clear f1_ f2_ f3_; subst f4_; subst f5_))
       refine hK.out _ _ ⟨(blk_cell BK135.out 0).trans rfl, (blk_cell BK135.out 1).trans rfl, (blk_cell BK135.out 2).trans rfl⟩ (fun hHeld => ?_)
       clear hK K
       refine no_ (N := some 59) ?_
       refine one_ (i := 8) (N := some 60) (bs_ 41 1535) rfl rfl (one_of HT_.out (by kernel_rfl)) (by decide) (fun K hK => ?_)
       refine Kd.N_lit_step k24 _ 24 ?hg (N' := 60) ?hd (xs := ([(⟨a0_0, a0_1, l0_2⟩ : S24), (⟨t149, t150, t151⟩ : S24)] : List (S24))) (inner := [.int .i64 a0_0, .int .i64 a0_1, .slice A0_2 l0_2.length c0_2, .int .i64 t149, .int .i64 t150, .slice Ao49 t151.length co49]) (ok := (fun k_ => (P0_2_ k_ ∨ w.heap.size ≤ k_) ∧ some k_ ≠ (.slice Ao46 y145.length co46 : Value).ownBlock ∧ k_ ≠ gb135)) (okp := (fun k_ => (P0_2_ k_ ∨ w.heap.size ≤ k_) ∧ some k_ ≠ (.slice Ao46 y145.length co46 : Value).ownBlock ∧ k_ ≠ gb135)) ?hr ?hp (fun _ hk => hk) ((show ∀ k_, (_ : Nat) ≤ k_ → (fun k_ => (P0_2_ k_ ∨ w.heap.size ≤ k_) ∧ some k_ ≠ (.slice Ao46 y145.length co46 : Value).ownBlock ∧ k_ ≠ gb135) k_ from fun k_ hk => ⟨(.inr (Nat.le_trans (below_size (bw_ HB)) hk)), Kd.fresh' (Kd.N_lt (tN_ HO147)) k_ hk, Kd.freshB (tk_ BK135) k_ hk⟩) _ (Nat.le_refl _)) (Below.refl _ _) (Nat.le_refl _) (by simp) ?_; (case hd => rfl); (case hg => rfl); (case hr => first | exact bld_ 3 ((.agg #[(.int .i64 0), (.int .i64 0), (.slice none 0 0)])) rfl rfl (by simp only [Act.eval, Array.getD_eq_getD_getElem?, l_4, l_5, l_6, List.getElem?_toArray, List.getElem?_cons_succ, List.getElem?_cons_zero, Option.getD_some]; kernel_rfl) | (go_simp; done) | (go_simp; rfl)); (case hp => exact (Reps.c3 (show Kd.FK k24 _ _ (⟨a0_0, a0_1, l0_2⟩ : S24) [.int .i64 a0_0, .int .i64 a0_1, .slice A0_2 l0_2.length c0_2] from (k24_mkF _ _ (⟨a0_0, a0_1, l0_2⟩ : S24) (Kd.V_reads' (Kd.V_mono (ok' := (fun k_ => (P0_2_ k_ ∨ w.heap.size ≤ k_) ∧ some k_ ≠ (.slice Ao46 y145.length co46 : Value).ownBlock ∧ k_ ≠ gb135)) (HO_136002.out) (fun k_ hk => ⟨hk.1, ⟨hk.2.1, hk.2.2.1⟩⟩))).2.1 (Kd.V_F (Kd.V_mono (ok' := (fun k_ => (P0_2_ k_ ∨ w.heap.size ≤ k_) ∧ some k_ ≠ (.slice Ao46 y145.length co46 : Value).ownBlock ∧ k_ ≠ gb135)) (HO_136002.out) (fun k_ hk => ⟨hk.1, ⟨hk.2.1, hk.2.2.1⟩⟩))))) (Reps.c3 (show Kd.FK k24 _ _ (⟨t149, t150, t151⟩ : S24) [.int .i64 t149, .int .i64 t150, .slice Ao49 t151.length co49] from (k24_mkF _ _ (⟨t149, t150, t151⟩ : S24) (Kd.R_reads' (Kd.R_mono (ok' := (fun k_ => (P0_2_ k_ ∨ w.heap.size ≤ k_) ∧ some k_ ≠ (.slice Ao46 y145.length co46 : Value).ownBlock ∧ k_ ≠ gb135)) (Kd.R_types (Kd.R_apart' (HO153.out) (Kd.N_typed HO147.out) (by decide)) BK135.out (by decide)) (fun k_ hk => ⟨(.inr (hk.1.1)), ⟨hk.1.2, hk.2⟩⟩))).2.1 (Kd.R_F (Kd.R_mono (ok' := (fun k_ => (P0_2_ k_ ∨ w.heap.size ≤ k_) ∧ some k_ ≠ (.slice Ao46 y145.length co46 : Value).ownBlock ∧ k_ ≠ gb135)) (Kd.R_types (Kd.R_apart' (HO153.out) (Kd.N_typed HO147.out) (by decide)) BK135.out (by decide)) (fun k_ hk => ⟨(.inr (hk.1.1)), ⟨hk.1.2, hk.2⟩⟩))))) (Reps.none _ _))))
       intro v155 w50 ho51 hb hg_ hnew_
       clear hg_ hnew_
       (first | rw [← Ny154.out] at ho51 | (simp only [Int.reduceToNat] at ho51; rw [← Ny154.out] at ho51))
       have n0_ := Aside0.mk (Kd.V_elder' (tV_ HO_136002) (by first | exact Kd.N_base ho51 | exact Kd.N_base (Kd.S_N ho51)) hb)
       have n1_ := Aside0.mk (Kd.N_elder' (tN_ HO147) (by first | exact Kd.N_base ho51 | exact Kd.N_base (Kd.S_N ho51)) hb)
       have n2_ := Aside0.mk (Kd.N_lower ho51 (below_size (bw_ HB)))
       have n3_ := Aside0.mk (blk_below (tk_ BK135) hb)
       have n4_ := Aside0.mk (below_step (bw_ HB) hb)
       clear HO_136002
       clear HO147
       clear BK135
       clear HB
       clear HO153
       have HO_136002 := n0_
       have HO147 := n1_
       have HO156 := n2_
       have BK135 := n3_
       have HB := n4_
       clear n0_ n1_ n2_ n3_ n4_
       clear hb ho51
       obtain ⟨Ao52, co52, eo52⟩ := Kd.N_slice HO156.out
       (first | subst eo52 | (injection eo52 with f1_ f2_ f3_; have f4_ := f1_.symm; have f5_ := f3_.symm; clear f1_ f2_ f3_; subst f4_; subst f5_))
       refine hK.out _ _ ⟨(blk_cell BK135.out 0).trans rfl, (blk_cell BK135.out 1).trans rfl, (blk_cell BK135.out 2).trans rfl⟩ (fun hHeld => ?_)
       clear hK K
       refine no_ (N := some 60) ?_
       refine one_ (i := 9) (N := some 61) (bs_ 41 2047) rfl rfl (one_of HT_.out (by kernel_rfl)) (by decide) (fun K hK => ?_)
       refine goes_ Try.func17 (by kernel_rfl) rfl #[.slice Ao52 y154.length co52] (by rfl) rfl rfl (by (try simp only [l_4, l_5, l_6]); first | done | rfl | (simp only [l_7, l_8]; rfl)) ?_
       with_reducible refine (grid_Right.calls kj19 _ _ y154 t157 _ ?side1 ?side2 A41.out).mono ?_
       (case side1 => repeat (first | exact (Kd.N_reads' HO156.out).2.2 | (with_reducible refine Kd.C_alloc ?_ _) | (with_reducible refine Kd.C_drewN ?_ _) | (with_reducible refine Kd.C_drew ?_)))
       (case side2 => exact (Kd.N_reads' HO156.out).2.1)
       rintro e w53 ⟨rfl, hb⟩
       refine ⟨_, rfl, ?_⟩
       replace HO_136002 := Aside0.mk (Kd.V_below (tV_ HO_136002) hb)
       replace HO147 := Aside0.mk (Kd.N_below (tN_ HO147) hb)
       replace HO156 := Aside0.mk (Kd.N_below (tN_ HO156) hb)
       replace BK135 := Aside0.mk (blk_below (tk_ BK135) hb)
       replace HB := Aside0.mk (below_step (bw_ HB) hb)
       (try clear hb)
       (try clear hb2)
       (try clear hk)
       (try clear hi)
       refine hK.out _ _ ⟨(blk_cell BK135.out 0).trans rfl, (blk_cell BK135.out 1).trans rfl, (blk_cell BK135.out 2).trans rfl⟩ (fun hHeld => ?_)
       clear hK K
       refine no_ (N := some 61) ?_
       refine pu_ (i := 11) (N := some 63) (bs_ 41 4095) rfl rfl HT_ ?_
       refine pu_ (i := 12) (N := some 64) (bs_ 41 8191) rfl rfl HT_ ?_
       refine pu_ (i := 13) (N := some 65) (bs_ 41 16383) rfl rfl HT_ ?_
       refine pn_ (i := 14) (N := some 66) (bs_ 41 32767) rfl rfl HT_ ?_
       refine pn_ (i := 15) (N := some 67) (bs_ 41 65535) rfl rfl HT_ ?_
       refine pu_ (i := 16) (N := some 68) (bs_ 41 131071) rfl rfl HT_ ?_
       refine pu_ (i := 17) (N := some 69) (bs_ 41 262143) rfl rfl HT_ ?_
       refine pn_ (i := 18) (N := some 70) (bs_ 41 524287) rfl rfl HT_ ?_
       refine pn_ (i := 19) (N := some 71) (bs_ 41 1048575) rfl rfl HT_ ?_
       refine pn_ (i := 20) (N := some 72) (bs_ 41 2097151) rfl rfl HT_ ?_
       refine pu_ (i := 21) (N := some 73) (bs_ 41 4194303) rfl rfl HT_ ?_
       refine pu_ (i := 22) (N := some 74) (bs_ 41 8388607) rfl rfl HT_ ?_
       refine pn_ (i := 23) (N := some 75) (bs_ 41 16777215) rfl rfl HT_ ?_
       refine pn_ (i := 24) (N := some 76) (bs_ 41 33554431) rfl rfl HT_ ?_
       refine pn_ (i := 25) (N := some 77) (bs_ 41 67108863) rfl rfl HT_ ?_
       refine pn_ (i := 26) (N := some 78) (bs_ 41 134217727) rfl rfl HT_ ?_
       refine pn_ (i := 27) (N := some 79) (bs_ 41 268435455) rfl rfl HT_ ?_
       refine pn_ (i := 28) (N := some 80) (bs_ 41 536870911) rfl rfl HT_ ?_
       refine pn_ (i := 29) (N := some 81) (bs_ 41 1073741823) rfl rfl HT_ ?_
       refine pn_ (i := 30) (N := some 82) (bs_ 41 2147483647) rfl rfl HT_ ?_
       refine pn_ (i := 31) (N := some 83) (bs_ 41 4294967295) rfl rfl HT_ ?_
       refine pu_ (i := 32) (N := some 84) (bs_ 41 8589934591) rfl rfl HT_ ?_
       refine pu_ (i := 33) (N := some 85) (bs_ 41 17179869183) rfl rfl HT_ ?_
       refine pn_ (i := 34) (N := some 86) (bs_ 41 34359738367) rfl rfl HT_ ?_
       refine pn_ (i := 35) (N := some 87) (bs_ 41 68719476735) rfl rfl HT_ ?_
       refine pn_ (i := 36) (N := some 88) (bs_ 41 137438953471) rfl rfl HT_ ?_
       refine pn_ (i := 37) (N := some 89) (bs_ 41 274877906943) rfl rfl HT_ ?_
       refine pn_ (i := 38) (N := some 90) (bs_ 41 549755813887) rfl rfl HT_ ?_
       refine pn_ (i := 39) (N := some 91) (bs_ 41 1099511627775) rfl rfl HT_ ?_
       refine pu_ (i := 40) (N := some 92) (bs_ 41 2199023255551) rfl rfl HT_ ?_
       refine done_ (done_of HT_.out (by kernel_rfl)) ?_
       try go_wp2
       go_meet
       case rel => exact ⟨_, (true), (by first | rfl | (simp; done) | (simp [*]; done)), H', ⟨by have := HJ3.out; have := HJ19.out; first | omega | exact Nat.le_refl _⟩, ⟨by (with_reducible repeat (first | apply Kd.V_alloc | apply Kd.V_drewN | apply Kd.V_drew)); exact Kd.V_mono HO_136002.out (fun _ hk => ⟨hk.1.1, hk.1.2.2.1⟩)⟩, ⟨tk_ BK135⟩, ⟨by repeat (first | (with_reducible first | exact HB.out | apply b_a | apply b_n | apply b_d | refine b_s ?_ GE135.out) | exact HB.out)⟩⟩
      rw [if_neg c42] at H
      have c42b0 : (t157 != t142) = false := by simpa using c42
      (try (have c42b1 : decide (t157 = t142) = true := by simpa using c42))
      (try (have c42b2 : (t157 == t142) = true := by simpa using c42))
      clear c42
      replace H := Option.bind_eq_some_iff.mp H
      obtain ⟨t158, A540, H⟩ := H
      replace H : (if t158 = true then (if (t144 != x10_19) = true then (pelotonlaw03_GridCells.j2 kj19 a1 a2 true) else (if x10_19 = true then ((pelotonref03_Cell.f a0_0 a0_1 l0_2 a1 a2).bind fun t159 => (if t143 = t159 then (pelotonlaw03_GridCells.j2 kj19 a1 a2 false) else (pelotonlaw03_GridCells.j2 kj19 a1 a2 true))) else (pelotonlaw03_GridCells.j2 kj19 a1 a2 (t143 != 0)))) else (pelotonlaw03_GridCells.j2 kj19 a1 a2 true)) = some r := H
      have A54 := Aside0.mk A540
      clear A540
      by_cases c55 : t158 = true
      rotate_left
      ·
       replace c55 := Bool.eq_false_iff.mpr c55
       subst c55
       have H1 : (pelotonlaw03_GridCells.j2 kj19 a1 a2 true) = some r := by rw [if_neg (show ¬ (false = true) by decide)] at H; exact H
       clear H
       have H := H1
       clear H1
       have H' := Aside0.mk H
       clear H
       try go_wp2
       replace HO_136002 := Aside0.mk (Kd.V_drew HO_136002.out)
       replace BK135 := Aside0.mk (k_d BK135.out)
       replace HB := Aside0.mk (b_d HB.out)
       refine start_ (n := 41) (S := fun w' => w'.cell? ⟨gb135, 0, none⟩ = some (.int .i64 a0_0) ∧ w'.cell? ⟨gb135, 1, none⟩ = some (.int .i64 a0_1) ∧ w'.cell? ⟨gb135, 2, none⟩ = some (.slice A0_2 l0_2.length c0_2)) (ds := []) #[false, false, false, false, false, false, false, false, false, false, false, false, false, false, false, false, false, false, false, false, false, false, false, false, false, false, false, false, false, false, false, false, false, false, false, false, false, false, false, false, false] (by kernel_rfl) rfl rfl ⟨(blk_cell BK135.out 0).trans rfl, (blk_cell BK135.out 1).trans rfl, (blk_cell BK135.out 2).trans rfl⟩ (fun hHeld => ?_); refine with_tabW pelotonlaw03_GridCells.tab6 pelotonlaw03_GridCells.bits6 (fun HT_ HW_ => ?_)
       generalize wc.drew = w110 at HO_136002 BK135 HB hHeld ⊢
       refine pu_ (i := 3) (N := some 55) (bs_ 41 8) rfl rfl HT_ ?_
       refine take_ (i := 0) (N := some 52) (v := ?_) (a' := ?_) (bs_ 41 9) rfl rfl (take_ofW HT_.out HW_.out (by kernel_rfl)) (fun _ _ _ h => h) (Or.inl ⟨by rfl, ?_⟩) hHeld ?_ ?_
       rotate_left
       ·
        rintro w' ⟨s0, s1, s2⟩
        go_simp
        with_reducible rfl
       rotate_left
       ·
        simp only [Act.put, l_1, l_2, l_3, i64_w, i32_w]
        rfl
       refine one_ (i := 1) (N := some 53) (bs_ 41 11) rfl rfl (one_of HT_.out (by kernel_rfl)) (by decide) (fun K hK => ?_)
       refine Kd.N_lit_step k24 _ 24 ?hg (N' := 53) ?hd (xs := ([(⟨a0_0, a0_1, l0_2⟩ : S24)] : List (S24))) (inner := [.int .i64 a0_0, .int .i64 a0_1, .slice A0_2 l0_2.length c0_2]) (ok := (fun k_ => (P0_2_ k_ ∨ w.heap.size ≤ k_) ∧ k_ ≠ gb135)) (okp := (fun k_ => (P0_2_ k_ ∨ w.heap.size ≤ k_) ∧ k_ ≠ gb135)) ?hr ?hp (fun _ hk => hk) ((show ∀ k_, (_ : Nat) ≤ k_ → (fun k_ => (P0_2_ k_ ∨ w.heap.size ≤ k_) ∧ k_ ≠ gb135) k_ from fun k_ hk => ⟨(.inr (Nat.le_trans (below_size (bw_ HB)) hk)), Kd.freshB (tk_ BK135) k_ hk⟩) _ (Nat.le_refl _)) (Below.refl _ _) (Nat.le_refl _) (by simp) ?_; (case hd => rfl); (case hg => rfl); (case hr => first | exact bld_ 3 ((.agg #[(.int .i64 0), (.int .i64 0), (.slice none 0 0)])) rfl rfl (by simp only [Act.eval, Array.getD_eq_getD_getElem?, l_4, l_5, l_6, List.getElem?_toArray, List.getElem?_cons_succ, List.getElem?_cons_zero, Option.getD_some]; kernel_rfl) | (go_simp; done) | (go_simp; rfl)); (case hp => exact (Reps.c3 (show Kd.FK k24 _ _ (⟨a0_0, a0_1, l0_2⟩ : S24) [.int .i64 a0_0, .int .i64 a0_1, .slice A0_2 l0_2.length c0_2] from (k24_mkF _ _ (⟨a0_0, a0_1, l0_2⟩ : S24) (Kd.V_reads' (Kd.V_mono (ok' := (fun k_ => (P0_2_ k_ ∨ w.heap.size ≤ k_) ∧ k_ ≠ gb135)) (HO_136002.out) (fun k_ hk => ⟨hk.1, hk.2⟩))).2.1 (Kd.V_F (Kd.V_mono (ok' := (fun k_ => (P0_2_ k_ ∨ w.heap.size ≤ k_) ∧ k_ ≠ gb135)) (HO_136002.out) (fun k_ hk => ⟨hk.1, hk.2⟩))))) (Reps.none _ _)))
       intro v146 w111 ho112 hb hg_ hnew_
       clear hg_ hnew_
       (first | rw [← Ny145.out] at ho112 | (simp only [Int.reduceToNat] at ho112; rw [← Ny145.out] at ho112))
       have HO147 := Aside0.mk (Kd.N_lower ho112 (below_size (bw_ HB)))
       replace HO_136002 := Aside0.mk (Kd.V_elder' (tV_ HO_136002) (by first | exact Kd.N_base ho112 | exact Kd.N_base (Kd.S_N ho112)) hb)
       replace BK135 := Aside0.mk (blk_below (tk_ BK135) hb)
       replace HB := Aside0.mk (below_step (bw_ HB) hb)
       clear hb ho112
       obtain ⟨Ao113, co113, eo113⟩ := Kd.N_slice HO147.out
       (first | subst eo113 | (injection eo113 with f1_ f2_ f3_; have f4_ := f1_.symm; have f5_ := f3_.symm; clear f1_ f2_ f3_; subst f4_; subst f5_))
       refine hK.out _ _ ⟨(blk_cell BK135.out 0).trans rfl, (blk_cell BK135.out 1).trans rfl, (blk_cell BK135.out 2).trans rfl⟩ (fun hHeld => ?_)
       clear hK K
       refine no_ (N := some 53) ?_
       refine one_ (i := 2) (N := some 54) (bs_ 41 15) rfl rfl (one_of HT_.out (by kernel_rfl)) (by decide) (fun K hK => ?_)
       refine goes_ Try.func17 (by kernel_rfl) rfl #[.slice Ao113 y145.length co113] (by rfl) rfl rfl (by (try simp only [l_4, l_5, l_6]); first | done | rfl | (simp only [l_7, l_8]; rfl)) ?_
       with_reducible refine (grid_Right.calls kj19 _ _ y145 t148 _ ?side1 ?side2 A33.out).mono ?_
       (case side1 => repeat (first | exact (Kd.N_reads' HO147.out).2.2 | (with_reducible refine Kd.C_alloc ?_ _) | (with_reducible refine Kd.C_drewN ?_ _) | (with_reducible refine Kd.C_drew ?_)))
       (case side2 => exact (Kd.N_reads' HO147.out).2.1)
       rintro e w114 ⟨rfl, hb⟩
       refine ⟨_, rfl, ?_⟩
       replace HO_136002 := Aside0.mk (Kd.V_below (tV_ HO_136002) hb)
       replace HO147 := Aside0.mk (Kd.N_below (tN_ HO147) hb)
       replace BK135 := Aside0.mk (blk_below (tk_ BK135) hb)
       replace HB := Aside0.mk (below_step (bw_ HB) hb)
       (try clear hb)
       (try clear hb2)
       (try clear hk)
       (try clear hi)
       refine hK.out _ _ ⟨(blk_cell BK135.out 0).trans rfl, (blk_cell BK135.out 1).trans rfl, (blk_cell BK135.out 2).trans rfl⟩ (fun hHeld => ?_)
       clear hK K
       refine no_ (N := some 54) ?_
       refine pu_ (i := 4) (N := some 56) (bs_ 41 31) rfl rfl HT_ ?_
       refine pu_ (i := 5) (N := some 57) (bs_ 41 63) rfl rfl HT_ ?_
       refine pu_ (i := 10) (N := some 62) (bs_ 41 1087) rfl rfl HT_ ?_
       refine take_ (i := 6) (N := some 58) (v := ?_) (a' := ?_) (bs_ 41 1151) rfl rfl (take_ofW HT_.out HW_.out (by kernel_rfl)) (fun _ _ _ h => h) (Or.inl ⟨by rfl, ?_⟩) hHeld ?_ ?_
       rotate_left
       ·
        rintro w' ⟨s0, s1, s2⟩
        go_simp
        with_reducible rfl
       rotate_left
       ·
        simp only [Act.put, l_1, l_2, l_3, i64_w, i32_w]
        rfl
       refine one_ (i := 7) (N := some 59) (bs_ 41 1279) rfl rfl (one_of HT_.out (by kernel_rfl)) (by decide) (fun K hK => ?_)
       refine goes_ Try.func18 (by kernel_rfl) rfl #[.slice none 0 0] (by rfl) rfl rfl (by (try simp only [l_4, l_5, l_6]); first | done | rfl | (simp only [l_7, l_8]; rfl)) ?_
       refine (pelotonlaw03_two.calls (fun k_ => some k_ = (.slice none 0 0 : Value).ownBlock) (.slice none 0 0) ([] : List Int) t149 t150 t151 w _ ?side1 ?side2 A40.out).mono ?_
       (case side1 => repeat (first | (with_reducible first | exact HB.out | apply b_a | apply b_n | apply b_d | refine b_s ?_ GE135.out) | exact HB.out))
       (case side2 => exact Kd.R_nil _ _ _ _ _)
       rintro e w115 ⟨v152, rfl, ho0, hb, hkp⟩
       refine ⟨_, rfl, ?_⟩
       have HO153 := Aside0.mk (Kd.R_mono (ok' := fun k_ => (w.heap.size ≤ k_)) ho0 (fun k_ hk_ => Or.elim hk_ (fun hs_ => absurd hs_ (by simp [Value.ownBlock])) (fun hn_ => (Nat.le_trans (below_size (bw_ HB)) hn_))))
       replace HO_136002 := Aside0.mk (Kd.V_mono (ok' := fun k_ => (P0_2_ k_ ∨ w.heap.size ≤ k_) ∧ some k_ ≠ (.slice Ao113 y145.length co113 : Value).ownBlock ∧ k_ ≠ gb135 ∧ some k_ ≠ (v152 : Value).ownBlock) (Kd.V_keptB (HO_136002.out) hkp (fun k_ hk_ hs_ => (fun e_ => by simp [Value.ownBlock] at e_) hs_)) (fun k_ hk_ => ⟨hk_.1.1.1, hk_.1.2, hk_.1.1.2, fun e_ => Or.elim (ho0.1 k_ e_.symm) (fun hs_ => hk_.2.1 hs_) (fun hn_ => Nat.not_le.2 hk_.2.2 hn_)⟩))
       replace BK135 := Aside0.mk (blk_kept (tk_ BK135) hkp (fun hs_ => (fun e_ => by simp [Value.ownBlock] at e_) hs_))
       replace HO147 := Aside0.mk (Kd.N_mono (ok' := fun k_ => (P0_2_ k_ ∨ w.heap.size ≤ k_) ∧ k_ ≠ gb135 ∧ some k_ ≠ (v152 : Value).ownBlock) (Kd.N_keptB (HO147.out) hkp (fun k_ hk_ hs_ => (fun e_ => by simp [Value.ownBlock] at e_) hs_)) (fun k_ hk_ => ⟨hk_.1.1, hk_.1.2, fun e_ => Or.elim (ho0.1 k_ e_.symm) (fun hs_ => hk_.2.1 hs_) (fun hn_ => Nat.not_le.2 hk_.2.2 hn_)⟩))
       replace HB := Aside0.mk (hb)
       (try clear hb)
       (try clear hkp)
       (try clear ho0)
       obtain ⟨Ao116, co116, eo116⟩ := Kd.R_slice HO153.out
       (first | subst eo116 | (injection eo116 with f1_ f2_ f3_; have f4_ := f1_.symm; have f5_ := f3_.symm; clear f1_ f2_ f3_; subst f4_; subst f5_))
       refine hK.out _ _ ⟨(blk_cell BK135.out 0).trans rfl, (blk_cell BK135.out 1).trans rfl, (blk_cell BK135.out 2).trans rfl⟩ (fun hHeld => ?_)
       clear hK K
       refine no_ (N := some 59) ?_
       refine one_ (i := 8) (N := some 60) (bs_ 41 1535) rfl rfl (one_of HT_.out (by kernel_rfl)) (by decide) (fun K hK => ?_)
       refine Kd.N_lit_step k24 _ 24 ?hg (N' := 60) ?hd (xs := ([(⟨a0_0, a0_1, l0_2⟩ : S24), (⟨t149, t150, t151⟩ : S24)] : List (S24))) (inner := [.int .i64 a0_0, .int .i64 a0_1, .slice A0_2 l0_2.length c0_2, .int .i64 t149, .int .i64 t150, .slice Ao116 t151.length co116]) (ok := (fun k_ => (P0_2_ k_ ∨ w.heap.size ≤ k_) ∧ some k_ ≠ (.slice Ao113 y145.length co113 : Value).ownBlock ∧ k_ ≠ gb135)) (okp := (fun k_ => (P0_2_ k_ ∨ w.heap.size ≤ k_) ∧ some k_ ≠ (.slice Ao113 y145.length co113 : Value).ownBlock ∧ k_ ≠ gb135)) ?hr ?hp (fun _ hk => hk) ((show ∀ k_, (_ : Nat) ≤ k_ → (fun k_ => (P0_2_ k_ ∨ w.heap.size ≤ k_) ∧ some k_ ≠ (.slice Ao113 y145.length co113 : Value).ownBlock ∧ k_ ≠ gb135) k_ from fun k_ hk => ⟨(.inr (Nat.le_trans (below_size (bw_ HB)) hk)), Kd.fresh' (Kd.N_lt (tN_ HO147)) k_ hk, Kd.freshB (tk_ BK135) k_ hk⟩) _ (Nat.le_refl _)) (Below.refl _ _) (Nat.le_refl _) (by simp) ?_; (case hd => rfl); (case hg => rfl); (case hr => first | exact bld_ 3 ((.agg #[(.int .i64 0), (.int .i64 0), (.slice none 0 0)])) rfl rfl (by simp only [Act.eval, Array.getD_eq_getD_getElem?, l_4, l_5, l_6, List.getElem?_toArray, List.getElem?_cons_succ, List.getElem?_cons_zero, Option.getD_some]; kernel_rfl) | (go_simp; done) | (go_simp; rfl)); (case hp => exact (Reps.c3 (show Kd.FK k24 _ _ (⟨a0_0, a0_1, l0_2⟩ : S24) [.int .i64 a0_0, .int .i64 a0_1, .slice A0_2 l0_2.length c0_2] from (k24_mkF _ _ (⟨a0_0, a0_1, l0_2⟩ : S24) (Kd.V_reads' (Kd.V_mono (ok' := (fun k_ => (P0_2_ k_ ∨ w.heap.size ≤ k_) ∧ some k_ ≠ (.slice Ao113 y145.length co113 : Value).ownBlock ∧ k_ ≠ gb135)) (HO_136002.out) (fun k_ hk => ⟨hk.1, ⟨hk.2.1, hk.2.2.1⟩⟩))).2.1 (Kd.V_F (Kd.V_mono (ok' := (fun k_ => (P0_2_ k_ ∨ w.heap.size ≤ k_) ∧ some k_ ≠ (.slice Ao113 y145.length co113 : Value).ownBlock ∧ k_ ≠ gb135)) (HO_136002.out) (fun k_ hk => ⟨hk.1, ⟨hk.2.1, hk.2.2.1⟩⟩))))) (Reps.c3 (show Kd.FK k24 _ _ (⟨t149, t150, t151⟩ : S24) [.int .i64 t149, .int .i64 t150, .slice Ao116 t151.length co116] from (k24_mkF _ _ (⟨t149, t150, t151⟩ : S24) (Kd.R_reads' (Kd.R_mono (ok' := (fun k_ => (P0_2_ k_ ∨ w.heap.size ≤ k_) ∧ some k_ ≠ (.slice Ao113 y145.length co113 : Value).ownBlock ∧ k_ ≠ gb135)) (Kd.R_types (Kd.R_apart' (HO153.out) (Kd.N_typed HO147.out) (by decide)) BK135.out (by decide)) (fun k_ hk => ⟨(.inr (hk.1.1)), ⟨hk.1.2, hk.2⟩⟩))).2.1 (Kd.R_F (Kd.R_mono (ok' := (fun k_ => (P0_2_ k_ ∨ w.heap.size ≤ k_) ∧ some k_ ≠ (.slice Ao113 y145.length co113 : Value).ownBlock ∧ k_ ≠ gb135)) (Kd.R_types (Kd.R_apart' (HO153.out) (Kd.N_typed HO147.out) (by decide)) BK135.out (by decide)) (fun k_ hk => ⟨(.inr (hk.1.1)), ⟨hk.1.2, hk.2⟩⟩))))) (Reps.none _ _))))
       intro v155 w117 ho118 hb hg_ hnew_
       clear hg_ hnew_
       (first | rw [← Ny154.out] at ho118 | (simp only [Int.reduceToNat] at ho118; rw [← Ny154.out] at ho118))
       have n0_ := Aside0.mk (Kd.V_elder' (tV_ HO_136002) (by first | exact Kd.N_base ho118 | exact Kd.N_base (Kd.S_N ho118)) hb)
       have n1_ := Aside0.mk (Kd.N_elder' (tN_ HO147) (by first | exact Kd.N_base ho118 | exact Kd.N_base (Kd.S_N ho118)) hb)
       have n2_ := Aside0.mk (Kd.N_lower ho118 (below_size (bw_ HB)))
       have n3_ := Aside0.mk (blk_below (tk_ BK135) hb)
       have n4_ := Aside0.mk (below_step (bw_ HB) hb)
       clear HO_136002
       clear HO147
       clear BK135
       clear HB
       clear HO153
       have HO_136002 := n0_
       have HO147 := n1_
       have HO156 := n2_
       have BK135 := n3_
       have HB := n4_
       clear n0_ n1_ n2_ n3_ n4_
       clear hb ho118
       obtain ⟨Ao119, co119, eo119⟩ := Kd.N_slice HO156.out
       (first | subst eo119 | (injection eo119 with f1_ f2_ f3_; have f4_ := f1_.symm; have f5_ := f3_.symm; clear f1_ f2_ f3_; subst f4_; subst f5_))
       refine hK.out _ _ ⟨(blk_cell BK135.out 0).trans rfl, (blk_cell BK135.out 1).trans rfl, (blk_cell BK135.out 2).trans rfl⟩ (fun hHeld => ?_)
       clear hK K
       refine no_ (N := some 60) ?_
       refine one_ (i := 9) (N := some 61) (bs_ 41 2047) rfl rfl (one_of HT_.out (by kernel_rfl)) (by decide) (fun K hK => ?_)
       refine goes_ Try.func17 (by kernel_rfl) rfl #[.slice Ao119 y154.length co119] (by rfl) rfl rfl (by (try simp only [l_4, l_5, l_6]); first | done | rfl | (simp only [l_7, l_8]; rfl)) ?_
       with_reducible refine (grid_Right.calls kj19 _ _ y154 t157 _ ?side1 ?side2 A41.out).mono ?_
       (case side1 => repeat (first | exact (Kd.N_reads' HO156.out).2.2 | (with_reducible refine Kd.C_alloc ?_ _) | (with_reducible refine Kd.C_drewN ?_ _) | (with_reducible refine Kd.C_drew ?_)))
       (case side2 => exact (Kd.N_reads' HO156.out).2.1)
       rintro e w120 ⟨rfl, hb⟩
       refine ⟨_, rfl, ?_⟩
       replace HO_136002 := Aside0.mk (Kd.V_below (tV_ HO_136002) hb)
       replace HO147 := Aside0.mk (Kd.N_below (tN_ HO147) hb)
       replace HO156 := Aside0.mk (Kd.N_below (tN_ HO156) hb)
       replace BK135 := Aside0.mk (blk_below (tk_ BK135) hb)
       replace HB := Aside0.mk (below_step (bw_ HB) hb)
       (try clear hb)
       (try clear hb2)
       (try clear hk)
       (try clear hi)
       refine hK.out _ _ ⟨(blk_cell BK135.out 0).trans rfl, (blk_cell BK135.out 1).trans rfl, (blk_cell BK135.out 2).trans rfl⟩ (fun hHeld => ?_)
       clear hK K
       refine no_ (N := some 61) ?_
       refine pu_ (i := 11) (N := some 63) (bs_ 41 4095) rfl rfl HT_ ?_
       refine pu_ (i := 12) (N := some 64) (bs_ 41 8191) rfl rfl HT_ ?_
       refine pu_ (i := 13) (N := some 65) (bs_ 41 16383) rfl rfl HT_ ?_
       refine one_ (i := 14) (N := some 66) (bs_ 41 32767) rfl rfl (one_of HT_.out (by kernel_rfl)) (by decide) (fun K hK => ?_)
       refine goes_ Try.func17 (by kernel_rfl) rfl #[.slice none 0 0] (by rfl) rfl rfl (by (try simp only [l_4, l_5, l_6]); first | done | rfl | (simp only [l_7, l_8]; rfl)) ?_
       refine (grid_Right.calls kj19 _ _ ([] : List (S24)) false _ ?side1 ?side2 A54.out).mono ?_
       (case side1 => exact Kd.C_nil _ _)
       (case side2 => exact Nat.le_refl _)
       rintro e w121 ⟨rfl, hb⟩
       refine ⟨_, rfl, ?_⟩
       replace HO_136002 := Aside0.mk (Kd.V_below (tV_ HO_136002) hb)
       replace HO147 := Aside0.mk (Kd.N_below (tN_ HO147) hb)
       replace HO156 := Aside0.mk (Kd.N_below (tN_ HO156) hb)
       replace BK135 := Aside0.mk (blk_below (tk_ BK135) hb)
       replace HB := Aside0.mk (below_step (bw_ HB) hb)
       (try clear hb)
       (try clear hb2)
       (try clear hk)
       (try clear hi)
       refine hK.out _ _ ⟨(blk_cell BK135.out 0).trans rfl, (blk_cell BK135.out 1).trans rfl, (blk_cell BK135.out 2).trans rfl⟩ (fun hHeld => ?_)
       clear hK K
       refine no_ (N := some 66) ?_
       refine pu_ (i := 15) (N := some 67) (bs_ 41 65535) rfl rfl HT_ ?_
       refine pu_ (i := 16) (N := some 68) (bs_ 41 131071) rfl rfl HT_ ?_
       refine pu_ (i := 17) (N := some 69) (bs_ 41 262143) rfl rfl HT_ ?_
       refine pn_ (i := 18) (N := some 70) (bs_ 41 524287) rfl rfl HT_ ?_
       refine pn_ (i := 19) (N := some 71) (bs_ 41 1048575) rfl rfl HT_ ?_
       refine pn_ (i := 20) (N := some 72) (bs_ 41 2097151) rfl rfl HT_ ?_
       refine pu_ (i := 21) (N := some 73) (bs_ 41 4194303) rfl rfl HT_ ?_
       refine pu_ (i := 22) (N := some 74) (bs_ 41 8388607) rfl rfl HT_ ?_
       refine pn_ (i := 23) (N := some 75) (bs_ 41 16777215) rfl rfl HT_ ?_
       refine pn_ (i := 24) (N := some 76) (bs_ 41 33554431) rfl rfl HT_ ?_
       refine pn_ (i := 25) (N := some 77) (bs_ 41 67108863) rfl rfl HT_ ?_
       refine pn_ (i := 26) (N := some 78) (bs_ 41 134217727) rfl rfl HT_ ?_
       refine pn_ (i := 27) (N := some 79) (bs_ 41 268435455) rfl rfl HT_ ?_
       refine pn_ (i := 28) (N := some 80) (bs_ 41 536870911) rfl rfl HT_ ?_
       refine pn_ (i := 29) (N := some 81) (bs_ 41 1073741823) rfl rfl HT_ ?_
       refine pn_ (i := 30) (N := some 82) (bs_ 41 2147483647) rfl rfl HT_ ?_
       refine pn_ (i := 31) (N := some 83) (bs_ 41 4294967295) rfl rfl HT_ ?_
       refine pu_ (i := 32) (N := some 84) (bs_ 41 8589934591) rfl rfl HT_ ?_
       refine pu_ (i := 33) (N := some 85) (bs_ 41 17179869183) rfl rfl HT_ ?_
       refine pn_ (i := 34) (N := some 86) (bs_ 41 34359738367) rfl rfl HT_ ?_
       refine pn_ (i := 35) (N := some 87) (bs_ 41 68719476735) rfl rfl HT_ ?_
       refine pn_ (i := 36) (N := some 88) (bs_ 41 137438953471) rfl rfl HT_ ?_
       refine pn_ (i := 37) (N := some 89) (bs_ 41 274877906943) rfl rfl HT_ ?_
       refine pn_ (i := 38) (N := some 90) (bs_ 41 549755813887) rfl rfl HT_ ?_
       refine pn_ (i := 39) (N := some 91) (bs_ 41 1099511627775) rfl rfl HT_ ?_
       refine pu_ (i := 40) (N := some 92) (bs_ 41 2199023255551) rfl rfl HT_ ?_
       refine done_ (done_of HT_.out (by kernel_rfl)) ?_
       try go_wp2
       go_meet
       case rel => exact ⟨_, (true), (by first | rfl | (simp; done) | (simp [*]; done)), H', ⟨by have := HJ3.out; have := HJ19.out; first | omega | exact Nat.le_refl _⟩, ⟨by (with_reducible repeat (first | apply Kd.V_alloc | apply Kd.V_drewN | apply Kd.V_drew)); exact Kd.V_mono HO_136002.out (fun _ hk => ⟨hk.1.1, hk.1.2.2.1⟩)⟩, ⟨tk_ BK135⟩, ⟨by repeat (first | (with_reducible first | exact HB.out | apply b_a | apply b_n | apply b_d | refine b_s ?_ GE135.out) | exact HB.out)⟩⟩
      subst c55
      have H1 : (if (t144 != x10_19) = true then (pelotonlaw03_GridCells.j2 kj19 a1 a2 true) else (if x10_19 = true then ((pelotonref03_Cell.f a0_0 a0_1 l0_2 a1 a2).bind fun t159 => (if t143 = t159 then (pelotonlaw03_GridCells.j2 kj19 a1 a2 false) else (pelotonlaw03_GridCells.j2 kj19 a1 a2 true))) else (pelotonlaw03_GridCells.j2 kj19 a1 a2 (t143 != 0)))) = some r := by rw [if_pos rfl] at H; exact H
      clear H
      have H := H1
      clear H1
      by_cases c56 : (t144 != x10_19) = true
      ·
       rw [if_pos c56] at H
       have c56b0 : (t144 != x10_19) = true := c56
       (try (have c56b1 : decide (t144 = x10_19) = false := by simpa using c56))
       (try (have c56b2 : (t144 == x10_19) = false := by simpa using c56))
       (try (have c56b3 : ¬ (t144 = x10_19) := by simpa using c56))
       clear c56
       have H' := Aside0.mk H
       clear H
       try go_wp2
       replace HO_136002 := Aside0.mk (Kd.V_drew HO_136002.out)
       replace BK135 := Aside0.mk (k_d BK135.out)
       replace HB := Aside0.mk (b_d HB.out)
       refine start_ (n := 41) (S := fun w' => w'.cell? ⟨gb135, 0, none⟩ = some (.int .i64 a0_0) ∧ w'.cell? ⟨gb135, 1, none⟩ = some (.int .i64 a0_1) ∧ w'.cell? ⟨gb135, 2, none⟩ = some (.slice A0_2 l0_2.length c0_2)) (ds := []) #[false, false, false, false, false, false, false, false, false, false, false, false, false, false, false, false, false, false, false, false, false, false, false, false, false, false, false, false, false, false, false, false, false, false, false, false, false, false, false, false, false] (by kernel_rfl) rfl rfl ⟨(blk_cell BK135.out 0).trans rfl, (blk_cell BK135.out 1).trans rfl, (blk_cell BK135.out 2).trans rfl⟩ (fun hHeld => ?_); refine with_tabW pelotonlaw03_GridCells.tab6 pelotonlaw03_GridCells.bits6 (fun HT_ HW_ => ?_)
       generalize wc.drew = w57 at HO_136002 BK135 HB hHeld ⊢
       refine pu_ (i := 3) (N := some 55) (bs_ 41 8) rfl rfl HT_ ?_
       refine take_ (i := 0) (N := some 52) (v := ?_) (a' := ?_) (bs_ 41 9) rfl rfl (take_ofW HT_.out HW_.out (by kernel_rfl)) (fun _ _ _ h => h) (Or.inl ⟨by rfl, ?_⟩) hHeld ?_ ?_
       rotate_left
       ·
        rintro w' ⟨s0, s1, s2⟩
        go_simp
        with_reducible rfl
       rotate_left
       ·
        simp only [Act.put, l_1, l_2, l_3, i64_w, i32_w]
        rfl
       refine one_ (i := 1) (N := some 53) (bs_ 41 11) rfl rfl (one_of HT_.out (by kernel_rfl)) (by decide) (fun K hK => ?_)
       refine Kd.N_lit_step k24 _ 24 ?hg (N' := 53) ?hd (xs := ([(⟨a0_0, a0_1, l0_2⟩ : S24)] : List (S24))) (inner := [.int .i64 a0_0, .int .i64 a0_1, .slice A0_2 l0_2.length c0_2]) (ok := (fun k_ => (P0_2_ k_ ∨ w.heap.size ≤ k_) ∧ k_ ≠ gb135)) (okp := (fun k_ => (P0_2_ k_ ∨ w.heap.size ≤ k_) ∧ k_ ≠ gb135)) ?hr ?hp (fun _ hk => hk) ((show ∀ k_, (_ : Nat) ≤ k_ → (fun k_ => (P0_2_ k_ ∨ w.heap.size ≤ k_) ∧ k_ ≠ gb135) k_ from fun k_ hk => ⟨(.inr (Nat.le_trans (below_size (bw_ HB)) hk)), Kd.freshB (tk_ BK135) k_ hk⟩) _ (Nat.le_refl _)) (Below.refl _ _) (Nat.le_refl _) (by simp) ?_; (case hd => rfl); (case hg => rfl); (case hr => first | exact bld_ 3 ((.agg #[(.int .i64 0), (.int .i64 0), (.slice none 0 0)])) rfl rfl (by simp only [Act.eval, Array.getD_eq_getD_getElem?, l_4, l_5, l_6, List.getElem?_toArray, List.getElem?_cons_succ, List.getElem?_cons_zero, Option.getD_some]; kernel_rfl) | (go_simp; done) | (go_simp; rfl)); (case hp => exact (Reps.c3 (show Kd.FK k24 _ _ (⟨a0_0, a0_1, l0_2⟩ : S24) [.int .i64 a0_0, .int .i64 a0_1, .slice A0_2 l0_2.length c0_2] from (k24_mkF _ _ (⟨a0_0, a0_1, l0_2⟩ : S24) (Kd.V_reads' (Kd.V_mono (ok' := (fun k_ => (P0_2_ k_ ∨ w.heap.size ≤ k_) ∧ k_ ≠ gb135)) (HO_136002.out) (fun k_ hk => ⟨hk.1, hk.2⟩))).2.1 (Kd.V_F (Kd.V_mono (ok' := (fun k_ => (P0_2_ k_ ∨ w.heap.size ≤ k_) ∧ k_ ≠ gb135)) (HO_136002.out) (fun k_ hk => ⟨hk.1, hk.2⟩))))) (Reps.none _ _)))
       intro v146 w58 ho59 hb hg_ hnew_
       clear hg_ hnew_
       (first | rw [← Ny145.out] at ho59 | (simp only [Int.reduceToNat] at ho59; rw [← Ny145.out] at ho59))
       have HO147 := Aside0.mk (Kd.N_lower ho59 (below_size (bw_ HB)))
       replace HO_136002 := Aside0.mk (Kd.V_elder' (tV_ HO_136002) (by first | exact Kd.N_base ho59 | exact Kd.N_base (Kd.S_N ho59)) hb)
       replace BK135 := Aside0.mk (blk_below (tk_ BK135) hb)
       replace HB := Aside0.mk (below_step (bw_ HB) hb)
       clear hb ho59
       obtain ⟨Ao60, co60, eo60⟩ := Kd.N_slice HO147.out
       (first | subst eo60 | (injection eo60 with f1_ f2_ f3_; have f4_ := f1_.symm; have f5_ := f3_.symm; clear f1_ f2_ f3_; subst f4_; subst f5_))
       refine hK.out _ _ ⟨(blk_cell BK135.out 0).trans rfl, (blk_cell BK135.out 1).trans rfl, (blk_cell BK135.out 2).trans rfl⟩ (fun hHeld => ?_)
       clear hK K
       refine no_ (N := some 53) ?_
       refine one_ (i := 2) (N := some 54) (bs_ 41 15) rfl rfl (one_of HT_.out (by kernel_rfl)) (by decide) (fun K hK => ?_)
       refine goes_ Try.func17 (by kernel_rfl) rfl #[.slice Ao60 y145.length co60] (by rfl) rfl rfl (by (try simp only [l_4, l_5, l_6]); first | done | rfl | (simp only [l_7, l_8]; rfl)) ?_
       with_reducible refine (grid_Right.calls kj19 _ _ y145 t148 _ ?side1 ?side2 A33.out).mono ?_
       (case side1 => repeat (first | exact (Kd.N_reads' HO147.out).2.2 | (with_reducible refine Kd.C_alloc ?_ _) | (with_reducible refine Kd.C_drewN ?_ _) | (with_reducible refine Kd.C_drew ?_)))
       (case side2 => exact (Kd.N_reads' HO147.out).2.1)
       rintro e w61 ⟨rfl, hb⟩
       refine ⟨_, rfl, ?_⟩
       replace HO_136002 := Aside0.mk (Kd.V_below (tV_ HO_136002) hb)
       replace HO147 := Aside0.mk (Kd.N_below (tN_ HO147) hb)
       replace BK135 := Aside0.mk (blk_below (tk_ BK135) hb)
       replace HB := Aside0.mk (below_step (bw_ HB) hb)
       (try clear hb)
       (try clear hb2)
       (try clear hk)
       (try clear hi)
       refine hK.out _ _ ⟨(blk_cell BK135.out 0).trans rfl, (blk_cell BK135.out 1).trans rfl, (blk_cell BK135.out 2).trans rfl⟩ (fun hHeld => ?_)
       clear hK K
       refine no_ (N := some 54) ?_
       refine pu_ (i := 4) (N := some 56) (bs_ 41 31) rfl rfl HT_ ?_
       refine pu_ (i := 5) (N := some 57) (bs_ 41 63) rfl rfl HT_ ?_
       refine pu_ (i := 10) (N := some 62) (bs_ 41 1087) rfl rfl HT_ ?_
       refine take_ (i := 6) (N := some 58) (v := ?_) (a' := ?_) (bs_ 41 1151) rfl rfl (take_ofW HT_.out HW_.out (by kernel_rfl)) (fun _ _ _ h => h) (Or.inl ⟨by rfl, ?_⟩) hHeld ?_ ?_
       rotate_left
       ·
        rintro w' ⟨s0, s1, s2⟩
        go_simp
        with_reducible rfl
       rotate_left
       ·
        simp only [Act.put, l_1, l_2, l_3, i64_w, i32_w]
        rfl
       refine one_ (i := 7) (N := some 59) (bs_ 41 1279) rfl rfl (one_of HT_.out (by kernel_rfl)) (by decide) (fun K hK => ?_)
       refine goes_ Try.func18 (by kernel_rfl) rfl #[.slice none 0 0] (by rfl) rfl rfl (by (try simp only [l_4, l_5, l_6]); first | done | rfl | (simp only [l_7, l_8]; rfl)) ?_
       refine (pelotonlaw03_two.calls (fun k_ => some k_ = (.slice none 0 0 : Value).ownBlock) (.slice none 0 0) ([] : List Int) t149 t150 t151 w _ ?side1 ?side2 A40.out).mono ?_
       (case side1 => repeat (first | (with_reducible first | exact HB.out | apply b_a | apply b_n | apply b_d | refine b_s ?_ GE135.out) | exact HB.out))
       (case side2 => exact Kd.R_nil _ _ _ _ _)
       rintro e w62 ⟨v152, rfl, ho0, hb, hkp⟩
       refine ⟨_, rfl, ?_⟩
       have HO153 := Aside0.mk (Kd.R_mono (ok' := fun k_ => (w.heap.size ≤ k_)) ho0 (fun k_ hk_ => Or.elim hk_ (fun hs_ => absurd hs_ (by simp [Value.ownBlock])) (fun hn_ => (Nat.le_trans (below_size (bw_ HB)) hn_))))
       replace HO_136002 := Aside0.mk (Kd.V_mono (ok' := fun k_ => (P0_2_ k_ ∨ w.heap.size ≤ k_) ∧ some k_ ≠ (.slice Ao60 y145.length co60 : Value).ownBlock ∧ k_ ≠ gb135 ∧ some k_ ≠ (v152 : Value).ownBlock) (Kd.V_keptB (HO_136002.out) hkp (fun k_ hk_ hs_ => (fun e_ => by simp [Value.ownBlock] at e_) hs_)) (fun k_ hk_ => ⟨hk_.1.1.1, hk_.1.2, hk_.1.1.2, fun e_ => Or.elim (ho0.1 k_ e_.symm) (fun hs_ => hk_.2.1 hs_) (fun hn_ => Nat.not_le.2 hk_.2.2 hn_)⟩))
       replace BK135 := Aside0.mk (blk_kept (tk_ BK135) hkp (fun hs_ => (fun e_ => by simp [Value.ownBlock] at e_) hs_))
       replace HO147 := Aside0.mk (Kd.N_mono (ok' := fun k_ => (P0_2_ k_ ∨ w.heap.size ≤ k_) ∧ k_ ≠ gb135 ∧ some k_ ≠ (v152 : Value).ownBlock) (Kd.N_keptB (HO147.out) hkp (fun k_ hk_ hs_ => (fun e_ => by simp [Value.ownBlock] at e_) hs_)) (fun k_ hk_ => ⟨hk_.1.1, hk_.1.2, fun e_ => Or.elim (ho0.1 k_ e_.symm) (fun hs_ => hk_.2.1 hs_) (fun hn_ => Nat.not_le.2 hk_.2.2 hn_)⟩))
       replace HB := Aside0.mk (hb)
       (try clear hb)
       (try clear hkp)
       (try clear ho0)
       obtain ⟨Ao63, co63, eo63⟩ := Kd.R_slice HO153.out
       (first | subst eo63 | (injection eo63 with f1_ f2_ f3_; have f4_ := f1_.symm; have f5_ := f3_.symm; clear f1_ f2_ f3_; subst f4_; subst f5_))
       refine hK.out _ _ ⟨(blk_cell BK135.out 0).trans rfl, (blk_cell BK135.out 1).trans rfl, (blk_cell BK135.out 2).trans rfl⟩ (fun hHeld => ?_)
       clear hK K
       refine no_ (N := some 59) ?_
       refine one_ (i := 8) (N := some 60) (bs_ 41 1535) rfl rfl (one_of HT_.out (by kernel_rfl)) (by decide) (fun K hK => ?_)
       refine Kd.N_lit_step k24 _ 24 ?hg (N' := 60) ?hd (xs := ([(⟨a0_0, a0_1, l0_2⟩ : S24), (⟨t149, t150, t151⟩ : S24)] : List (S24))) (inner := [.int .i64 a0_0, .int .i64 a0_1, .slice A0_2 l0_2.length c0_2, .int .i64 t149, .int .i64 t150, .slice Ao63 t151.length co63]) (ok := (fun k_ => (P0_2_ k_ ∨ w.heap.size ≤ k_) ∧ some k_ ≠ (.slice Ao60 y145.length co60 : Value).ownBlock ∧ k_ ≠ gb135)) (okp := (fun k_ => (P0_2_ k_ ∨ w.heap.size ≤ k_) ∧ some k_ ≠ (.slice Ao60 y145.length co60 : Value).ownBlock ∧ k_ ≠ gb135)) ?hr ?hp (fun _ hk => hk) ((show ∀ k_, (_ : Nat) ≤ k_ → (fun k_ => (P0_2_ k_ ∨ w.heap.size ≤ k_) ∧ some k_ ≠ (.slice Ao60 y145.length co60 : Value).ownBlock ∧ k_ ≠ gb135) k_ from fun k_ hk => ⟨(.inr (Nat.le_trans (below_size (bw_ HB)) hk)), Kd.fresh' (Kd.N_lt (tN_ HO147)) k_ hk, Kd.freshB (tk_ BK135) k_ hk⟩) _ (Nat.le_refl _)) (Below.refl _ _) (Nat.le_refl _) (by simp) ?_; (case hd => rfl); (case hg => rfl); (case hr => first | exact bld_ 3 ((.agg #[(.int .i64 0), (.int .i64 0), (.slice none 0 0)])) rfl rfl (by simp only [Act.eval, Array.getD_eq_getD_getElem?, l_4, l_5, l_6, List.getElem?_toArray, List.getElem?_cons_succ, List.getElem?_cons_zero, Option.getD_some]; kernel_rfl) | (go_simp; done) | (go_simp; rfl)); (case hp => exact (Reps.c3 (show Kd.FK k24 _ _ (⟨a0_0, a0_1, l0_2⟩ : S24) [.int .i64 a0_0, .int .i64 a0_1, .slice A0_2 l0_2.length c0_2] from (k24_mkF _ _ (⟨a0_0, a0_1, l0_2⟩ : S24) (Kd.V_reads' (Kd.V_mono (ok' := (fun k_ => (P0_2_ k_ ∨ w.heap.size ≤ k_) ∧ some k_ ≠ (.slice Ao60 y145.length co60 : Value).ownBlock ∧ k_ ≠ gb135)) (HO_136002.out) (fun k_ hk => ⟨hk.1, ⟨hk.2.1, hk.2.2.1⟩⟩))).2.1 (Kd.V_F (Kd.V_mono (ok' := (fun k_ => (P0_2_ k_ ∨ w.heap.size ≤ k_) ∧ some k_ ≠ (.slice Ao60 y145.length co60 : Value).ownBlock ∧ k_ ≠ gb135)) (HO_136002.out) (fun k_ hk => ⟨hk.1, ⟨hk.2.1, hk.2.2.1⟩⟩))))) (Reps.c3 (show Kd.FK k24 _ _ (⟨t149, t150, t151⟩ : S24) [.int .i64 t149, .int .i64 t150, .slice Ao63 t151.length co63] from (k24_mkF _ _ (⟨t149, t150, t151⟩ : S24) (Kd.R_reads' (Kd.R_mono (ok' := (fun k_ => (P0_2_ k_ ∨ w.heap.size ≤ k_) ∧ some k_ ≠ (.slice Ao60 y145.length co60 : Value).ownBlock ∧ k_ ≠ gb135)) (Kd.R_types (Kd.R_apart' (HO153.out) (Kd.N_typed HO147.out) (by decide)) BK135.out (by decide)) (fun k_ hk => ⟨(.inr (hk.1.1)), ⟨hk.1.2, hk.2⟩⟩))).2.1 (Kd.R_F (Kd.R_mono (ok' := (fun k_ => (P0_2_ k_ ∨ w.heap.size ≤ k_) ∧ some k_ ≠ (.slice Ao60 y145.length co60 : Value).ownBlock ∧ k_ ≠ gb135)) (Kd.R_types (Kd.R_apart' (HO153.out) (Kd.N_typed HO147.out) (by decide)) BK135.out (by decide)) (fun k_ hk => ⟨(.inr (hk.1.1)), ⟨hk.1.2, hk.2⟩⟩))))) (Reps.none _ _))))
       intro v155 w64 ho65 hb hg_ hnew_
       clear hg_ hnew_
       (first | rw [← Ny154.out] at ho65 | (simp only [Int.reduceToNat] at ho65; rw [← Ny154.out] at ho65))
       have n0_ := Aside0.mk (Kd.V_elder' (tV_ HO_136002) (by first | exact Kd.N_base ho65 | exact Kd.N_base (Kd.S_N ho65)) hb)
       have n1_ := Aside0.mk (Kd.N_elder' (tN_ HO147) (by first | exact Kd.N_base ho65 | exact Kd.N_base (Kd.S_N ho65)) hb)
       have n2_ := Aside0.mk (Kd.N_lower ho65 (below_size (bw_ HB)))
       have n3_ := Aside0.mk (blk_below (tk_ BK135) hb)
       have n4_ := Aside0.mk (below_step (bw_ HB) hb)
       clear HO_136002
       clear HO147
       clear BK135
       clear HB
       clear HO153
       have HO_136002 := n0_
       have HO147 := n1_
       have HO156 := n2_
       have BK135 := n3_
       have HB := n4_
       clear n0_ n1_ n2_ n3_ n4_
       clear hb ho65
       obtain ⟨Ao66, co66, eo66⟩ := Kd.N_slice HO156.out
       (first | subst eo66 | (injection eo66 with f1_ f2_ f3_; have f4_ := f1_.symm; have f5_ := f3_.symm; clear f1_ f2_ f3_; subst f4_; subst f5_))
       refine hK.out _ _ ⟨(blk_cell BK135.out 0).trans rfl, (blk_cell BK135.out 1).trans rfl, (blk_cell BK135.out 2).trans rfl⟩ (fun hHeld => ?_)
       clear hK K
       refine no_ (N := some 60) ?_
       refine one_ (i := 9) (N := some 61) (bs_ 41 2047) rfl rfl (one_of HT_.out (by kernel_rfl)) (by decide) (fun K hK => ?_)
       refine goes_ Try.func17 (by kernel_rfl) rfl #[.slice Ao66 y154.length co66] (by rfl) rfl rfl (by (try simp only [l_4, l_5, l_6]); first | done | rfl | (simp only [l_7, l_8]; rfl)) ?_
       with_reducible refine (grid_Right.calls kj19 _ _ y154 t157 _ ?side1 ?side2 A41.out).mono ?_
       (case side1 => repeat (first | exact (Kd.N_reads' HO156.out).2.2 | (with_reducible refine Kd.C_alloc ?_ _) | (with_reducible refine Kd.C_drewN ?_ _) | (with_reducible refine Kd.C_drew ?_)))
       (case side2 => exact (Kd.N_reads' HO156.out).2.1)
       rintro e w67 ⟨rfl, hb⟩
       refine ⟨_, rfl, ?_⟩
       replace HO_136002 := Aside0.mk (Kd.V_below (tV_ HO_136002) hb)
       replace HO147 := Aside0.mk (Kd.N_below (tN_ HO147) hb)
       replace HO156 := Aside0.mk (Kd.N_below (tN_ HO156) hb)
       replace BK135 := Aside0.mk (blk_below (tk_ BK135) hb)
       replace HB := Aside0.mk (below_step (bw_ HB) hb)
       (try clear hb)
       (try clear hb2)
       (try clear hk)
       (try clear hi)
       refine hK.out _ _ ⟨(blk_cell BK135.out 0).trans rfl, (blk_cell BK135.out 1).trans rfl, (blk_cell BK135.out 2).trans rfl⟩ (fun hHeld => ?_)
       clear hK K
       refine no_ (N := some 61) ?_
       refine pu_ (i := 11) (N := some 63) (bs_ 41 4095) rfl rfl HT_ ?_
       refine pu_ (i := 12) (N := some 64) (bs_ 41 8191) rfl rfl HT_ ?_
       refine pu_ (i := 13) (N := some 65) (bs_ 41 16383) rfl rfl HT_ ?_
       refine one_ (i := 14) (N := some 66) (bs_ 41 32767) rfl rfl (one_of HT_.out (by kernel_rfl)) (by decide) (fun K hK => ?_)
       refine goes_ Try.func17 (by kernel_rfl) rfl #[.slice none 0 0] (by rfl) rfl rfl (by (try simp only [l_4, l_5, l_6]); first | done | rfl | (simp only [l_7, l_8]; rfl)) ?_
       refine (grid_Right.calls kj19 _ _ ([] : List (S24)) true _ ?side1 ?side2 A54.out).mono ?_
       (case side1 => exact Kd.C_nil _ _)
       (case side2 => exact Nat.le_refl _)
       rintro e w68 ⟨rfl, hb⟩
       refine ⟨_, rfl, ?_⟩
       replace HO_136002 := Aside0.mk (Kd.V_below (tV_ HO_136002) hb)
       replace HO147 := Aside0.mk (Kd.N_below (tN_ HO147) hb)
       replace HO156 := Aside0.mk (Kd.N_below (tN_ HO156) hb)
       replace BK135 := Aside0.mk (blk_below (tk_ BK135) hb)
       replace HB := Aside0.mk (below_step (bw_ HB) hb)
       (try clear hb)
       (try clear hb2)
       (try clear hk)
       (try clear hi)
       refine hK.out _ _ ⟨(blk_cell BK135.out 0).trans rfl, (blk_cell BK135.out 1).trans rfl, (blk_cell BK135.out 2).trans rfl⟩ (fun hHeld => ?_)
       clear hK K
       refine no_ (N := some 66) ?_
       refine pu_ (i := 15) (N := some 67) (bs_ 41 65535) rfl rfl HT_ ?_
       refine pu_ (i := 16) (N := some 68) (bs_ 41 131071) rfl rfl HT_ ?_
       refine pu_ (i := 17) (N := some 69) (bs_ 41 262143) rfl rfl HT_ ?_
       refine pu_ (i := 18) (N := some 70) (bs_ 41 524287) rfl rfl HT_ ?_
       refine pu_ (i := 19) (N := some 71) (bs_ 41 1048575) rfl rfl HT_ ?_
       refine pu_ (i := 20) (N := some 72) (bs_ 41 2097151) rfl rfl HT_ ?_
       refine pu_ (i := 21) (N := some 73) (bs_ 41 4194303) rfl rfl HT_ ?_
       refine pu_ (i := 22) (N := some 74) (bs_ 41 8388607) rfl rfl HT_ ?_
       refine pn_ (i := 23) (N := some 75) (bs_ 41 16777215) rfl rfl HT_ ?_
       refine pn_ (i := 24) (N := some 76) (bs_ 41 33554431) rfl rfl HT_ ?_
       refine pn_ (i := 25) (N := some 77) (bs_ 41 67108863) rfl rfl HT_ ?_
       refine pn_ (i := 26) (N := some 78) (bs_ 41 134217727) rfl rfl HT_ ?_
       refine pn_ (i := 27) (N := some 79) (bs_ 41 268435455) rfl rfl HT_ ?_
       refine pn_ (i := 28) (N := some 80) (bs_ 41 536870911) rfl rfl HT_ ?_
       refine pn_ (i := 29) (N := some 81) (bs_ 41 1073741823) rfl rfl HT_ ?_
       refine pn_ (i := 30) (N := some 82) (bs_ 41 2147483647) rfl rfl HT_ ?_
       refine pn_ (i := 31) (N := some 83) (bs_ 41 4294967295) rfl rfl HT_ ?_
       refine pu_ (i := 32) (N := some 84) (bs_ 41 8589934591) rfl rfl HT_ ?_
       refine pu_ (i := 33) (N := some 85) (bs_ 41 17179869183) rfl rfl HT_ ?_
       refine pn_ (i := 34) (N := some 86) (bs_ 41 34359738367) rfl rfl HT_ ?_
       refine pn_ (i := 35) (N := some 87) (bs_ 41 68719476735) rfl rfl HT_ ?_
       refine pn_ (i := 36) (N := some 88) (bs_ 41 137438953471) rfl rfl HT_ ?_
       refine pn_ (i := 37) (N := some 89) (bs_ 41 274877906943) rfl rfl HT_ ?_
       refine pn_ (i := 38) (N := some 90) (bs_ 41 549755813887) rfl rfl HT_ ?_
       refine pn_ (i := 39) (N := some 91) (bs_ 41 1099511627775) rfl rfl HT_ ?_
       refine pu_ (i := 40) (N := some 92) (bs_ 41 2199023255551) rfl rfl HT_ ?_
       refine done_ (done_of HT_.out (by kernel_rfl)) ?_
       try go_wp2
       go_meet
       case rel => exact ⟨_, (true), (by first | rfl | (simp; done) | (simp [*]; done)), H', ⟨by have := HJ3.out; have := HJ19.out; first | omega | exact Nat.le_refl _⟩, ⟨by (with_reducible repeat (first | apply Kd.V_alloc | apply Kd.V_drewN | apply Kd.V_drew)); exact Kd.V_mono HO_136002.out (fun _ hk => ⟨hk.1.1, hk.1.2.2.1⟩)⟩, ⟨tk_ BK135⟩, ⟨by repeat (first | (with_reducible first | exact HB.out | apply b_a | apply b_n | apply b_d | refine b_s ?_ GE135.out) | exact HB.out)⟩⟩
      rw [if_neg c56] at H
      have c56b0 : (t144 != x10_19) = false := by simpa using c56
      (try (have c56b1 : decide (t144 = x10_19) = true := by simpa using c56))
      (try (have c56b2 : (t144 == x10_19) = true := by simpa using c56))
      clear c56
      by_cases c69 : x10_19 = true
      rotate_left
      ·
       replace c69 := Bool.eq_false_iff.mpr c69
       subst c69
       have H1 : (pelotonlaw03_GridCells.j2 kj19 a1 a2 (t143 != 0)) = some r := by rw [if_neg (show ¬ (false = true) by decide)] at H; exact H
       clear H
       have H := H1
       clear H1
       have H' := Aside0.mk H
       clear H
       try go_wp2
       replace HO_136002 := Aside0.mk (Kd.V_drew HO_136002.out)
       replace BK135 := Aside0.mk (k_d BK135.out)
       replace HB := Aside0.mk (b_d HB.out)
       refine start_ (n := 41) (S := fun w' => w'.cell? ⟨gb135, 0, none⟩ = some (.int .i64 a0_0) ∧ w'.cell? ⟨gb135, 1, none⟩ = some (.int .i64 a0_1) ∧ w'.cell? ⟨gb135, 2, none⟩ = some (.slice A0_2 l0_2.length c0_2)) (ds := []) #[false, false, false, false, false, false, false, false, false, false, false, false, false, false, false, false, false, false, false, false, false, false, false, false, false, false, false, false, false, false, false, false, false, false, false, false, false, false, false, false, false] (by kernel_rfl) rfl rfl ⟨(blk_cell BK135.out 0).trans rfl, (blk_cell BK135.out 1).trans rfl, (blk_cell BK135.out 2).trans rfl⟩ (fun hHeld => ?_); refine with_tabW pelotonlaw03_GridCells.tab6 pelotonlaw03_GridCells.bits6 (fun HT_ HW_ => ?_)
       generalize wc.drew = w98 at HO_136002 BK135 HB hHeld ⊢
       refine pu_ (i := 3) (N := some 55) (bs_ 41 8) rfl rfl HT_ ?_
       refine take_ (i := 0) (N := some 52) (v := ?_) (a' := ?_) (bs_ 41 9) rfl rfl (take_ofW HT_.out HW_.out (by kernel_rfl)) (fun _ _ _ h => h) (Or.inl ⟨by rfl, ?_⟩) hHeld ?_ ?_
       rotate_left
       ·
        rintro w' ⟨s0, s1, s2⟩
        go_simp
        with_reducible rfl
       rotate_left
       ·
        simp only [Act.put, l_1, l_2, l_3, i64_w, i32_w]
        rfl
       refine one_ (i := 1) (N := some 53) (bs_ 41 11) rfl rfl (one_of HT_.out (by kernel_rfl)) (by decide) (fun K hK => ?_)
       refine Kd.N_lit_step k24 _ 24 ?hg (N' := 53) ?hd (xs := ([(⟨a0_0, a0_1, l0_2⟩ : S24)] : List (S24))) (inner := [.int .i64 a0_0, .int .i64 a0_1, .slice A0_2 l0_2.length c0_2]) (ok := (fun k_ => (P0_2_ k_ ∨ w.heap.size ≤ k_) ∧ k_ ≠ gb135)) (okp := (fun k_ => (P0_2_ k_ ∨ w.heap.size ≤ k_) ∧ k_ ≠ gb135)) ?hr ?hp (fun _ hk => hk) ((show ∀ k_, (_ : Nat) ≤ k_ → (fun k_ => (P0_2_ k_ ∨ w.heap.size ≤ k_) ∧ k_ ≠ gb135) k_ from fun k_ hk => ⟨(.inr (Nat.le_trans (below_size (bw_ HB)) hk)), Kd.freshB (tk_ BK135) k_ hk⟩) _ (Nat.le_refl _)) (Below.refl _ _) (Nat.le_refl _) (by simp) ?_; (case hd => rfl); (case hg => rfl); (case hr => first | exact bld_ 3 ((.agg #[(.int .i64 0), (.int .i64 0), (.slice none 0 0)])) rfl rfl (by simp only [Act.eval, Array.getD_eq_getD_getElem?, l_4, l_5, l_6, List.getElem?_toArray, List.getElem?_cons_succ, List.getElem?_cons_zero, Option.getD_some]; kernel_rfl) | (go_simp; done) | (go_simp; rfl)); (case hp => exact (Reps.c3 (show Kd.FK k24 _ _ (⟨a0_0, a0_1, l0_2⟩ : S24) [.int .i64 a0_0, .int .i64 a0_1, .slice A0_2 l0_2.length c0_2] from (k24_mkF _ _ (⟨a0_0, a0_1, l0_2⟩ : S24) (Kd.V_reads' (Kd.V_mono (ok' := (fun k_ => (P0_2_ k_ ∨ w.heap.size ≤ k_) ∧ k_ ≠ gb135)) (HO_136002.out) (fun k_ hk => ⟨hk.1, hk.2⟩))).2.1 (Kd.V_F (Kd.V_mono (ok' := (fun k_ => (P0_2_ k_ ∨ w.heap.size ≤ k_) ∧ k_ ≠ gb135)) (HO_136002.out) (fun k_ hk => ⟨hk.1, hk.2⟩))))) (Reps.none _ _)))
       intro v146 w99 ho100 hb hg_ hnew_
       clear hg_ hnew_
       (first | rw [← Ny145.out] at ho100 | (simp only [Int.reduceToNat] at ho100; rw [← Ny145.out] at ho100))
       have HO147 := Aside0.mk (Kd.N_lower ho100 (below_size (bw_ HB)))
       replace HO_136002 := Aside0.mk (Kd.V_elder' (tV_ HO_136002) (by first | exact Kd.N_base ho100 | exact Kd.N_base (Kd.S_N ho100)) hb)
       replace BK135 := Aside0.mk (blk_below (tk_ BK135) hb)
       replace HB := Aside0.mk (below_step (bw_ HB) hb)
       clear hb ho100
       obtain ⟨Ao101, co101, eo101⟩ := Kd.N_slice HO147.out
       (first | subst eo101 | (injection eo101 with f1_ f2_ f3_; have f4_ := f1_.symm; have f5_ := f3_.symm; clear f1_ f2_ f3_; subst f4_; subst f5_))
       refine hK.out _ _ ⟨(blk_cell BK135.out 0).trans rfl, (blk_cell BK135.out 1).trans rfl, (blk_cell BK135.out 2).trans rfl⟩ (fun hHeld => ?_)
       clear hK K
       refine no_ (N := some 53) ?_
       refine one_ (i := 2) (N := some 54) (bs_ 41 15) rfl rfl (one_of HT_.out (by kernel_rfl)) (by decide) (fun K hK => ?_)
       refine goes_ Try.func17 (by kernel_rfl) rfl #[.slice Ao101 y145.length co101] (by rfl) rfl rfl (by (try simp only [l_4, l_5, l_6]); first | done | rfl | (simp only [l_7, l_8]; rfl)) ?_
       with_reducible refine (grid_Right.calls kj19 _ _ y145 t148 _ ?side1 ?side2 A33.out).mono ?_
       (case side1 => repeat (first | exact (Kd.N_reads' HO147.out).2.2 | (with_reducible refine Kd.C_alloc ?_ _) | (with_reducible refine Kd.C_drewN ?_ _) | (with_reducible refine Kd.C_drew ?_)))
       (case side2 => exact (Kd.N_reads' HO147.out).2.1)
       rintro e w102 ⟨rfl, hb⟩
       refine ⟨_, rfl, ?_⟩
       replace HO_136002 := Aside0.mk (Kd.V_below (tV_ HO_136002) hb)
       replace HO147 := Aside0.mk (Kd.N_below (tN_ HO147) hb)
       replace BK135 := Aside0.mk (blk_below (tk_ BK135) hb)
       replace HB := Aside0.mk (below_step (bw_ HB) hb)
       (try clear hb)
       (try clear hb2)
       (try clear hk)
       (try clear hi)
       refine hK.out _ _ ⟨(blk_cell BK135.out 0).trans rfl, (blk_cell BK135.out 1).trans rfl, (blk_cell BK135.out 2).trans rfl⟩ (fun hHeld => ?_)
       clear hK K
       refine no_ (N := some 54) ?_
       refine pu_ (i := 4) (N := some 56) (bs_ 41 31) rfl rfl HT_ ?_
       refine pu_ (i := 5) (N := some 57) (bs_ 41 63) rfl rfl HT_ ?_
       refine pu_ (i := 10) (N := some 62) (bs_ 41 1087) rfl rfl HT_ ?_
       refine take_ (i := 6) (N := some 58) (v := ?_) (a' := ?_) (bs_ 41 1151) rfl rfl (take_ofW HT_.out HW_.out (by kernel_rfl)) (fun _ _ _ h => h) (Or.inl ⟨by rfl, ?_⟩) hHeld ?_ ?_
       rotate_left
       ·
        rintro w' ⟨s0, s1, s2⟩
        go_simp
        with_reducible rfl
       rotate_left
       ·
        simp only [Act.put, l_1, l_2, l_3, i64_w, i32_w]
        rfl
       refine one_ (i := 7) (N := some 59) (bs_ 41 1279) rfl rfl (one_of HT_.out (by kernel_rfl)) (by decide) (fun K hK => ?_)
       refine goes_ Try.func18 (by kernel_rfl) rfl #[.slice none 0 0] (by rfl) rfl rfl (by (try simp only [l_4, l_5, l_6]); first | done | rfl | (simp only [l_7, l_8]; rfl)) ?_
       refine (pelotonlaw03_two.calls (fun k_ => some k_ = (.slice none 0 0 : Value).ownBlock) (.slice none 0 0) ([] : List Int) t149 t150 t151 w _ ?side1 ?side2 A40.out).mono ?_
       (case side1 => repeat (first | (with_reducible first | exact HB.out | apply b_a | apply b_n | apply b_d | refine b_s ?_ GE135.out) | exact HB.out))
       (case side2 => exact Kd.R_nil _ _ _ _ _)
       rintro e w103 ⟨v152, rfl, ho0, hb, hkp⟩
       refine ⟨_, rfl, ?_⟩
       have HO153 := Aside0.mk (Kd.R_mono (ok' := fun k_ => (w.heap.size ≤ k_)) ho0 (fun k_ hk_ => Or.elim hk_ (fun hs_ => absurd hs_ (by simp [Value.ownBlock])) (fun hn_ => (Nat.le_trans (below_size (bw_ HB)) hn_))))
       replace HO_136002 := Aside0.mk (Kd.V_mono (ok' := fun k_ => (P0_2_ k_ ∨ w.heap.size ≤ k_) ∧ some k_ ≠ (.slice Ao101 y145.length co101 : Value).ownBlock ∧ k_ ≠ gb135 ∧ some k_ ≠ (v152 : Value).ownBlock) (Kd.V_keptB (HO_136002.out) hkp (fun k_ hk_ hs_ => (fun e_ => by simp [Value.ownBlock] at e_) hs_)) (fun k_ hk_ => ⟨hk_.1.1.1, hk_.1.2, hk_.1.1.2, fun e_ => Or.elim (ho0.1 k_ e_.symm) (fun hs_ => hk_.2.1 hs_) (fun hn_ => Nat.not_le.2 hk_.2.2 hn_)⟩))
       replace BK135 := Aside0.mk (blk_kept (tk_ BK135) hkp (fun hs_ => (fun e_ => by simp [Value.ownBlock] at e_) hs_))
       replace HO147 := Aside0.mk (Kd.N_mono (ok' := fun k_ => (P0_2_ k_ ∨ w.heap.size ≤ k_) ∧ k_ ≠ gb135 ∧ some k_ ≠ (v152 : Value).ownBlock) (Kd.N_keptB (HO147.out) hkp (fun k_ hk_ hs_ => (fun e_ => by simp [Value.ownBlock] at e_) hs_)) (fun k_ hk_ => ⟨hk_.1.1, hk_.1.2, fun e_ => Or.elim (ho0.1 k_ e_.symm) (fun hs_ => hk_.2.1 hs_) (fun hn_ => Nat.not_le.2 hk_.2.2 hn_)⟩))
       replace HB := Aside0.mk (hb)
       (try clear hb)
       (try clear hkp)
       (try clear ho0)
       obtain ⟨Ao104, co104, eo104⟩ := Kd.R_slice HO153.out
       (first | subst eo104 | (injection eo104 with f1_ f2_ f3_; have f4_ := f1_.symm; have f5_ := f3_.symm; clear f1_ f2_ f3_; subst f4_; subst f5_))
       refine hK.out _ _ ⟨(blk_cell BK135.out 0).trans rfl, (blk_cell BK135.out 1).trans rfl, (blk_cell BK135.out 2).trans rfl⟩ (fun hHeld => ?_)
       clear hK K
       refine no_ (N := some 59) ?_
       refine one_ (i := 8) (N := some 60) (bs_ 41 1535) rfl rfl (one_of HT_.out (by kernel_rfl)) (by decide) (fun K hK => ?_)
       refine Kd.N_lit_step k24 _ 24 ?hg (N' := 60) ?hd (xs := ([(⟨a0_0, a0_1, l0_2⟩ : S24), (⟨t149, t150, t151⟩ : S24)] : List (S24))) (inner := [.int .i64 a0_0, .int .i64 a0_1, .slice A0_2 l0_2.length c0_2, .int .i64 t149, .int .i64 t150, .slice Ao104 t151.length co104]) (ok := (fun k_ => (P0_2_ k_ ∨ w.heap.size ≤ k_) ∧ some k_ ≠ (.slice Ao101 y145.length co101 : Value).ownBlock ∧ k_ ≠ gb135)) (okp := (fun k_ => (P0_2_ k_ ∨ w.heap.size ≤ k_) ∧ some k_ ≠ (.slice Ao101 y145.length co101 : Value).ownBlock ∧ k_ ≠ gb135)) ?hr ?hp (fun _ hk => hk) ((show ∀ k_, (_ : Nat) ≤ k_ → (fun k_ => (P0_2_ k_ ∨ w.heap.size ≤ k_) ∧ some k_ ≠ (.slice Ao101 y145.length co101 : Value).ownBlock ∧ k_ ≠ gb135) k_ from fun k_ hk => ⟨(.inr (Nat.le_trans (below_size (bw_ HB)) hk)), Kd.fresh' (Kd.N_lt (tN_ HO147)) k_ hk, Kd.freshB (tk_ BK135) k_ hk⟩) _ (Nat.le_refl _)) (Below.refl _ _) (Nat.le_refl _) (by simp) ?_; (case hd => rfl); (case hg => rfl); (case hr => first | exact bld_ 3 ((.agg #[(.int .i64 0), (.int .i64 0), (.slice none 0 0)])) rfl rfl (by simp only [Act.eval, Array.getD_eq_getD_getElem?, l_4, l_5, l_6, List.getElem?_toArray, List.getElem?_cons_succ, List.getElem?_cons_zero, Option.getD_some]; kernel_rfl) | (go_simp; done) | (go_simp; rfl)); (case hp => exact (Reps.c3 (show Kd.FK k24 _ _ (⟨a0_0, a0_1, l0_2⟩ : S24) [.int .i64 a0_0, .int .i64 a0_1, .slice A0_2 l0_2.length c0_2] from (k24_mkF _ _ (⟨a0_0, a0_1, l0_2⟩ : S24) (Kd.V_reads' (Kd.V_mono (ok' := (fun k_ => (P0_2_ k_ ∨ w.heap.size ≤ k_) ∧ some k_ ≠ (.slice Ao101 y145.length co101 : Value).ownBlock ∧ k_ ≠ gb135)) (HO_136002.out) (fun k_ hk => ⟨hk.1, ⟨hk.2.1, hk.2.2.1⟩⟩))).2.1 (Kd.V_F (Kd.V_mono (ok' := (fun k_ => (P0_2_ k_ ∨ w.heap.size ≤ k_) ∧ some k_ ≠ (.slice Ao101 y145.length co101 : Value).ownBlock ∧ k_ ≠ gb135)) (HO_136002.out) (fun k_ hk => ⟨hk.1, ⟨hk.2.1, hk.2.2.1⟩⟩))))) (Reps.c3 (show Kd.FK k24 _ _ (⟨t149, t150, t151⟩ : S24) [.int .i64 t149, .int .i64 t150, .slice Ao104 t151.length co104] from (k24_mkF _ _ (⟨t149, t150, t151⟩ : S24) (Kd.R_reads' (Kd.R_mono (ok' := (fun k_ => (P0_2_ k_ ∨ w.heap.size ≤ k_) ∧ some k_ ≠ (.slice Ao101 y145.length co101 : Value).ownBlock ∧ k_ ≠ gb135)) (Kd.R_types (Kd.R_apart' (HO153.out) (Kd.N_typed HO147.out) (by decide)) BK135.out (by decide)) (fun k_ hk => ⟨(.inr (hk.1.1)), ⟨hk.1.2, hk.2⟩⟩))).2.1 (Kd.R_F (Kd.R_mono (ok' := (fun k_ => (P0_2_ k_ ∨ w.heap.size ≤ k_) ∧ some k_ ≠ (.slice Ao101 y145.length co101 : Value).ownBlock ∧ k_ ≠ gb135)) (Kd.R_types (Kd.R_apart' (HO153.out) (Kd.N_typed HO147.out) (by decide)) BK135.out (by decide)) (fun k_ hk => ⟨(.inr (hk.1.1)), ⟨hk.1.2, hk.2⟩⟩))))) (Reps.none _ _))))
       intro v155 w105 ho106 hb hg_ hnew_
       clear hg_ hnew_
       (first | rw [← Ny154.out] at ho106 | (simp only [Int.reduceToNat] at ho106; rw [← Ny154.out] at ho106))
       have n0_ := Aside0.mk (Kd.V_elder' (tV_ HO_136002) (by first | exact Kd.N_base ho106 | exact Kd.N_base (Kd.S_N ho106)) hb)
       have n1_ := Aside0.mk (Kd.N_elder' (tN_ HO147) (by first | exact Kd.N_base ho106 | exact Kd.N_base (Kd.S_N ho106)) hb)
       have n2_ := Aside0.mk (Kd.N_lower ho106 (below_size (bw_ HB)))
       have n3_ := Aside0.mk (blk_below (tk_ BK135) hb)
       have n4_ := Aside0.mk (below_step (bw_ HB) hb)
       clear HO_136002
       clear HO147
       clear BK135
       clear HB
       clear HO153
       have HO_136002 := n0_
       have HO147 := n1_
       have HO156 := n2_
       have BK135 := n3_
       have HB := n4_
       clear n0_ n1_ n2_ n3_ n4_
       clear hb ho106
       obtain ⟨Ao107, co107, eo107⟩ := Kd.N_slice HO156.out
       (first | subst eo107 | (injection eo107 with f1_ f2_ f3_; have f4_ := f1_.symm; have f5_ := f3_.symm; clear f1_ f2_ f3_; subst f4_; subst f5_))
       refine hK.out _ _ ⟨(blk_cell BK135.out 0).trans rfl, (blk_cell BK135.out 1).trans rfl, (blk_cell BK135.out 2).trans rfl⟩ (fun hHeld => ?_)
       clear hK K
       refine no_ (N := some 60) ?_
       refine one_ (i := 9) (N := some 61) (bs_ 41 2047) rfl rfl (one_of HT_.out (by kernel_rfl)) (by decide) (fun K hK => ?_)
       refine goes_ Try.func17 (by kernel_rfl) rfl #[.slice Ao107 y154.length co107] (by rfl) rfl rfl (by (try simp only [l_4, l_5, l_6]); first | done | rfl | (simp only [l_7, l_8]; rfl)) ?_
       with_reducible refine (grid_Right.calls kj19 _ _ y154 t157 _ ?side1 ?side2 A41.out).mono ?_
       (case side1 => repeat (first | exact (Kd.N_reads' HO156.out).2.2 | (with_reducible refine Kd.C_alloc ?_ _) | (with_reducible refine Kd.C_drewN ?_ _) | (with_reducible refine Kd.C_drew ?_)))
       (case side2 => exact (Kd.N_reads' HO156.out).2.1)
       rintro e w108 ⟨rfl, hb⟩
       refine ⟨_, rfl, ?_⟩
       replace HO_136002 := Aside0.mk (Kd.V_below (tV_ HO_136002) hb)
       replace HO147 := Aside0.mk (Kd.N_below (tN_ HO147) hb)
       replace HO156 := Aside0.mk (Kd.N_below (tN_ HO156) hb)
       replace BK135 := Aside0.mk (blk_below (tk_ BK135) hb)
       replace HB := Aside0.mk (below_step (bw_ HB) hb)
       (try clear hb)
       (try clear hb2)
       (try clear hk)
       (try clear hi)
       refine hK.out _ _ ⟨(blk_cell BK135.out 0).trans rfl, (blk_cell BK135.out 1).trans rfl, (blk_cell BK135.out 2).trans rfl⟩ (fun hHeld => ?_)
       clear hK K
       refine no_ (N := some 61) ?_
       refine pu_ (i := 11) (N := some 63) (bs_ 41 4095) rfl rfl HT_ ?_
       refine pu_ (i := 12) (N := some 64) (bs_ 41 8191) rfl rfl HT_ ?_
       refine pu_ (i := 13) (N := some 65) (bs_ 41 16383) rfl rfl HT_ ?_
       refine one_ (i := 14) (N := some 66) (bs_ 41 32767) rfl rfl (one_of HT_.out (by kernel_rfl)) (by decide) (fun K hK => ?_)
       refine goes_ Try.func17 (by kernel_rfl) rfl #[.slice none 0 0] (by rfl) rfl rfl (by (try simp only [l_4, l_5, l_6]); first | done | rfl | (simp only [l_7, l_8]; rfl)) ?_
       refine (grid_Right.calls kj19 _ _ ([] : List (S24)) true _ ?side1 ?side2 A54.out).mono ?_
       (case side1 => exact Kd.C_nil _ _)
       (case side2 => exact Nat.le_refl _)
       rintro e w109 ⟨rfl, hb⟩
       refine ⟨_, rfl, ?_⟩
       replace HO_136002 := Aside0.mk (Kd.V_below (tV_ HO_136002) hb)
       replace HO147 := Aside0.mk (Kd.N_below (tN_ HO147) hb)
       replace HO156 := Aside0.mk (Kd.N_below (tN_ HO156) hb)
       replace BK135 := Aside0.mk (blk_below (tk_ BK135) hb)
       replace HB := Aside0.mk (below_step (bw_ HB) hb)
       (try clear hb)
       (try clear hb2)
       (try clear hk)
       (try clear hi)
       refine hK.out _ _ ⟨(blk_cell BK135.out 0).trans rfl, (blk_cell BK135.out 1).trans rfl, (blk_cell BK135.out 2).trans rfl⟩ (fun hHeld => ?_)
       clear hK K
       refine no_ (N := some 66) ?_
       refine pu_ (i := 15) (N := some 67) (bs_ 41 65535) rfl rfl HT_ ?_
       refine pu_ (i := 16) (N := some 68) (bs_ 41 131071) rfl rfl HT_ ?_
       refine pu_ (i := 17) (N := some 69) (bs_ 41 262143) rfl rfl HT_ ?_
       refine pu_ (i := 18) (N := some 70) (bs_ 41 524287) rfl rfl HT_ ?_
       refine pu_ (i := 19) (N := some 71) (bs_ 41 1048575) rfl rfl HT_ ?_
       refine pu_ (i := 20) (N := some 72) (bs_ 41 2097151) rfl rfl HT_ ?_
       refine pu_ (i := 21) (N := some 73) (bs_ 41 4194303) rfl rfl HT_ ?_
       refine pu_ (i := 22) (N := some 74) (bs_ 41 8388607) rfl rfl HT_ ?_
       refine pu_ (i := 23) (N := some 75) (bs_ 41 16777215) rfl rfl HT_ ?_
       refine pu_ (i := 24) (N := some 76) (bs_ 41 33554431) rfl rfl HT_ ?_
       refine pn_ (i := 25) (N := some 77) (bs_ 41 67108863) rfl rfl HT_ ?_
       refine pn_ (i := 26) (N := some 78) (bs_ 41 134217727) rfl rfl HT_ ?_
       refine pn_ (i := 27) (N := some 79) (bs_ 41 268435455) rfl rfl HT_ ?_
       refine pn_ (i := 28) (N := some 80) (bs_ 41 536870911) rfl rfl HT_ ?_
       refine pn_ (i := 29) (N := some 81) (bs_ 41 1073741823) rfl rfl HT_ ?_
       refine pn_ (i := 30) (N := some 82) (bs_ 41 2147483647) rfl rfl HT_ ?_
       refine pu_ (i := 31) (N := some 83) (bs_ 41 4294967295) rfl rfl HT_ ?_
       refine pu_ (i := 32) (N := some 84) (bs_ 41 8589934591) rfl rfl HT_ ?_
       refine pu_ (i := 33) (N := some 85) (bs_ 41 17179869183) rfl rfl HT_ ?_
       refine pu_ (i := 34) (N := some 86) (bs_ 41 34359738367) rfl rfl HT_ ?_
       refine pu_ (i := 35) (N := some 87) (bs_ 41 68719476735) rfl rfl HT_ ?_
       refine pu_ (i := 36) (N := some 88) (bs_ 41 137438953471) rfl rfl HT_ ?_
       refine pu_ (i := 37) (N := some 89) (bs_ 41 274877906943) rfl rfl HT_ ?_
       refine pu_ (i := 38) (N := some 90) (bs_ 41 549755813887) rfl rfl HT_ ?_
       refine pu_ (i := 39) (N := some 91) (bs_ 41 1099511627775) rfl rfl HT_ ?_
       refine pu_ (i := 40) (N := some 92) (bs_ 41 2199023255551) rfl rfl HT_ ?_
       refine done_ (done_of HT_.out (by kernel_rfl)) ?_
       try go_wp2
       go_meet
       case rel => exact ⟨_, ((t143 != 0)), (by first | rfl | (simp; done) | (simp [*]; done)), H', ⟨by have := HJ3.out; have := HJ19.out; first | omega | exact Nat.le_refl _⟩, ⟨by (with_reducible repeat (first | apply Kd.V_alloc | apply Kd.V_drewN | apply Kd.V_drew)); exact Kd.V_mono HO_136002.out (fun _ hk => ⟨hk.1.1, hk.1.2.2.1⟩)⟩, ⟨tk_ BK135⟩, ⟨by repeat (first | (with_reducible first | exact HB.out | apply b_a | apply b_n | apply b_d | refine b_s ?_ GE135.out) | exact HB.out)⟩⟩
      subst c69
      have H1 : ((pelotonref03_Cell.f a0_0 a0_1 l0_2 a1 a2).bind fun t159 => (if t143 = t159 then (pelotonlaw03_GridCells.j2 kj19 a1 a2 false) else (pelotonlaw03_GridCells.j2 kj19 a1 a2 true))) = some r := by rw [if_pos rfl] at H; exact H
      clear H
      have H := H1
      clear H1
      replace H := Option.bind_eq_some_iff.mp H
      obtain ⟨t159, A700, H⟩ := H
      replace H : (if t143 = t159 then (pelotonlaw03_GridCells.j2 kj19 a1 a2 false) else (pelotonlaw03_GridCells.j2 kj19 a1 a2 true)) = some r := H
      have A70 := Aside0.mk A700
      clear A700
      by_cases c71 : t143 = t159
      rotate_left
      ·
       rw [if_neg c71] at H
       have c71b0 : (t143 == t159) = false := beq_eq_false_iff_ne.mpr c71
       have c71b1 : (t143 != t159) = true := bne_iff_ne.mpr c71
       have H' := Aside0.mk H
       clear H
       try go_wp2
       replace HO_136002 := Aside0.mk (Kd.V_drew HO_136002.out)
       replace BK135 := Aside0.mk (k_d BK135.out)
       replace HB := Aside0.mk (b_d HB.out)
       refine start_ (n := 41) (S := fun w' => w'.cell? ⟨gb135, 0, none⟩ = some (.int .i64 a0_0) ∧ w'.cell? ⟨gb135, 1, none⟩ = some (.int .i64 a0_1) ∧ w'.cell? ⟨gb135, 2, none⟩ = some (.slice A0_2 l0_2.length c0_2)) (ds := []) #[false, false, false, false, false, false, false, false, false, false, false, false, false, false, false, false, false, false, false, false, false, false, false, false, false, false, false, false, false, false, false, false, false, false, false, false, false, false, false, false, false] (by kernel_rfl) rfl rfl ⟨(blk_cell BK135.out 0).trans rfl, (blk_cell BK135.out 1).trans rfl, (blk_cell BK135.out 2).trans rfl⟩ (fun hHeld => ?_); refine with_tabW pelotonlaw03_GridCells.tab6 pelotonlaw03_GridCells.bits6 (fun HT_ HW_ => ?_)
       generalize wc.drew = w85 at HO_136002 BK135 HB hHeld ⊢
       refine pu_ (i := 3) (N := some 55) (bs_ 41 8) rfl rfl HT_ ?_
       refine take_ (i := 0) (N := some 52) (v := ?_) (a' := ?_) (bs_ 41 9) rfl rfl (take_ofW HT_.out HW_.out (by kernel_rfl)) (fun _ _ _ h => h) (Or.inl ⟨by rfl, ?_⟩) hHeld ?_ ?_
       rotate_left
       ·
        rintro w' ⟨s0, s1, s2⟩
        go_simp
        with_reducible rfl
       rotate_left
       ·
        simp only [Act.put, l_1, l_2, l_3, i64_w, i32_w]
        rfl
       refine one_ (i := 1) (N := some 53) (bs_ 41 11) rfl rfl (one_of HT_.out (by kernel_rfl)) (by decide) (fun K hK => ?_)
       refine Kd.N_lit_step k24 _ 24 ?hg (N' := 53) ?hd (xs := ([(⟨a0_0, a0_1, l0_2⟩ : S24)] : List (S24))) (inner := [.int .i64 a0_0, .int .i64 a0_1, .slice A0_2 l0_2.length c0_2]) (ok := (fun k_ => (P0_2_ k_ ∨ w.heap.size ≤ k_) ∧ k_ ≠ gb135)) (okp := (fun k_ => (P0_2_ k_ ∨ w.heap.size ≤ k_) ∧ k_ ≠ gb135)) ?hr ?hp (fun _ hk => hk) ((show ∀ k_, (_ : Nat) ≤ k_ → (fun k_ => (P0_2_ k_ ∨ w.heap.size ≤ k_) ∧ k_ ≠ gb135) k_ from fun k_ hk => ⟨(.inr (Nat.le_trans (below_size (bw_ HB)) hk)), Kd.freshB (tk_ BK135) k_ hk⟩) _ (Nat.le_refl _)) (Below.refl _ _) (Nat.le_refl _) (by simp) ?_; (case hd => rfl); (case hg => rfl); (case hr => first | exact bld_ 3 ((.agg #[(.int .i64 0), (.int .i64 0), (.slice none 0 0)])) rfl rfl (by simp only [Act.eval, Array.getD_eq_getD_getElem?, l_4, l_5, l_6, List.getElem?_toArray, List.getElem?_cons_succ, List.getElem?_cons_zero, Option.getD_some]; kernel_rfl) | (go_simp; done) | (go_simp; rfl)); (case hp => exact (Reps.c3 (show Kd.FK k24 _ _ (⟨a0_0, a0_1, l0_2⟩ : S24) [.int .i64 a0_0, .int .i64 a0_1, .slice A0_2 l0_2.length c0_2] from (k24_mkF _ _ (⟨a0_0, a0_1, l0_2⟩ : S24) (Kd.V_reads' (Kd.V_mono (ok' := (fun k_ => (P0_2_ k_ ∨ w.heap.size ≤ k_) ∧ k_ ≠ gb135)) (HO_136002.out) (fun k_ hk => ⟨hk.1, hk.2⟩))).2.1 (Kd.V_F (Kd.V_mono (ok' := (fun k_ => (P0_2_ k_ ∨ w.heap.size ≤ k_) ∧ k_ ≠ gb135)) (HO_136002.out) (fun k_ hk => ⟨hk.1, hk.2⟩))))) (Reps.none _ _)))
       intro v146 w86 ho87 hb hg_ hnew_
       clear hg_ hnew_
       (first | rw [← Ny145.out] at ho87 | (simp only [Int.reduceToNat] at ho87; rw [← Ny145.out] at ho87))
       have HO147 := Aside0.mk (Kd.N_lower ho87 (below_size (bw_ HB)))
       replace HO_136002 := Aside0.mk (Kd.V_elder' (tV_ HO_136002) (by first | exact Kd.N_base ho87 | exact Kd.N_base (Kd.S_N ho87)) hb)
       replace BK135 := Aside0.mk (blk_below (tk_ BK135) hb)
       replace HB := Aside0.mk (below_step (bw_ HB) hb)
       clear hb ho87
       obtain ⟨Ao88, co88, eo88⟩ := Kd.N_slice HO147.out
       (first | subst eo88 | (injection eo88 with f1_ f2_ f3_; have f4_ := f1_.symm; have f5_ := f3_.symm; clear f1_ f2_ f3_; subst f4_; subst f5_))
       refine hK.out _ _ ⟨(blk_cell BK135.out 0).trans rfl, (blk_cell BK135.out 1).trans rfl, (blk_cell BK135.out 2).trans rfl⟩ (fun hHeld => ?_)
       clear hK K
       refine no_ (N := some 53) ?_
       refine one_ (i := 2) (N := some 54) (bs_ 41 15) rfl rfl (one_of HT_.out (by kernel_rfl)) (by decide) (fun K hK => ?_)
       refine goes_ Try.func17 (by kernel_rfl) rfl #[.slice Ao88 y145.length co88] (by rfl) rfl rfl (by (try simp only [l_4, l_5, l_6]); first | done | rfl | (simp only [l_7, l_8]; rfl)) ?_
       with_reducible refine (grid_Right.calls kj19 _ _ y145 t148 _ ?side1 ?side2 A33.out).mono ?_
       (case side1 => repeat (first | exact (Kd.N_reads' HO147.out).2.2 | (with_reducible refine Kd.C_alloc ?_ _) | (with_reducible refine Kd.C_drewN ?_ _) | (with_reducible refine Kd.C_drew ?_)))
       (case side2 => exact (Kd.N_reads' HO147.out).2.1)
       rintro e w89 ⟨rfl, hb⟩
       refine ⟨_, rfl, ?_⟩
       replace HO_136002 := Aside0.mk (Kd.V_below (tV_ HO_136002) hb)
       replace HO147 := Aside0.mk (Kd.N_below (tN_ HO147) hb)
       replace BK135 := Aside0.mk (blk_below (tk_ BK135) hb)
       replace HB := Aside0.mk (below_step (bw_ HB) hb)
       (try clear hb)
       (try clear hb2)
       (try clear hk)
       (try clear hi)
       refine hK.out _ _ ⟨(blk_cell BK135.out 0).trans rfl, (blk_cell BK135.out 1).trans rfl, (blk_cell BK135.out 2).trans rfl⟩ (fun hHeld => ?_)
       clear hK K
       refine no_ (N := some 54) ?_
       refine pu_ (i := 4) (N := some 56) (bs_ 41 31) rfl rfl HT_ ?_
       refine pu_ (i := 5) (N := some 57) (bs_ 41 63) rfl rfl HT_ ?_
       refine pu_ (i := 10) (N := some 62) (bs_ 41 1087) rfl rfl HT_ ?_
       refine take_ (i := 6) (N := some 58) (v := ?_) (a' := ?_) (bs_ 41 1151) rfl rfl (take_ofW HT_.out HW_.out (by kernel_rfl)) (fun _ _ _ h => h) (Or.inl ⟨by rfl, ?_⟩) hHeld ?_ ?_
       rotate_left
       ·
        rintro w' ⟨s0, s1, s2⟩
        go_simp
        with_reducible rfl
       rotate_left
       ·
        simp only [Act.put, l_1, l_2, l_3, i64_w, i32_w]
        rfl
       refine one_ (i := 7) (N := some 59) (bs_ 41 1279) rfl rfl (one_of HT_.out (by kernel_rfl)) (by decide) (fun K hK => ?_)
       refine goes_ Try.func18 (by kernel_rfl) rfl #[.slice none 0 0] (by rfl) rfl rfl (by (try simp only [l_4, l_5, l_6]); first | done | rfl | (simp only [l_7, l_8]; rfl)) ?_
       refine (pelotonlaw03_two.calls (fun k_ => some k_ = (.slice none 0 0 : Value).ownBlock) (.slice none 0 0) ([] : List Int) t149 t150 t151 w _ ?side1 ?side2 A40.out).mono ?_
       (case side1 => repeat (first | (with_reducible first | exact HB.out | apply b_a | apply b_n | apply b_d | refine b_s ?_ GE135.out) | exact HB.out))
       (case side2 => exact Kd.R_nil _ _ _ _ _)
       rintro e w90 ⟨v152, rfl, ho0, hb, hkp⟩
       refine ⟨_, rfl, ?_⟩
       have HO153 := Aside0.mk (Kd.R_mono (ok' := fun k_ => (w.heap.size ≤ k_)) ho0 (fun k_ hk_ => Or.elim hk_ (fun hs_ => absurd hs_ (by simp [Value.ownBlock])) (fun hn_ => (Nat.le_trans (below_size (bw_ HB)) hn_))))
       replace HO_136002 := Aside0.mk (Kd.V_mono (ok' := fun k_ => (P0_2_ k_ ∨ w.heap.size ≤ k_) ∧ some k_ ≠ (.slice Ao88 y145.length co88 : Value).ownBlock ∧ k_ ≠ gb135 ∧ some k_ ≠ (v152 : Value).ownBlock) (Kd.V_keptB (HO_136002.out) hkp (fun k_ hk_ hs_ => (fun e_ => by simp [Value.ownBlock] at e_) hs_)) (fun k_ hk_ => ⟨hk_.1.1.1, hk_.1.2, hk_.1.1.2, fun e_ => Or.elim (ho0.1 k_ e_.symm) (fun hs_ => hk_.2.1 hs_) (fun hn_ => Nat.not_le.2 hk_.2.2 hn_)⟩))
       replace BK135 := Aside0.mk (blk_kept (tk_ BK135) hkp (fun hs_ => (fun e_ => by simp [Value.ownBlock] at e_) hs_))
       replace HO147 := Aside0.mk (Kd.N_mono (ok' := fun k_ => (P0_2_ k_ ∨ w.heap.size ≤ k_) ∧ k_ ≠ gb135 ∧ some k_ ≠ (v152 : Value).ownBlock) (Kd.N_keptB (HO147.out) hkp (fun k_ hk_ hs_ => (fun e_ => by simp [Value.ownBlock] at e_) hs_)) (fun k_ hk_ => ⟨hk_.1.1, hk_.1.2, fun e_ => Or.elim (ho0.1 k_ e_.symm) (fun hs_ => hk_.2.1 hs_) (fun hn_ => Nat.not_le.2 hk_.2.2 hn_)⟩))
       replace HB := Aside0.mk (hb)
       (try clear hb)
       (try clear hkp)
       (try clear ho0)
       obtain ⟨Ao91, co91, eo91⟩ := Kd.R_slice HO153.out
       (first | subst eo91 | (injection eo91 with f1_ f2_ f3_; have f4_ := f1_.symm; have f5_ := f3_.symm; clear f1_ f2_ f3_; subst f4_; subst f5_))
       refine hK.out _ _ ⟨(blk_cell BK135.out 0).trans rfl, (blk_cell BK135.out 1).trans rfl, (blk_cell BK135.out 2).trans rfl⟩ (fun hHeld => ?_)
       clear hK K
       refine no_ (N := some 59) ?_
       refine one_ (i := 8) (N := some 60) (bs_ 41 1535) rfl rfl (one_of HT_.out (by kernel_rfl)) (by decide) (fun K hK => ?_)
       refine Kd.N_lit_step k24 _ 24 ?hg (N' := 60) ?hd (xs := ([(⟨a0_0, a0_1, l0_2⟩ : S24), (⟨t149, t150, t151⟩ : S24)] : List (S24))) (inner := [.int .i64 a0_0, .int .i64 a0_1, .slice A0_2 l0_2.length c0_2, .int .i64 t149, .int .i64 t150, .slice Ao91 t151.length co91]) (ok := (fun k_ => (P0_2_ k_ ∨ w.heap.size ≤ k_) ∧ some k_ ≠ (.slice Ao88 y145.length co88 : Value).ownBlock ∧ k_ ≠ gb135)) (okp := (fun k_ => (P0_2_ k_ ∨ w.heap.size ≤ k_) ∧ some k_ ≠ (.slice Ao88 y145.length co88 : Value).ownBlock ∧ k_ ≠ gb135)) ?hr ?hp (fun _ hk => hk) ((show ∀ k_, (_ : Nat) ≤ k_ → (fun k_ => (P0_2_ k_ ∨ w.heap.size ≤ k_) ∧ some k_ ≠ (.slice Ao88 y145.length co88 : Value).ownBlock ∧ k_ ≠ gb135) k_ from fun k_ hk => ⟨(.inr (Nat.le_trans (below_size (bw_ HB)) hk)), Kd.fresh' (Kd.N_lt (tN_ HO147)) k_ hk, Kd.freshB (tk_ BK135) k_ hk⟩) _ (Nat.le_refl _)) (Below.refl _ _) (Nat.le_refl _) (by simp) ?_; (case hd => rfl); (case hg => rfl); (case hr => first | exact bld_ 3 ((.agg #[(.int .i64 0), (.int .i64 0), (.slice none 0 0)])) rfl rfl (by simp only [Act.eval, Array.getD_eq_getD_getElem?, l_4, l_5, l_6, List.getElem?_toArray, List.getElem?_cons_succ, List.getElem?_cons_zero, Option.getD_some]; kernel_rfl) | (go_simp; done) | (go_simp; rfl)); (case hp => exact (Reps.c3 (show Kd.FK k24 _ _ (⟨a0_0, a0_1, l0_2⟩ : S24) [.int .i64 a0_0, .int .i64 a0_1, .slice A0_2 l0_2.length c0_2] from (k24_mkF _ _ (⟨a0_0, a0_1, l0_2⟩ : S24) (Kd.V_reads' (Kd.V_mono (ok' := (fun k_ => (P0_2_ k_ ∨ w.heap.size ≤ k_) ∧ some k_ ≠ (.slice Ao88 y145.length co88 : Value).ownBlock ∧ k_ ≠ gb135)) (HO_136002.out) (fun k_ hk => ⟨hk.1, ⟨hk.2.1, hk.2.2.1⟩⟩))).2.1 (Kd.V_F (Kd.V_mono (ok' := (fun k_ => (P0_2_ k_ ∨ w.heap.size ≤ k_) ∧ some k_ ≠ (.slice Ao88 y145.length co88 : Value).ownBlock ∧ k_ ≠ gb135)) (HO_136002.out) (fun k_ hk => ⟨hk.1, ⟨hk.2.1, hk.2.2.1⟩⟩))))) (Reps.c3 (show Kd.FK k24 _ _ (⟨t149, t150, t151⟩ : S24) [.int .i64 t149, .int .i64 t150, .slice Ao91 t151.length co91] from (k24_mkF _ _ (⟨t149, t150, t151⟩ : S24) (Kd.R_reads' (Kd.R_mono (ok' := (fun k_ => (P0_2_ k_ ∨ w.heap.size ≤ k_) ∧ some k_ ≠ (.slice Ao88 y145.length co88 : Value).ownBlock ∧ k_ ≠ gb135)) (Kd.R_types (Kd.R_apart' (HO153.out) (Kd.N_typed HO147.out) (by decide)) BK135.out (by decide)) (fun k_ hk => ⟨(.inr (hk.1.1)), ⟨hk.1.2, hk.2⟩⟩))).2.1 (Kd.R_F (Kd.R_mono (ok' := (fun k_ => (P0_2_ k_ ∨ w.heap.size ≤ k_) ∧ some k_ ≠ (.slice Ao88 y145.length co88 : Value).ownBlock ∧ k_ ≠ gb135)) (Kd.R_types (Kd.R_apart' (HO153.out) (Kd.N_typed HO147.out) (by decide)) BK135.out (by decide)) (fun k_ hk => ⟨(.inr (hk.1.1)), ⟨hk.1.2, hk.2⟩⟩))))) (Reps.none _ _))))
       intro v155 w92 ho93 hb hg_ hnew_
       clear hg_ hnew_
       (first | rw [← Ny154.out] at ho93 | (simp only [Int.reduceToNat] at ho93; rw [← Ny154.out] at ho93))
       have n0_ := Aside0.mk (Kd.V_elder' (tV_ HO_136002) (by first | exact Kd.N_base ho93 | exact Kd.N_base (Kd.S_N ho93)) hb)
       have n1_ := Aside0.mk (Kd.N_elder' (tN_ HO147) (by first | exact Kd.N_base ho93 | exact Kd.N_base (Kd.S_N ho93)) hb)
       have n2_ := Aside0.mk (Kd.N_lower ho93 (below_size (bw_ HB)))
       have n3_ := Aside0.mk (blk_below (tk_ BK135) hb)
       have n4_ := Aside0.mk (below_step (bw_ HB) hb)
       clear HO_136002
       clear HO147
       clear BK135
       clear HB
       clear HO153
       have HO_136002 := n0_
       have HO147 := n1_
       have HO156 := n2_
       have BK135 := n3_
       have HB := n4_
       clear n0_ n1_ n2_ n3_ n4_
       clear hb ho93
       obtain ⟨Ao94, co94, eo94⟩ := Kd.N_slice HO156.out
       (first | subst eo94 | (injection eo94 with f1_ f2_ f3_; have f4_ := f1_.symm; have f5_ := f3_.symm; clear f1_ f2_ f3_; subst f4_; subst f5_))
       refine hK.out _ _ ⟨(blk_cell BK135.out 0).trans rfl, (blk_cell BK135.out 1).trans rfl, (blk_cell BK135.out 2).trans rfl⟩ (fun hHeld => ?_)
       clear hK K
       refine no_ (N := some 60) ?_
       refine one_ (i := 9) (N := some 61) (bs_ 41 2047) rfl rfl (one_of HT_.out (by kernel_rfl)) (by decide) (fun K hK => ?_)
       refine goes_ Try.func17 (by kernel_rfl) rfl #[.slice Ao94 y154.length co94] (by rfl) rfl rfl (by (try simp only [l_4, l_5, l_6]); first | done | rfl | (simp only [l_7, l_8]; rfl)) ?_
       with_reducible refine (grid_Right.calls kj19 _ _ y154 t157 _ ?side1 ?side2 A41.out).mono ?_
       (case side1 => repeat (first | exact (Kd.N_reads' HO156.out).2.2 | (with_reducible refine Kd.C_alloc ?_ _) | (with_reducible refine Kd.C_drewN ?_ _) | (with_reducible refine Kd.C_drew ?_)))
       (case side2 => exact (Kd.N_reads' HO156.out).2.1)
       rintro e w95 ⟨rfl, hb⟩
       refine ⟨_, rfl, ?_⟩
       replace HO_136002 := Aside0.mk (Kd.V_below (tV_ HO_136002) hb)
       replace HO147 := Aside0.mk (Kd.N_below (tN_ HO147) hb)
       replace HO156 := Aside0.mk (Kd.N_below (tN_ HO156) hb)
       replace BK135 := Aside0.mk (blk_below (tk_ BK135) hb)
       replace HB := Aside0.mk (below_step (bw_ HB) hb)
       (try clear hb)
       (try clear hb2)
       (try clear hk)
       (try clear hi)
       refine hK.out _ _ ⟨(blk_cell BK135.out 0).trans rfl, (blk_cell BK135.out 1).trans rfl, (blk_cell BK135.out 2).trans rfl⟩ (fun hHeld => ?_)
       clear hK K
       refine no_ (N := some 61) ?_
       refine pu_ (i := 11) (N := some 63) (bs_ 41 4095) rfl rfl HT_ ?_
       refine pu_ (i := 12) (N := some 64) (bs_ 41 8191) rfl rfl HT_ ?_
       refine pu_ (i := 13) (N := some 65) (bs_ 41 16383) rfl rfl HT_ ?_
       refine one_ (i := 14) (N := some 66) (bs_ 41 32767) rfl rfl (one_of HT_.out (by kernel_rfl)) (by decide) (fun K hK => ?_)
       refine goes_ Try.func17 (by kernel_rfl) rfl #[.slice none 0 0] (by rfl) rfl rfl (by (try simp only [l_4, l_5, l_6]); first | done | rfl | (simp only [l_7, l_8]; rfl)) ?_
       refine (grid_Right.calls kj19 _ _ ([] : List (S24)) true _ ?side1 ?side2 A54.out).mono ?_
       (case side1 => exact Kd.C_nil _ _)
       (case side2 => exact Nat.le_refl _)
       rintro e w96 ⟨rfl, hb⟩
       refine ⟨_, rfl, ?_⟩
       replace HO_136002 := Aside0.mk (Kd.V_below (tV_ HO_136002) hb)
       replace HO147 := Aside0.mk (Kd.N_below (tN_ HO147) hb)
       replace HO156 := Aside0.mk (Kd.N_below (tN_ HO156) hb)
       replace BK135 := Aside0.mk (blk_below (tk_ BK135) hb)
       replace HB := Aside0.mk (below_step (bw_ HB) hb)
       (try clear hb)
       (try clear hb2)
       (try clear hk)
       (try clear hi)
       refine hK.out _ _ ⟨(blk_cell BK135.out 0).trans rfl, (blk_cell BK135.out 1).trans rfl, (blk_cell BK135.out 2).trans rfl⟩ (fun hHeld => ?_)
       clear hK K
       refine no_ (N := some 66) ?_
       refine pu_ (i := 15) (N := some 67) (bs_ 41 65535) rfl rfl HT_ ?_
       refine pu_ (i := 16) (N := some 68) (bs_ 41 131071) rfl rfl HT_ ?_
       refine pu_ (i := 17) (N := some 69) (bs_ 41 262143) rfl rfl HT_ ?_
       refine pu_ (i := 18) (N := some 70) (bs_ 41 524287) rfl rfl HT_ ?_
       refine pu_ (i := 19) (N := some 71) (bs_ 41 1048575) rfl rfl HT_ ?_
       refine pu_ (i := 20) (N := some 72) (bs_ 41 2097151) rfl rfl HT_ ?_
       refine pu_ (i := 21) (N := some 73) (bs_ 41 4194303) rfl rfl HT_ ?_
       refine pu_ (i := 22) (N := some 74) (bs_ 41 8388607) rfl rfl HT_ ?_
       refine pu_ (i := 23) (N := some 75) (bs_ 41 16777215) rfl rfl HT_ ?_
       refine pu_ (i := 24) (N := some 76) (bs_ 41 33554431) rfl rfl HT_ ?_
       refine pu_ (i := 25) (N := some 77) (bs_ 41 67108863) rfl rfl HT_ ?_
       refine pu_ (i := 27) (N := some 79) (bs_ 41 201326591) rfl rfl HT_ ?_
       refine pu_ (i := 28) (N := some 80) (bs_ 41 469762047) rfl rfl HT_ ?_
       refine take_ (i := 26) (N := some 78) (v := ?_) (a' := ?_) (bs_ 41 536870911) rfl rfl (take_ofW HT_.out HW_.out (by kernel_rfl)) (fun _ _ _ h => h) (Or.inl ⟨by rfl, ?_⟩) hHeld ?_ ?_
       rotate_left
       ·
        rintro w' ⟨s0, s1, s2⟩
        go_simp
        with_reducible rfl
       rotate_left
       ·
        simp only [Act.put, l_1, l_2, l_3, i64_w, i32_w]
        rfl
       refine one_ (i := 29) (N := some 81) (bs_ 41 1073741823) rfl rfl (one_of HT_.out (by kernel_rfl)) (by decide) (fun K hK => ?_)
       refine goes_ Try.func19 (by kernel_rfl) rfl #[.agg #[.int .i64 a0_0, .int .i64 a0_1, .slice A0_2 l0_2.length c0_2], .int .i64 a1, .int .i64 a2] (by rfl) rfl rfl (by (try simp only [l_4, l_5, l_6]); first | done | rfl | (simp only [l_7, l_8]; rfl)) ?_
       with_reducible refine (pelotonref03_Cell.calls a0_0 a0_1 _ _ l0_2 a1 a2 t159 _ ?side1 ?side2 A70.out).mono ?_
       (case side1 => repeat (first | exact (Kd.V_reads' HO_136002.out).2.2 | (with_reducible refine Kd.C_alloc ?_ _) | (with_reducible refine Kd.C_drewN ?_ _) | (with_reducible refine Kd.C_drew ?_)))
       (case side2 => exact (Kd.V_reads' HO_136002.out).2.1)
       rintro e w97 ⟨rfl, hb⟩
       refine ⟨_, rfl, ?_⟩
       replace HO_136002 := Aside0.mk (Kd.V_below (tV_ HO_136002) hb)
       replace HO147 := Aside0.mk (Kd.N_below (tN_ HO147) hb)
       replace HO156 := Aside0.mk (Kd.N_below (tN_ HO156) hb)
       replace BK135 := Aside0.mk (blk_below (tk_ BK135) hb)
       replace HB := Aside0.mk (below_step (bw_ HB) hb)
       (try clear hb)
       (try clear hb2)
       (try clear hk)
       (try clear hi)
       refine hK.out _ _ ⟨(blk_cell BK135.out 0).trans rfl, (blk_cell BK135.out 1).trans rfl, (blk_cell BK135.out 2).trans rfl⟩ (fun hHeld => ?_)
       clear hK K
       refine no_ (N := some 81) ?_
       refine pu_ (i := 30) (N := some 82) (bs_ 41 2147483647) rfl rfl HT_ ?_
       refine pu_ (i := 31) (N := some 83) (bs_ 41 4294967295) rfl rfl HT_ ?_
       refine pu_ (i := 32) (N := some 84) (bs_ 41 8589934591) rfl rfl HT_ ?_
       refine pu_ (i := 33) (N := some 85) (bs_ 41 17179869183) rfl rfl HT_ ?_
       refine pn_ (i := 34) (N := some 86) (bs_ 41 34359738367) rfl rfl HT_ ?_
       refine pn_ (i := 35) (N := some 87) (bs_ 41 68719476735) rfl rfl HT_ ?_
       refine pn_ (i := 36) (N := some 88) (bs_ 41 137438953471) rfl rfl HT_ ?_
       refine pn_ (i := 37) (N := some 89) (bs_ 41 274877906943) rfl rfl HT_ ?_
       refine pn_ (i := 38) (N := some 90) (bs_ 41 549755813887) rfl rfl HT_ ?_
       refine pn_ (i := 39) (N := some 91) (bs_ 41 1099511627775) rfl rfl HT_ ?_
       refine pu_ (i := 40) (N := some 92) (bs_ 41 2199023255551) rfl rfl HT_ ?_
       refine done_ (done_of HT_.out (by kernel_rfl)) ?_
       try go_wp2
       go_meet
       case rel => exact ⟨_, (true), (by first | rfl | (simp; done) | (simp [*]; done)), H', ⟨by have := HJ3.out; have := HJ19.out; first | omega | exact Nat.le_refl _⟩, ⟨by (with_reducible repeat (first | apply Kd.V_alloc | apply Kd.V_drewN | apply Kd.V_drew)); exact Kd.V_mono HO_136002.out (fun _ hk => ⟨hk.1.1, hk.1.2.2.1⟩)⟩, ⟨tk_ BK135⟩, ⟨by repeat (first | (with_reducible first | exact HB.out | apply b_a | apply b_n | apply b_d | refine b_s ?_ GE135.out) | exact HB.out)⟩⟩
      rw [if_pos c71] at H
      have c71b0 : (t143 == t159) = true := beq_iff_eq.mpr c71
      have c71b1 : (t143 != t159) = false := bne_eq_false_iff_eq.mpr c71
      clear c71
      have H' := Aside0.mk H
      clear H
      try go_wp2
      replace HO_136002 := Aside0.mk (Kd.V_drew HO_136002.out)
      replace BK135 := Aside0.mk (k_d BK135.out)
      replace HB := Aside0.mk (b_d HB.out)
      refine start_ (n := 41) (S := fun w' => w'.cell? ⟨gb135, 0, none⟩ = some (.int .i64 a0_0) ∧ w'.cell? ⟨gb135, 1, none⟩ = some (.int .i64 a0_1) ∧ w'.cell? ⟨gb135, 2, none⟩ = some (.slice A0_2 l0_2.length c0_2)) (ds := []) #[false, false, false, false, false, false, false, false, false, false, false, false, false, false, false, false, false, false, false, false, false, false, false, false, false, false, false, false, false, false, false, false, false, false, false, false, false, false, false, false, false] (by kernel_rfl) rfl rfl ⟨(blk_cell BK135.out 0).trans rfl, (blk_cell BK135.out 1).trans rfl, (blk_cell BK135.out 2).trans rfl⟩ (fun hHeld => ?_); refine with_tabW pelotonlaw03_GridCells.tab6 pelotonlaw03_GridCells.bits6 (fun HT_ HW_ => ?_)
      generalize wc.drew = w72 at HO_136002 BK135 HB hHeld ⊢
      refine pu_ (i := 3) (N := some 55) (bs_ 41 8) rfl rfl HT_ ?_
      refine take_ (i := 0) (N := some 52) (v := ?_) (a' := ?_) (bs_ 41 9) rfl rfl (take_ofW HT_.out HW_.out (by kernel_rfl)) (fun _ _ _ h => h) (Or.inl ⟨by rfl, ?_⟩) hHeld ?_ ?_
      rotate_left
      ·
       rintro w' ⟨s0, s1, s2⟩
       go_simp
       with_reducible rfl
      rotate_left
      ·
       simp only [Act.put, l_1, l_2, l_3, i64_w, i32_w]
       rfl
      refine one_ (i := 1) (N := some 53) (bs_ 41 11) rfl rfl (one_of HT_.out (by kernel_rfl)) (by decide) (fun K hK => ?_)
      refine Kd.N_lit_step k24 _ 24 ?hg (N' := 53) ?hd (xs := ([(⟨a0_0, a0_1, l0_2⟩ : S24)] : List (S24))) (inner := [.int .i64 a0_0, .int .i64 a0_1, .slice A0_2 l0_2.length c0_2]) (ok := (fun k_ => (P0_2_ k_ ∨ w.heap.size ≤ k_) ∧ k_ ≠ gb135)) (okp := (fun k_ => (P0_2_ k_ ∨ w.heap.size ≤ k_) ∧ k_ ≠ gb135)) ?hr ?hp (fun _ hk => hk) ((show ∀ k_, (_ : Nat) ≤ k_ → (fun k_ => (P0_2_ k_ ∨ w.heap.size ≤ k_) ∧ k_ ≠ gb135) k_ from fun k_ hk => ⟨(.inr (Nat.le_trans (below_size (bw_ HB)) hk)), Kd.freshB (tk_ BK135) k_ hk⟩) _ (Nat.le_refl _)) (Below.refl _ _) (Nat.le_refl _) (by simp) ?_; (case hd => rfl); (case hg => rfl); (case hr => first | exact bld_ 3 ((.agg #[(.int .i64 0), (.int .i64 0), (.slice none 0 0)])) rfl rfl (by simp only [Act.eval, Array.getD_eq_getD_getElem?, l_4, l_5, l_6, List.getElem?_toArray, List.getElem?_cons_succ, List.getElem?_cons_zero, Option.getD_some]; kernel_rfl) | (go_simp; done) | (go_simp; rfl)); (case hp => exact (Reps.c3 (show Kd.FK k24 _ _ (⟨a0_0, a0_1, l0_2⟩ : S24) [.int .i64 a0_0, .int .i64 a0_1, .slice A0_2 l0_2.length c0_2] from (k24_mkF _ _ (⟨a0_0, a0_1, l0_2⟩ : S24) (Kd.V_reads' (Kd.V_mono (ok' := (fun k_ => (P0_2_ k_ ∨ w.heap.size ≤ k_) ∧ k_ ≠ gb135)) (HO_136002.out) (fun k_ hk => ⟨hk.1, hk.2⟩))).2.1 (Kd.V_F (Kd.V_mono (ok' := (fun k_ => (P0_2_ k_ ∨ w.heap.size ≤ k_) ∧ k_ ≠ gb135)) (HO_136002.out) (fun k_ hk => ⟨hk.1, hk.2⟩))))) (Reps.none _ _)))
      intro v146 w73 ho74 hb hg_ hnew_
      clear hg_ hnew_
      (first | rw [← Ny145.out] at ho74 | (simp only [Int.reduceToNat] at ho74; rw [← Ny145.out] at ho74))
      have HO147 := Aside0.mk (Kd.N_lower ho74 (below_size (bw_ HB)))
      replace HO_136002 := Aside0.mk (Kd.V_elder' (tV_ HO_136002) (by first | exact Kd.N_base ho74 | exact Kd.N_base (Kd.S_N ho74)) hb)
      replace BK135 := Aside0.mk (blk_below (tk_ BK135) hb)
      replace HB := Aside0.mk (below_step (bw_ HB) hb)
      clear hb ho74
      obtain ⟨Ao75, co75, eo75⟩ := Kd.N_slice HO147.out
      (first | subst eo75 | (injection eo75 with f1_ f2_ f3_; have f4_ := f1_.symm; have f5_ := f3_.symm; clear f1_ f2_ f3_; subst f4_; subst f5_))
      refine hK.out _ _ ⟨(blk_cell BK135.out 0).trans rfl, (blk_cell BK135.out 1).trans rfl, (blk_cell BK135.out 2).trans rfl⟩ (fun hHeld => ?_)
      clear hK K
      refine no_ (N := some 53) ?_
      refine one_ (i := 2) (N := some 54) (bs_ 41 15) rfl rfl (one_of HT_.out (by kernel_rfl)) (by decide) (fun K hK => ?_)
      refine goes_ Try.func17 (by kernel_rfl) rfl #[.slice Ao75 y145.length co75] (by rfl) rfl rfl (by (try simp only [l_4, l_5, l_6]); first | done | rfl | (simp only [l_7, l_8]; rfl)) ?_
      with_reducible refine (grid_Right.calls kj19 _ _ y145 t148 _ ?side1 ?side2 A33.out).mono ?_
      (case side1 => repeat (first | exact (Kd.N_reads' HO147.out).2.2 | (with_reducible refine Kd.C_alloc ?_ _) | (with_reducible refine Kd.C_drewN ?_ _) | (with_reducible refine Kd.C_drew ?_)))
      (case side2 => exact (Kd.N_reads' HO147.out).2.1)
      rintro e w76 ⟨rfl, hb⟩
      refine ⟨_, rfl, ?_⟩
      replace HO_136002 := Aside0.mk (Kd.V_below (tV_ HO_136002) hb)
      replace HO147 := Aside0.mk (Kd.N_below (tN_ HO147) hb)
      replace BK135 := Aside0.mk (blk_below (tk_ BK135) hb)
      replace HB := Aside0.mk (below_step (bw_ HB) hb)
      (try clear hb)
      (try clear hb2)
      (try clear hk)
      (try clear hi)
      refine hK.out _ _ ⟨(blk_cell BK135.out 0).trans rfl, (blk_cell BK135.out 1).trans rfl, (blk_cell BK135.out 2).trans rfl⟩ (fun hHeld => ?_)
      clear hK K
      refine no_ (N := some 54) ?_
      refine pu_ (i := 4) (N := some 56) (bs_ 41 31) rfl rfl HT_ ?_
      refine pu_ (i := 5) (N := some 57) (bs_ 41 63) rfl rfl HT_ ?_
      refine pu_ (i := 10) (N := some 62) (bs_ 41 1087) rfl rfl HT_ ?_
      refine take_ (i := 6) (N := some 58) (v := ?_) (a' := ?_) (bs_ 41 1151) rfl rfl (take_ofW HT_.out HW_.out (by kernel_rfl)) (fun _ _ _ h => h) (Or.inl ⟨by rfl, ?_⟩) hHeld ?_ ?_
      rotate_left
      ·
       rintro w' ⟨s0, s1, s2⟩
       go_simp
       with_reducible rfl
      rotate_left
      ·
       simp only [Act.put, l_1, l_2, l_3, i64_w, i32_w]
       rfl
      refine one_ (i := 7) (N := some 59) (bs_ 41 1279) rfl rfl (one_of HT_.out (by kernel_rfl)) (by decide) (fun K hK => ?_)
      refine goes_ Try.func18 (by kernel_rfl) rfl #[.slice none 0 0] (by rfl) rfl rfl (by (try simp only [l_4, l_5, l_6]); first | done | rfl | (simp only [l_7, l_8]; rfl)) ?_
      refine (pelotonlaw03_two.calls (fun k_ => some k_ = (.slice none 0 0 : Value).ownBlock) (.slice none 0 0) ([] : List Int) t149 t150 t151 w _ ?side1 ?side2 A40.out).mono ?_
      (case side1 => repeat (first | (with_reducible first | exact HB.out | apply b_a | apply b_n | apply b_d | refine b_s ?_ GE135.out) | exact HB.out))
      (case side2 => exact Kd.R_nil _ _ _ _ _)
      rintro e w77 ⟨v152, rfl, ho0, hb, hkp⟩
      refine ⟨_, rfl, ?_⟩
      have HO153 := Aside0.mk (Kd.R_mono (ok' := fun k_ => (w.heap.size ≤ k_)) ho0 (fun k_ hk_ => Or.elim hk_ (fun hs_ => absurd hs_ (by simp [Value.ownBlock])) (fun hn_ => (Nat.le_trans (below_size (bw_ HB)) hn_))))
      replace HO_136002 := Aside0.mk (Kd.V_mono (ok' := fun k_ => (P0_2_ k_ ∨ w.heap.size ≤ k_) ∧ some k_ ≠ (.slice Ao75 y145.length co75 : Value).ownBlock ∧ k_ ≠ gb135 ∧ some k_ ≠ (v152 : Value).ownBlock) (Kd.V_keptB (HO_136002.out) hkp (fun k_ hk_ hs_ => (fun e_ => by simp [Value.ownBlock] at e_) hs_)) (fun k_ hk_ => ⟨hk_.1.1.1, hk_.1.2, hk_.1.1.2, fun e_ => Or.elim (ho0.1 k_ e_.symm) (fun hs_ => hk_.2.1 hs_) (fun hn_ => Nat.not_le.2 hk_.2.2 hn_)⟩))
      replace BK135 := Aside0.mk (blk_kept (tk_ BK135) hkp (fun hs_ => (fun e_ => by simp [Value.ownBlock] at e_) hs_))
      replace HO147 := Aside0.mk (Kd.N_mono (ok' := fun k_ => (P0_2_ k_ ∨ w.heap.size ≤ k_) ∧ k_ ≠ gb135 ∧ some k_ ≠ (v152 : Value).ownBlock) (Kd.N_keptB (HO147.out) hkp (fun k_ hk_ hs_ => (fun e_ => by simp [Value.ownBlock] at e_) hs_)) (fun k_ hk_ => ⟨hk_.1.1, hk_.1.2, fun e_ => Or.elim (ho0.1 k_ e_.symm) (fun hs_ => hk_.2.1 hs_) (fun hn_ => Nat.not_le.2 hk_.2.2 hn_)⟩))
      replace HB := Aside0.mk (hb)
      (try clear hb)
      (try clear hkp)
      (try clear ho0)
      obtain ⟨Ao78, co78, eo78⟩ := Kd.R_slice HO153.out
      (first | subst eo78 | (injection eo78 with f1_ f2_ f3_; have f4_ := f1_.symm; have f5_ := f3_.symm; clear f1_ f2_ f3_; subst f4_; subst f5_))
      refine hK.out _ _ ⟨(blk_cell BK135.out 0).trans rfl, (blk_cell BK135.out 1).trans rfl, (blk_cell BK135.out 2).trans rfl⟩ (fun hHeld => ?_)
      clear hK K
      refine no_ (N := some 59) ?_
      refine one_ (i := 8) (N := some 60) (bs_ 41 1535) rfl rfl (one_of HT_.out (by kernel_rfl)) (by decide) (fun K hK => ?_)
      refine Kd.N_lit_step k24 _ 24 ?hg (N' := 60) ?hd (xs := ([(⟨a0_0, a0_1, l0_2⟩ : S24), (⟨t149, t150, t151⟩ : S24)] : List (S24))) (inner := [.int .i64 a0_0, .int .i64 a0_1, .slice A0_2 l0_2.length c0_2, .int .i64 t149, .int .i64 t150, .slice Ao78 t151.length co78]) (ok := (fun k_ => (P0_2_ k_ ∨ w.heap.size ≤ k_) ∧ some k_ ≠ (.slice Ao75 y145.length co75 : Value).ownBlock ∧ k_ ≠ gb135)) (okp := (fun k_ => (P0_2_ k_ ∨ w.heap.size ≤ k_) ∧ some k_ ≠ (.slice Ao75 y145.length co75 : Value).ownBlock ∧ k_ ≠ gb135)) ?hr ?hp (fun _ hk => hk) ((show ∀ k_, (_ : Nat) ≤ k_ → (fun k_ => (P0_2_ k_ ∨ w.heap.size ≤ k_) ∧ some k_ ≠ (.slice Ao75 y145.length co75 : Value).ownBlock ∧ k_ ≠ gb135) k_ from fun k_ hk => ⟨(.inr (Nat.le_trans (below_size (bw_ HB)) hk)), Kd.fresh' (Kd.N_lt (tN_ HO147)) k_ hk, Kd.freshB (tk_ BK135) k_ hk⟩) _ (Nat.le_refl _)) (Below.refl _ _) (Nat.le_refl _) (by simp) ?_; (case hd => rfl); (case hg => rfl); (case hr => first | exact bld_ 3 ((.agg #[(.int .i64 0), (.int .i64 0), (.slice none 0 0)])) rfl rfl (by simp only [Act.eval, Array.getD_eq_getD_getElem?, l_4, l_5, l_6, List.getElem?_toArray, List.getElem?_cons_succ, List.getElem?_cons_zero, Option.getD_some]; kernel_rfl) | (go_simp; done) | (go_simp; rfl)); (case hp => exact (Reps.c3 (show Kd.FK k24 _ _ (⟨a0_0, a0_1, l0_2⟩ : S24) [.int .i64 a0_0, .int .i64 a0_1, .slice A0_2 l0_2.length c0_2] from (k24_mkF _ _ (⟨a0_0, a0_1, l0_2⟩ : S24) (Kd.V_reads' (Kd.V_mono (ok' := (fun k_ => (P0_2_ k_ ∨ w.heap.size ≤ k_) ∧ some k_ ≠ (.slice Ao75 y145.length co75 : Value).ownBlock ∧ k_ ≠ gb135)) (HO_136002.out) (fun k_ hk => ⟨hk.1, ⟨hk.2.1, hk.2.2.1⟩⟩))).2.1 (Kd.V_F (Kd.V_mono (ok' := (fun k_ => (P0_2_ k_ ∨ w.heap.size ≤ k_) ∧ some k_ ≠ (.slice Ao75 y145.length co75 : Value).ownBlock ∧ k_ ≠ gb135)) (HO_136002.out) (fun k_ hk => ⟨hk.1, ⟨hk.2.1, hk.2.2.1⟩⟩))))) (Reps.c3 (show Kd.FK k24 _ _ (⟨t149, t150, t151⟩ : S24) [.int .i64 t149, .int .i64 t150, .slice Ao78 t151.length co78] from (k24_mkF _ _ (⟨t149, t150, t151⟩ : S24) (Kd.R_reads' (Kd.R_mono (ok' := (fun k_ => (P0_2_ k_ ∨ w.heap.size ≤ k_) ∧ some k_ ≠ (.slice Ao75 y145.length co75 : Value).ownBlock ∧ k_ ≠ gb135)) (Kd.R_types (Kd.R_apart' (HO153.out) (Kd.N_typed HO147.out) (by decide)) BK135.out (by decide)) (fun k_ hk => ⟨(.inr (hk.1.1)), ⟨hk.1.2, hk.2⟩⟩))).2.1 (Kd.R_F (Kd.R_mono (ok' := (fun k_ => (P0_2_ k_ ∨ w.heap.size ≤ k_) ∧ some k_ ≠ (.slice Ao75 y145.length co75 : Value).ownBlock ∧ k_ ≠ gb135)) (Kd.R_types (Kd.R_apart' (HO153.out) (Kd.N_typed HO147.out) (by decide)) BK135.out (by decide)) (fun k_ hk => ⟨(.inr (hk.1.1)), ⟨hk.1.2, hk.2⟩⟩))))) (Reps.none _ _))))
      intro v155 w79 ho80 hb hg_ hnew_
      clear hg_ hnew_
      (first | rw [← Ny154.out] at ho80 | (simp only [Int.reduceToNat] at ho80; rw [← Ny154.out] at ho80))
      have n0_ := Aside0.mk (Kd.V_elder' (tV_ HO_136002) (by first | exact Kd.N_base ho80 | exact Kd.N_base (Kd.S_N ho80)) hb)
      have n1_ := Aside0.mk (Kd.N_elder' (tN_ HO147) (by first | exact Kd.N_base ho80 | exact Kd.N_base (Kd.S_N ho80)) hb)
      have n2_ := Aside0.mk (Kd.N_lower ho80 (below_size (bw_ HB)))
      have n3_ := Aside0.mk (blk_below (tk_ BK135) hb)
      have n4_ := Aside0.mk (below_step (bw_ HB) hb)
      clear HO_136002
      clear HO147
      clear BK135
      clear HB
      clear HO153
      have HO_136002 := n0_
      have HO147 := n1_
      have HO156 := n2_
      have BK135 := n3_
      have HB := n4_
      clear n0_ n1_ n2_ n3_ n4_
      clear hb ho80
      obtain ⟨Ao81, co81, eo81⟩ := Kd.N_slice HO156.out
      (first | subst eo81 | (injection eo81 with f1_ f2_ f3_; have f4_ := f1_.symm; have f5_ := f3_.symm; clear f1_ f2_ f3_; subst f4_; subst f5_))
      refine hK.out _ _ ⟨(blk_cell BK135.out 0).trans rfl, (blk_cell BK135.out 1).trans rfl, (blk_cell BK135.out 2).trans rfl⟩ (fun hHeld => ?_)
      clear hK K
      refine no_ (N := some 60) ?_
      refine one_ (i := 9) (N := some 61) (bs_ 41 2047) rfl rfl (one_of HT_.out (by kernel_rfl)) (by decide) (fun K hK => ?_)
      refine goes_ Try.func17 (by kernel_rfl) rfl #[.slice Ao81 y154.length co81] (by rfl) rfl rfl (by (try simp only [l_4, l_5, l_6]); first | done | rfl | (simp only [l_7, l_8]; rfl)) ?_
      with_reducible refine (grid_Right.calls kj19 _ _ y154 t157 _ ?side1 ?side2 A41.out).mono ?_
      (case side1 => repeat (first | exact (Kd.N_reads' HO156.out).2.2 | (with_reducible refine Kd.C_alloc ?_ _) | (with_reducible refine Kd.C_drewN ?_ _) | (with_reducible refine Kd.C_drew ?_)))
      (case side2 => exact (Kd.N_reads' HO156.out).2.1)
      rintro e w82 ⟨rfl, hb⟩
      refine ⟨_, rfl, ?_⟩
      replace HO_136002 := Aside0.mk (Kd.V_below (tV_ HO_136002) hb)
      replace HO147 := Aside0.mk (Kd.N_below (tN_ HO147) hb)
      replace HO156 := Aside0.mk (Kd.N_below (tN_ HO156) hb)
      replace BK135 := Aside0.mk (blk_below (tk_ BK135) hb)
      replace HB := Aside0.mk (below_step (bw_ HB) hb)
      (try clear hb)
      (try clear hb2)
      (try clear hk)
      (try clear hi)
      refine hK.out _ _ ⟨(blk_cell BK135.out 0).trans rfl, (blk_cell BK135.out 1).trans rfl, (blk_cell BK135.out 2).trans rfl⟩ (fun hHeld => ?_)
      clear hK K
      refine no_ (N := some 61) ?_
      refine pu_ (i := 11) (N := some 63) (bs_ 41 4095) rfl rfl HT_ ?_
      refine pu_ (i := 12) (N := some 64) (bs_ 41 8191) rfl rfl HT_ ?_
      refine pu_ (i := 13) (N := some 65) (bs_ 41 16383) rfl rfl HT_ ?_
      refine one_ (i := 14) (N := some 66) (bs_ 41 32767) rfl rfl (one_of HT_.out (by kernel_rfl)) (by decide) (fun K hK => ?_)
      refine goes_ Try.func17 (by kernel_rfl) rfl #[.slice none 0 0] (by rfl) rfl rfl (by (try simp only [l_4, l_5, l_6]); first | done | rfl | (simp only [l_7, l_8]; rfl)) ?_
      refine (grid_Right.calls kj19 _ _ ([] : List (S24)) true _ ?side1 ?side2 A54.out).mono ?_
      (case side1 => exact Kd.C_nil _ _)
      (case side2 => exact Nat.le_refl _)
      rintro e w83 ⟨rfl, hb⟩
      refine ⟨_, rfl, ?_⟩
      replace HO_136002 := Aside0.mk (Kd.V_below (tV_ HO_136002) hb)
      replace HO147 := Aside0.mk (Kd.N_below (tN_ HO147) hb)
      replace HO156 := Aside0.mk (Kd.N_below (tN_ HO156) hb)
      replace BK135 := Aside0.mk (blk_below (tk_ BK135) hb)
      replace HB := Aside0.mk (below_step (bw_ HB) hb)
      (try clear hb)
      (try clear hb2)
      (try clear hk)
      (try clear hi)
      refine hK.out _ _ ⟨(blk_cell BK135.out 0).trans rfl, (blk_cell BK135.out 1).trans rfl, (blk_cell BK135.out 2).trans rfl⟩ (fun hHeld => ?_)
      clear hK K
      refine no_ (N := some 66) ?_
      refine pu_ (i := 15) (N := some 67) (bs_ 41 65535) rfl rfl HT_ ?_
      refine pu_ (i := 16) (N := some 68) (bs_ 41 131071) rfl rfl HT_ ?_
      refine pu_ (i := 17) (N := some 69) (bs_ 41 262143) rfl rfl HT_ ?_
      refine pu_ (i := 18) (N := some 70) (bs_ 41 524287) rfl rfl HT_ ?_
      refine pu_ (i := 19) (N := some 71) (bs_ 41 1048575) rfl rfl HT_ ?_
      refine pu_ (i := 20) (N := some 72) (bs_ 41 2097151) rfl rfl HT_ ?_
      refine pu_ (i := 21) (N := some 73) (bs_ 41 4194303) rfl rfl HT_ ?_
      refine pu_ (i := 22) (N := some 74) (bs_ 41 8388607) rfl rfl HT_ ?_
      refine pu_ (i := 23) (N := some 75) (bs_ 41 16777215) rfl rfl HT_ ?_
      refine pu_ (i := 24) (N := some 76) (bs_ 41 33554431) rfl rfl HT_ ?_
      refine pu_ (i := 25) (N := some 77) (bs_ 41 67108863) rfl rfl HT_ ?_
      refine pu_ (i := 27) (N := some 79) (bs_ 41 201326591) rfl rfl HT_ ?_
      refine pu_ (i := 28) (N := some 80) (bs_ 41 469762047) rfl rfl HT_ ?_
      refine take_ (i := 26) (N := some 78) (v := ?_) (a' := ?_) (bs_ 41 536870911) rfl rfl (take_ofW HT_.out HW_.out (by kernel_rfl)) (fun _ _ _ h => h) (Or.inl ⟨by rfl, ?_⟩) hHeld ?_ ?_
      rotate_left
      ·
       rintro w' ⟨s0, s1, s2⟩
       go_simp
       with_reducible rfl
      rotate_left
      ·
       simp only [Act.put, l_1, l_2, l_3, i64_w, i32_w]
       rfl
      refine one_ (i := 29) (N := some 81) (bs_ 41 1073741823) rfl rfl (one_of HT_.out (by kernel_rfl)) (by decide) (fun K hK => ?_)
      refine goes_ Try.func19 (by kernel_rfl) rfl #[.agg #[.int .i64 a0_0, .int .i64 a0_1, .slice A0_2 l0_2.length c0_2], .int .i64 a1, .int .i64 a2] (by rfl) rfl rfl (by (try simp only [l_4, l_5, l_6]); first | done | rfl | (simp only [l_7, l_8]; rfl)) ?_
      with_reducible refine (pelotonref03_Cell.calls a0_0 a0_1 _ _ l0_2 a1 a2 t159 _ ?side1 ?side2 A70.out).mono ?_
      (case side1 => repeat (first | exact (Kd.V_reads' HO_136002.out).2.2 | (with_reducible refine Kd.C_alloc ?_ _) | (with_reducible refine Kd.C_drewN ?_ _) | (with_reducible refine Kd.C_drew ?_)))
      (case side2 => exact (Kd.V_reads' HO_136002.out).2.1)
      rintro e w84 ⟨rfl, hb⟩
      refine ⟨_, rfl, ?_⟩
      replace HO_136002 := Aside0.mk (Kd.V_below (tV_ HO_136002) hb)
      replace HO147 := Aside0.mk (Kd.N_below (tN_ HO147) hb)
      replace HO156 := Aside0.mk (Kd.N_below (tN_ HO156) hb)
      replace BK135 := Aside0.mk (blk_below (tk_ BK135) hb)
      replace HB := Aside0.mk (below_step (bw_ HB) hb)
      (try clear hb)
      (try clear hb2)
      (try clear hk)
      (try clear hi)
      refine hK.out _ _ ⟨(blk_cell BK135.out 0).trans rfl, (blk_cell BK135.out 1).trans rfl, (blk_cell BK135.out 2).trans rfl⟩ (fun hHeld => ?_)
      clear hK K
      refine no_ (N := some 81) ?_
      refine pu_ (i := 30) (N := some 82) (bs_ 41 2147483647) rfl rfl HT_ ?_
      refine pu_ (i := 31) (N := some 83) (bs_ 41 4294967295) rfl rfl HT_ ?_
      refine pu_ (i := 32) (N := some 84) (bs_ 41 8589934591) rfl rfl HT_ ?_
      refine pu_ (i := 33) (N := some 85) (bs_ 41 17179869183) rfl rfl HT_ ?_
      refine pu_ (i := 34) (N := some 86) (bs_ 41 34359738367) rfl rfl HT_ ?_
      refine pu_ (i := 35) (N := some 87) (bs_ 41 68719476735) rfl rfl HT_ ?_
      refine pu_ (i := 36) (N := some 88) (bs_ 41 137438953471) rfl rfl HT_ ?_
      refine pn_ (i := 37) (N := some 89) (bs_ 41 274877906943) rfl rfl HT_ ?_
      refine pn_ (i := 38) (N := some 90) (bs_ 41 549755813887) rfl rfl HT_ ?_
      refine pu_ (i := 39) (N := some 91) (bs_ 41 1099511627775) rfl rfl HT_ ?_
      refine pu_ (i := 40) (N := some 92) (bs_ 41 2199023255551) rfl rfl HT_ ?_
      refine done_ (done_of HT_.out (by kernel_rfl)) ?_
      try go_wp2
      go_meet
      case rel => exact ⟨_, (false), (by first | rfl | (simp; done) | (simp [*]; done)), H', ⟨by have := HJ3.out; have := HJ19.out; first | omega | exact Nat.le_refl _⟩, ⟨by (with_reducible repeat (first | apply Kd.V_alloc | apply Kd.V_drewN | apply Kd.V_drew)); exact Kd.V_mono HO_136002.out (fun _ hk => ⟨hk.1.1, hk.1.2.2.1⟩)⟩, ⟨tk_ BK135⟩, ⟨by repeat (first | (with_reducible first | exact HB.out | apply b_a | apply b_n | apply b_d | refine b_s ?_ GE135.out) | exact HB.out)⟩⟩
     case rest => as_aux_lemma =>
      clear HC32
      try clear c1
      try clear p2
      try clear c3
      try clear c5
      try clear c17
      try clear c18
      try clear c55
      obtain ⟨kq, x92_31, rfl, HA, HJ31, HO_136002, BK135, HB⟩ := hcut
      cases kq with
      | zero => exact absurd HA.out (by simp [pelotonlaw03_GridCells.j2])
      | succ kj31 =>
       have H := HA.out
       clear HA
       simp only [pelotonlaw03_GridCells.j2] at H
       by_cases c122 : x92_31 = true
       ·
        subst c122
        have H1 : (some false) = some r := by rw [if_pos rfl] at H; exact H
        clear H
        have H := H1
        clear H1
        obtain rfl := Option.some.inj H
        go_wp2
        go_ret
        exact ⟨by first | rfl | (simp [errW_none, errW_some] <;> rfl) | (simp [*, errW_none, errW_some] <;> rfl), by repeat (first | (with_reducible first | exact HB.out | apply b_a | apply b_n | apply b_d | refine b_s ?_ GE135.out) | exact HB.out)⟩
       replace c122 := Bool.eq_false_iff.mpr c122
       subst c122
       have H1 : ((grid_New.f a1 a2).bind fun bt160 => (if a1 < 0 then (if bt160.2.2.2 = 30 then (some ((bt160.2.2.1.length : Int) == 0)) else (some false)) else (if a2 < 0 then (if bt160.2.2.2 = 30 then (some ((bt160.2.2.1.length : Int) == 0)) else (some false)) else (if a1 > 4096 then (if bt160.2.2.2 = 30 then (some ((bt160.2.2.1.length : Int) == 0)) else (some false)) else (if a2 > 4096 then (if bt160.2.2.2 = 30 then (some ((bt160.2.2.1.length : Int) == 0)) else (some false)) else (if (wrap64 (a1 * a2)) > 1048576 then (if bt160.2.2.2 = 30 then (some ((bt160.2.2.1.length : Int) == 0)) else (some false)) else (if bt160.2.2.2 = 0 then (if bt160.1 = a1 then (if bt160.2.1 = a2 then (some ((bt160.2.2.1.length : Int) == (wrap64 (a1 * a2)))) else (some false)) else (some false)) else (some false)))))))) = some r := by rw [if_neg (show ¬ (false = true) by decide)] at H; exact H
       clear H
       have H := H1
       clear H1
       replace H := Option.bind_eq_some_iff.mp H
       obtain ⟨⟨t160, t161, t162, t165⟩, A1230, H⟩ := H
       replace H : (if a1 < 0 then (if t165 = 30 then (some ((t162.length : Int) == 0)) else (some false)) else (if a2 < 0 then (if t165 = 30 then (some ((t162.length : Int) == 0)) else (some false)) else (if a1 > 4096 then (if t165 = 30 then (some ((t162.length : Int) == 0)) else (some false)) else (if a2 > 4096 then (if t165 = 30 then (some ((t162.length : Int) == 0)) else (some false)) else (if (wrap64 (a1 * a2)) > 1048576 then (if t165 = 30 then (some ((t162.length : Int) == 0)) else (some false)) else (if t165 = 0 then (if t160 = a1 then (if t161 = a2 then (some ((t162.length : Int) == (wrap64 (a1 * a2)))) else (some false)) else (some false)) else (some false))))))) = some r := H
       have A123 := Aside0.mk A1230
       clear A1230
       by_cases c124 : a1 < 0
       ·
        rw [if_pos c124] at H
        have c124b0 : decide (a1 < 0) = true := decide_eq_true c124
        clear c124
        by_cases c125 : t165 = 30
        rotate_left
        ·
         rw [if_neg c125] at H
         have c125b0 : (t165 == 30) = false := beq_eq_false_iff_ne.mpr c125
         have c125b1 : (t165 != 30) = true := bne_iff_ne.mpr c125
         obtain rfl := Option.some.inj H
         go_wp2_with (first | ((with_reducible refine gate_callee (f := 20) rfl ?_); refine goesL_ (some 96) rfl rfl Try.func20 (by kernel_rfl) rfl #[.int .i64 a1, .int .i64 a2] rfl (by (try simp only [l_4, l_5, l_6]); first | done | rfl | (simp only [l_7, l_8]; rfl)) ?_; (with_reducible refine (grid_New.calls a1 a2 t160 t161 t162 t165 _ A123.out).mono ?_); rintro e w131 ⟨v163, rfl, ho0, hb⟩; (try clear A123); refine ⟨_, rfl, ?_⟩; have HO164 := Aside0.mk (Kd.R_lower (Kd.R_newM (M := fun k_ => (w.heap.size ≤ k_)) ho0 (below_size (bw_ HB)) (fun k_ h_ => h_)) (below_size (bw_ HB))); replace HO_136002 := Aside0.mk (Kd.V_elder' (tV_ HO_136002) (Kd.R_base ho0) hb); replace BK135 := Aside0.mk (blk_below (tk_ BK135) hb); replace HB := Aside0.mk (below_step (bw_ HB) hb); (try clear hb); (try clear hb2); (try clear hk); (try clear hi); (try clear ho0)) | ((with_reducible refine gate_dst (N := 11) rfl ?_); (try (refine gate_guard (by rfl) ?_; dsimp only)); refine box_event ?hg (N := 11) ?hd (cs := #[.int .i64 0, .int .i64 0, .slice none 0 0]) (t := 24) ?hr ?_; (case hd => rfl); (case hg => rfl); (case hr => first | (go_simp; done) | (go_simp; rfl)); intro gb166 hg w132 hbox hb; have BK166 := Aside0.mk (hbox); have GW166 := Aside0.mk ((by rw [hg]; exact (below_size (bw_ HB)) : w.heap.size ≤ gb166)); have GE166 := Aside0.mk ((by rw [hg]; exact (below_size (bw_ HB)) : w.heap.size ≤ gb166)); have NB135_166 := Aside0.mk ((by rw [hg]; exact Nat.ne_of_lt (blk_lt (tk_ BK135)) : gb135 ≠ gb166)); have NB166_135 := Aside0.mk ((by rw [hg]; exact Nat.ne_of_gt (blk_lt (tk_ BK135)) : gb166 ≠ gb135)); replace HO_136002 := Aside0.mk (Kd.V_below (Kd.V_elderB (tV_ HO_136002) gb166 (Nat.le_of_eq hg.symm)) hb); replace HO164 := Aside0.mk (Kd.R_below (tR_ HO164) hb); replace BK135 := Aside0.mk (blk_below (tk_ BK135) hb); replace HB := Aside0.mk (below_step (bw_ HB) hb); clear hb hbox hg; have hnb133 := NB166_135.out; have hnc133 := NB135_166.out; have hcz134_0 := bc_0 BK166; have hcz134_1 := bc_1 BK166; have hcz134_2 := bc_2 BK166; have hfz134_0 := blk_frozen BK166.out 0; have hfz134_1 := blk_frozen BK166.out 1; have hfz134_2 := blk_frozen BK166.out 2; obtain ⟨Ao135, co135, eo135⟩ := Kd.R_slice HO164.out; subst eo135))
         go_ret
         exact ⟨by first | rfl | (simp [errW_none, errW_some] <;> rfl) | (simp [*, errW_none, errW_some] <;> rfl), by repeat (first | (with_reducible first | exact HB.out | apply b_a | apply b_n | apply b_d | refine b_s ?_ GE135.out | refine b_s ?_ GE166.out) | exact HB.out)⟩
        rw [if_pos c125] at H
        have c125b0 : (t165 == 30) = true := beq_iff_eq.mpr c125
        have c125b1 : (t165 != 30) = false := bne_eq_false_iff_eq.mpr c125
        clear c125
        obtain rfl := Option.some.inj H
        go_wp2_with (first | ((with_reducible refine gate_callee (f := 20) rfl ?_); refine goesL_ (some 96) rfl rfl Try.func20 (by kernel_rfl) rfl #[.int .i64 a1, .int .i64 a2] rfl (by (try simp only [l_4, l_5, l_6]); first | done | rfl | (simp only [l_7, l_8]; rfl)) ?_; (with_reducible refine (grid_New.calls a1 a2 t160 t161 t162 t165 _ A123.out).mono ?_); rintro e w126 ⟨v163, rfl, ho0, hb⟩; (try clear A123); refine ⟨_, rfl, ?_⟩; have HO164 := Aside0.mk (Kd.R_lower (Kd.R_newM (M := fun k_ => (w.heap.size ≤ k_)) ho0 (below_size (bw_ HB)) (fun k_ h_ => h_)) (below_size (bw_ HB))); replace HO_136002 := Aside0.mk (Kd.V_elder' (tV_ HO_136002) (Kd.R_base ho0) hb); replace BK135 := Aside0.mk (blk_below (tk_ BK135) hb); replace HB := Aside0.mk (below_step (bw_ HB) hb); (try clear hb); (try clear hb2); (try clear hk); (try clear hi); (try clear ho0)) | ((with_reducible refine gate_dst (N := 11) rfl ?_); (try (refine gate_guard (by rfl) ?_; dsimp only)); refine box_event ?hg (N := 11) ?hd (cs := #[.int .i64 0, .int .i64 0, .slice none 0 0]) (t := 24) ?hr ?_; (case hd => rfl); (case hg => rfl); (case hr => first | (go_simp; done) | (go_simp; rfl)); intro gb166 hg w127 hbox hb; have BK166 := Aside0.mk (hbox); have GW166 := Aside0.mk ((by rw [hg]; exact (below_size (bw_ HB)) : w.heap.size ≤ gb166)); have GE166 := Aside0.mk ((by rw [hg]; exact (below_size (bw_ HB)) : w.heap.size ≤ gb166)); have NB135_166 := Aside0.mk ((by rw [hg]; exact Nat.ne_of_lt (blk_lt (tk_ BK135)) : gb135 ≠ gb166)); have NB166_135 := Aside0.mk ((by rw [hg]; exact Nat.ne_of_gt (blk_lt (tk_ BK135)) : gb166 ≠ gb135)); replace HO_136002 := Aside0.mk (Kd.V_below (Kd.V_elderB (tV_ HO_136002) gb166 (Nat.le_of_eq hg.symm)) hb); replace HO164 := Aside0.mk (Kd.R_below (tR_ HO164) hb); replace BK135 := Aside0.mk (blk_below (tk_ BK135) hb); replace HB := Aside0.mk (below_step (bw_ HB) hb); clear hb hbox hg; have hnb128 := NB166_135.out; have hnc128 := NB135_166.out; have hcz129_0 := bc_0 BK166; have hcz129_1 := bc_1 BK166; have hcz129_2 := bc_2 BK166; have hfz129_0 := blk_frozen BK166.out 0; have hfz129_1 := blk_frozen BK166.out 1; have hfz129_2 := blk_frozen BK166.out 2; obtain ⟨Ao130, co130, eo130⟩ := Kd.R_slice HO164.out; subst eo130))
        go_ret
        exact ⟨by first | rfl | (simp [errW_none, errW_some] <;> rfl) | (simp [*, errW_none, errW_some] <;> rfl), by repeat (first | (with_reducible first | exact HB.out | apply b_a | apply b_n | apply b_d | refine b_s ?_ GE135.out | refine b_s ?_ GE166.out) | exact HB.out)⟩
       rw [if_neg c124] at H
       have c124b0 : decide (a1 < 0) = false := decide_eq_false c124
       clear c124
       by_cases c136 : a2 < 0
       ·
        rw [if_pos c136] at H
        have c136b0 : decide (a2 < 0) = true := decide_eq_true c136
        clear c136
        by_cases c137 : t165 = 30
        rotate_left
        ·
         rw [if_neg c137] at H
         have c137b0 : (t165 == 30) = false := beq_eq_false_iff_ne.mpr c137
         have c137b1 : (t165 != 30) = true := bne_iff_ne.mpr c137
         obtain rfl := Option.some.inj H
         go_wp2_with (first | ((with_reducible refine gate_callee (f := 20) rfl ?_); refine goesL_ (some 96) rfl rfl Try.func20 (by kernel_rfl) rfl #[.int .i64 a1, .int .i64 a2] rfl (by (try simp only [l_4, l_5, l_6]); first | done | rfl | (simp only [l_7, l_8]; rfl)) ?_; (with_reducible refine (grid_New.calls a1 a2 t160 t161 t162 t165 _ A123.out).mono ?_); rintro e w143 ⟨v163, rfl, ho0, hb⟩; (try clear A123); refine ⟨_, rfl, ?_⟩; have HO164 := Aside0.mk (Kd.R_lower (Kd.R_newM (M := fun k_ => (w.heap.size ≤ k_)) ho0 (below_size (bw_ HB)) (fun k_ h_ => h_)) (below_size (bw_ HB))); replace HO_136002 := Aside0.mk (Kd.V_elder' (tV_ HO_136002) (Kd.R_base ho0) hb); replace BK135 := Aside0.mk (blk_below (tk_ BK135) hb); replace HB := Aside0.mk (below_step (bw_ HB) hb); (try clear hb); (try clear hb2); (try clear hk); (try clear hi); (try clear ho0)) | ((with_reducible refine gate_dst (N := 11) rfl ?_); (try (refine gate_guard (by rfl) ?_; dsimp only)); refine box_event ?hg (N := 11) ?hd (cs := #[.int .i64 0, .int .i64 0, .slice none 0 0]) (t := 24) ?hr ?_; (case hd => rfl); (case hg => rfl); (case hr => first | (go_simp; done) | (go_simp; rfl)); intro gb166 hg w144 hbox hb; have BK166 := Aside0.mk (hbox); have GW166 := Aside0.mk ((by rw [hg]; exact (below_size (bw_ HB)) : w.heap.size ≤ gb166)); have GE166 := Aside0.mk ((by rw [hg]; exact (below_size (bw_ HB)) : w.heap.size ≤ gb166)); have NB135_166 := Aside0.mk ((by rw [hg]; exact Nat.ne_of_lt (blk_lt (tk_ BK135)) : gb135 ≠ gb166)); have NB166_135 := Aside0.mk ((by rw [hg]; exact Nat.ne_of_gt (blk_lt (tk_ BK135)) : gb166 ≠ gb135)); replace HO_136002 := Aside0.mk (Kd.V_below (Kd.V_elderB (tV_ HO_136002) gb166 (Nat.le_of_eq hg.symm)) hb); replace HO164 := Aside0.mk (Kd.R_below (tR_ HO164) hb); replace BK135 := Aside0.mk (blk_below (tk_ BK135) hb); replace HB := Aside0.mk (below_step (bw_ HB) hb); clear hb hbox hg; have hnb145 := NB166_135.out; have hnc145 := NB135_166.out; have hcz146_0 := bc_0 BK166; have hcz146_1 := bc_1 BK166; have hcz146_2 := bc_2 BK166; have hfz146_0 := blk_frozen BK166.out 0; have hfz146_1 := blk_frozen BK166.out 1; have hfz146_2 := blk_frozen BK166.out 2; obtain ⟨Ao147, co147, eo147⟩ := Kd.R_slice HO164.out; subst eo147))
         go_ret
         exact ⟨by first | rfl | (simp [errW_none, errW_some] <;> rfl) | (simp [*, errW_none, errW_some] <;> rfl), by repeat (first | (with_reducible first | exact HB.out | apply b_a | apply b_n | apply b_d | refine b_s ?_ GE135.out | refine b_s ?_ GE166.out) | exact HB.out)⟩
        rw [if_pos c137] at H
        have c137b0 : (t165 == 30) = true := beq_iff_eq.mpr c137
        have c137b1 : (t165 != 30) = false := bne_eq_false_iff_eq.mpr c137
        clear c137
        obtain rfl := Option.some.inj H
        go_wp2_with (first | ((with_reducible refine gate_callee (f := 20) rfl ?_); refine goesL_ (some 96) rfl rfl Try.func20 (by kernel_rfl) rfl #[.int .i64 a1, .int .i64 a2] rfl (by (try simp only [l_4, l_5, l_6]); first | done | rfl | (simp only [l_7, l_8]; rfl)) ?_; (with_reducible refine (grid_New.calls a1 a2 t160 t161 t162 t165 _ A123.out).mono ?_); rintro e w138 ⟨v163, rfl, ho0, hb⟩; (try clear A123); refine ⟨_, rfl, ?_⟩; have HO164 := Aside0.mk (Kd.R_lower (Kd.R_newM (M := fun k_ => (w.heap.size ≤ k_)) ho0 (below_size (bw_ HB)) (fun k_ h_ => h_)) (below_size (bw_ HB))); replace HO_136002 := Aside0.mk (Kd.V_elder' (tV_ HO_136002) (Kd.R_base ho0) hb); replace BK135 := Aside0.mk (blk_below (tk_ BK135) hb); replace HB := Aside0.mk (below_step (bw_ HB) hb); (try clear hb); (try clear hb2); (try clear hk); (try clear hi); (try clear ho0)) | ((with_reducible refine gate_dst (N := 11) rfl ?_); (try (refine gate_guard (by rfl) ?_; dsimp only)); refine box_event ?hg (N := 11) ?hd (cs := #[.int .i64 0, .int .i64 0, .slice none 0 0]) (t := 24) ?hr ?_; (case hd => rfl); (case hg => rfl); (case hr => first | (go_simp; done) | (go_simp; rfl)); intro gb166 hg w139 hbox hb; have BK166 := Aside0.mk (hbox); have GW166 := Aside0.mk ((by rw [hg]; exact (below_size (bw_ HB)) : w.heap.size ≤ gb166)); have GE166 := Aside0.mk ((by rw [hg]; exact (below_size (bw_ HB)) : w.heap.size ≤ gb166)); have NB135_166 := Aside0.mk ((by rw [hg]; exact Nat.ne_of_lt (blk_lt (tk_ BK135)) : gb135 ≠ gb166)); have NB166_135 := Aside0.mk ((by rw [hg]; exact Nat.ne_of_gt (blk_lt (tk_ BK135)) : gb166 ≠ gb135)); replace HO_136002 := Aside0.mk (Kd.V_below (Kd.V_elderB (tV_ HO_136002) gb166 (Nat.le_of_eq hg.symm)) hb); replace HO164 := Aside0.mk (Kd.R_below (tR_ HO164) hb); replace BK135 := Aside0.mk (blk_below (tk_ BK135) hb); replace HB := Aside0.mk (below_step (bw_ HB) hb); clear hb hbox hg; have hnb140 := NB166_135.out; have hnc140 := NB135_166.out; have hcz141_0 := bc_0 BK166; have hcz141_1 := bc_1 BK166; have hcz141_2 := bc_2 BK166; have hfz141_0 := blk_frozen BK166.out 0; have hfz141_1 := blk_frozen BK166.out 1; have hfz141_2 := blk_frozen BK166.out 2; obtain ⟨Ao142, co142, eo142⟩ := Kd.R_slice HO164.out; subst eo142))
        go_ret
        exact ⟨by first | rfl | (simp [errW_none, errW_some] <;> rfl) | (simp [*, errW_none, errW_some] <;> rfl), by repeat (first | (with_reducible first | exact HB.out | apply b_a | apply b_n | apply b_d | refine b_s ?_ GE135.out | refine b_s ?_ GE166.out) | exact HB.out)⟩
       rw [if_neg c136] at H
       have c136b0 : decide (a2 < 0) = false := decide_eq_false c136
       clear c136
       by_cases c148 : a1 > 4096
       ·
        rw [if_pos c148] at H
        have c148b0 : decide (4096 < a1) = true := decide_eq_true c148
        clear c148
        by_cases c149 : t165 = 30
        rotate_left
        ·
         rw [if_neg c149] at H
         have c149b0 : (t165 == 30) = false := beq_eq_false_iff_ne.mpr c149
         have c149b1 : (t165 != 30) = true := bne_iff_ne.mpr c149
         obtain rfl := Option.some.inj H
         go_wp2_with (first | ((with_reducible refine gate_callee (f := 20) rfl ?_); refine goesL_ (some 96) rfl rfl Try.func20 (by kernel_rfl) rfl #[.int .i64 a1, .int .i64 a2] rfl (by (try simp only [l_4, l_5, l_6]); first | done | rfl | (simp only [l_7, l_8]; rfl)) ?_; (with_reducible refine (grid_New.calls a1 a2 t160 t161 t162 t165 _ A123.out).mono ?_); rintro e w155 ⟨v163, rfl, ho0, hb⟩; (try clear A123); refine ⟨_, rfl, ?_⟩; have HO164 := Aside0.mk (Kd.R_lower (Kd.R_newM (M := fun k_ => (w.heap.size ≤ k_)) ho0 (below_size (bw_ HB)) (fun k_ h_ => h_)) (below_size (bw_ HB))); replace HO_136002 := Aside0.mk (Kd.V_elder' (tV_ HO_136002) (Kd.R_base ho0) hb); replace BK135 := Aside0.mk (blk_below (tk_ BK135) hb); replace HB := Aside0.mk (below_step (bw_ HB) hb); (try clear hb); (try clear hb2); (try clear hk); (try clear hi); (try clear ho0)) | ((with_reducible refine gate_dst (N := 11) rfl ?_); (try (refine gate_guard (by rfl) ?_; dsimp only)); refine box_event ?hg (N := 11) ?hd (cs := #[.int .i64 0, .int .i64 0, .slice none 0 0]) (t := 24) ?hr ?_; (case hd => rfl); (case hg => rfl); (case hr => first | (go_simp; done) | (go_simp; rfl)); intro gb166 hg w156 hbox hb; have BK166 := Aside0.mk (hbox); have GW166 := Aside0.mk ((by rw [hg]; exact (below_size (bw_ HB)) : w.heap.size ≤ gb166)); have GE166 := Aside0.mk ((by rw [hg]; exact (below_size (bw_ HB)) : w.heap.size ≤ gb166)); have NB135_166 := Aside0.mk ((by rw [hg]; exact Nat.ne_of_lt (blk_lt (tk_ BK135)) : gb135 ≠ gb166)); have NB166_135 := Aside0.mk ((by rw [hg]; exact Nat.ne_of_gt (blk_lt (tk_ BK135)) : gb166 ≠ gb135)); replace HO_136002 := Aside0.mk (Kd.V_below (Kd.V_elderB (tV_ HO_136002) gb166 (Nat.le_of_eq hg.symm)) hb); replace HO164 := Aside0.mk (Kd.R_below (tR_ HO164) hb); replace BK135 := Aside0.mk (blk_below (tk_ BK135) hb); replace HB := Aside0.mk (below_step (bw_ HB) hb); clear hb hbox hg; have hnb157 := NB166_135.out; have hnc157 := NB135_166.out; have hcz158_0 := bc_0 BK166; have hcz158_1 := bc_1 BK166; have hcz158_2 := bc_2 BK166; have hfz158_0 := blk_frozen BK166.out 0; have hfz158_1 := blk_frozen BK166.out 1; have hfz158_2 := blk_frozen BK166.out 2; obtain ⟨Ao159, co159, eo159⟩ := Kd.R_slice HO164.out; subst eo159))
         go_ret
         exact ⟨by first | rfl | (simp [errW_none, errW_some] <;> rfl) | (simp [*, errW_none, errW_some] <;> rfl), by repeat (first | (with_reducible first | exact HB.out | apply b_a | apply b_n | apply b_d | refine b_s ?_ GE135.out | refine b_s ?_ GE166.out) | exact HB.out)⟩
        rw [if_pos c149] at H
        have c149b0 : (t165 == 30) = true := beq_iff_eq.mpr c149
        have c149b1 : (t165 != 30) = false := bne_eq_false_iff_eq.mpr c149
        clear c149
        obtain rfl := Option.some.inj H
        go_wp2_with (first | ((with_reducible refine gate_callee (f := 20) rfl ?_); refine goesL_ (some 96) rfl rfl Try.func20 (by kernel_rfl) rfl #[.int .i64 a1, .int .i64 a2] rfl (by (try simp only [l_4, l_5, l_6]); first | done | rfl | (simp only [l_7, l_8]; rfl)) ?_; (with_reducible refine (grid_New.calls a1 a2 t160 t161 t162 t165 _ A123.out).mono ?_); rintro e w150 ⟨v163, rfl, ho0, hb⟩; (try clear A123); refine ⟨_, rfl, ?_⟩; have HO164 := Aside0.mk (Kd.R_lower (Kd.R_newM (M := fun k_ => (w.heap.size ≤ k_)) ho0 (below_size (bw_ HB)) (fun k_ h_ => h_)) (below_size (bw_ HB))); replace HO_136002 := Aside0.mk (Kd.V_elder' (tV_ HO_136002) (Kd.R_base ho0) hb); replace BK135 := Aside0.mk (blk_below (tk_ BK135) hb); replace HB := Aside0.mk (below_step (bw_ HB) hb); (try clear hb); (try clear hb2); (try clear hk); (try clear hi); (try clear ho0)) | ((with_reducible refine gate_dst (N := 11) rfl ?_); (try (refine gate_guard (by rfl) ?_; dsimp only)); refine box_event ?hg (N := 11) ?hd (cs := #[.int .i64 0, .int .i64 0, .slice none 0 0]) (t := 24) ?hr ?_; (case hd => rfl); (case hg => rfl); (case hr => first | (go_simp; done) | (go_simp; rfl)); intro gb166 hg w151 hbox hb; have BK166 := Aside0.mk (hbox); have GW166 := Aside0.mk ((by rw [hg]; exact (below_size (bw_ HB)) : w.heap.size ≤ gb166)); have GE166 := Aside0.mk ((by rw [hg]; exact (below_size (bw_ HB)) : w.heap.size ≤ gb166)); have NB135_166 := Aside0.mk ((by rw [hg]; exact Nat.ne_of_lt (blk_lt (tk_ BK135)) : gb135 ≠ gb166)); have NB166_135 := Aside0.mk ((by rw [hg]; exact Nat.ne_of_gt (blk_lt (tk_ BK135)) : gb166 ≠ gb135)); replace HO_136002 := Aside0.mk (Kd.V_below (Kd.V_elderB (tV_ HO_136002) gb166 (Nat.le_of_eq hg.symm)) hb); replace HO164 := Aside0.mk (Kd.R_below (tR_ HO164) hb); replace BK135 := Aside0.mk (blk_below (tk_ BK135) hb); replace HB := Aside0.mk (below_step (bw_ HB) hb); clear hb hbox hg; have hnb152 := NB166_135.out; have hnc152 := NB135_166.out; have hcz153_0 := bc_0 BK166; have hcz153_1 := bc_1 BK166; have hcz153_2 := bc_2 BK166; have hfz153_0 := blk_frozen BK166.out 0; have hfz153_1 := blk_frozen BK166.out 1; have hfz153_2 := blk_frozen BK166.out 2; obtain ⟨Ao154, co154, eo154⟩ := Kd.R_slice HO164.out; subst eo154))
        go_ret
        exact ⟨by first | rfl | (simp [errW_none, errW_some] <;> rfl) | (simp [*, errW_none, errW_some] <;> rfl), by repeat (first | (with_reducible first | exact HB.out | apply b_a | apply b_n | apply b_d | refine b_s ?_ GE135.out | refine b_s ?_ GE166.out) | exact HB.out)⟩
       rw [if_neg c148] at H
       have c148b0 : decide (4096 < a1) = false := decide_eq_false c148
       clear c148
       by_cases c160 : a2 > 4096
       ·
        rw [if_pos c160] at H
        have c160b0 : decide (4096 < a2) = true := decide_eq_true c160
        clear c160
        by_cases c161 : t165 = 30
        rotate_left
        ·
         rw [if_neg c161] at H
         have c161b0 : (t165 == 30) = false := beq_eq_false_iff_ne.mpr c161
         have c161b1 : (t165 != 30) = true := bne_iff_ne.mpr c161
         obtain rfl := Option.some.inj H
         go_wp2_with (first | ((with_reducible refine gate_callee (f := 20) rfl ?_); refine goesL_ (some 96) rfl rfl Try.func20 (by kernel_rfl) rfl #[.int .i64 a1, .int .i64 a2] rfl (by (try simp only [l_4, l_5, l_6]); first | done | rfl | (simp only [l_7, l_8]; rfl)) ?_; (with_reducible refine (grid_New.calls a1 a2 t160 t161 t162 t165 _ A123.out).mono ?_); rintro e w167 ⟨v163, rfl, ho0, hb⟩; (try clear A123); refine ⟨_, rfl, ?_⟩; have HO164 := Aside0.mk (Kd.R_lower (Kd.R_newM (M := fun k_ => (w.heap.size ≤ k_)) ho0 (below_size (bw_ HB)) (fun k_ h_ => h_)) (below_size (bw_ HB))); replace HO_136002 := Aside0.mk (Kd.V_elder' (tV_ HO_136002) (Kd.R_base ho0) hb); replace BK135 := Aside0.mk (blk_below (tk_ BK135) hb); replace HB := Aside0.mk (below_step (bw_ HB) hb); (try clear hb); (try clear hb2); (try clear hk); (try clear hi); (try clear ho0)) | ((with_reducible refine gate_dst (N := 11) rfl ?_); (try (refine gate_guard (by rfl) ?_; dsimp only)); refine box_event ?hg (N := 11) ?hd (cs := #[.int .i64 0, .int .i64 0, .slice none 0 0]) (t := 24) ?hr ?_; (case hd => rfl); (case hg => rfl); (case hr => first | (go_simp; done) | (go_simp; rfl)); intro gb166 hg w168 hbox hb; have BK166 := Aside0.mk (hbox); have GW166 := Aside0.mk ((by rw [hg]; exact (below_size (bw_ HB)) : w.heap.size ≤ gb166)); have GE166 := Aside0.mk ((by rw [hg]; exact (below_size (bw_ HB)) : w.heap.size ≤ gb166)); have NB135_166 := Aside0.mk ((by rw [hg]; exact Nat.ne_of_lt (blk_lt (tk_ BK135)) : gb135 ≠ gb166)); have NB166_135 := Aside0.mk ((by rw [hg]; exact Nat.ne_of_gt (blk_lt (tk_ BK135)) : gb166 ≠ gb135)); replace HO_136002 := Aside0.mk (Kd.V_below (Kd.V_elderB (tV_ HO_136002) gb166 (Nat.le_of_eq hg.symm)) hb); replace HO164 := Aside0.mk (Kd.R_below (tR_ HO164) hb); replace BK135 := Aside0.mk (blk_below (tk_ BK135) hb); replace HB := Aside0.mk (below_step (bw_ HB) hb); clear hb hbox hg; have hnb169 := NB166_135.out; have hnc169 := NB135_166.out; have hcz170_0 := bc_0 BK166; have hcz170_1 := bc_1 BK166; have hcz170_2 := bc_2 BK166; have hfz170_0 := blk_frozen BK166.out 0; have hfz170_1 := blk_frozen BK166.out 1; have hfz170_2 := blk_frozen BK166.out 2; obtain ⟨Ao171, co171, eo171⟩ := Kd.R_slice HO164.out; subst eo171))
         go_ret
         exact ⟨by first | rfl | (simp [errW_none, errW_some] <;> rfl) | (simp [*, errW_none, errW_some] <;> rfl), by repeat (first | (with_reducible first | exact HB.out | apply b_a | apply b_n | apply b_d | refine b_s ?_ GE135.out | refine b_s ?_ GE166.out) | exact HB.out)⟩
        rw [if_pos c161] at H
        have c161b0 : (t165 == 30) = true := beq_iff_eq.mpr c161
        have c161b1 : (t165 != 30) = false := bne_eq_false_iff_eq.mpr c161
        clear c161
        obtain rfl := Option.some.inj H
        go_wp2_with (first | ((with_reducible refine gate_callee (f := 20) rfl ?_); refine goesL_ (some 96) rfl rfl Try.func20 (by kernel_rfl) rfl #[.int .i64 a1, .int .i64 a2] rfl (by (try simp only [l_4, l_5, l_6]); first | done | rfl | (simp only [l_7, l_8]; rfl)) ?_; (with_reducible refine (grid_New.calls a1 a2 t160 t161 t162 t165 _ A123.out).mono ?_); rintro e w162 ⟨v163, rfl, ho0, hb⟩; (try clear A123); refine ⟨_, rfl, ?_⟩; have HO164 := Aside0.mk (Kd.R_lower (Kd.R_newM (M := fun k_ => (w.heap.size ≤ k_)) ho0 (below_size (bw_ HB)) (fun k_ h_ => h_)) (below_size (bw_ HB))); replace HO_136002 := Aside0.mk (Kd.V_elder' (tV_ HO_136002) (Kd.R_base ho0) hb); replace BK135 := Aside0.mk (blk_below (tk_ BK135) hb); replace HB := Aside0.mk (below_step (bw_ HB) hb); (try clear hb); (try clear hb2); (try clear hk); (try clear hi); (try clear ho0)) | ((with_reducible refine gate_dst (N := 11) rfl ?_); (try (refine gate_guard (by rfl) ?_; dsimp only)); refine box_event ?hg (N := 11) ?hd (cs := #[.int .i64 0, .int .i64 0, .slice none 0 0]) (t := 24) ?hr ?_; (case hd => rfl); (case hg => rfl); (case hr => first | (go_simp; done) | (go_simp; rfl)); intro gb166 hg w163 hbox hb; have BK166 := Aside0.mk (hbox); have GW166 := Aside0.mk ((by rw [hg]; exact (below_size (bw_ HB)) : w.heap.size ≤ gb166)); have GE166 := Aside0.mk ((by rw [hg]; exact (below_size (bw_ HB)) : w.heap.size ≤ gb166)); have NB135_166 := Aside0.mk ((by rw [hg]; exact Nat.ne_of_lt (blk_lt (tk_ BK135)) : gb135 ≠ gb166)); have NB166_135 := Aside0.mk ((by rw [hg]; exact Nat.ne_of_gt (blk_lt (tk_ BK135)) : gb166 ≠ gb135)); replace HO_136002 := Aside0.mk (Kd.V_below (Kd.V_elderB (tV_ HO_136002) gb166 (Nat.le_of_eq hg.symm)) hb); replace HO164 := Aside0.mk (Kd.R_below (tR_ HO164) hb); replace BK135 := Aside0.mk (blk_below (tk_ BK135) hb); replace HB := Aside0.mk (below_step (bw_ HB) hb); clear hb hbox hg; have hnb164 := NB166_135.out; have hnc164 := NB135_166.out; have hcz165_0 := bc_0 BK166; have hcz165_1 := bc_1 BK166; have hcz165_2 := bc_2 BK166; have hfz165_0 := blk_frozen BK166.out 0; have hfz165_1 := blk_frozen BK166.out 1; have hfz165_2 := blk_frozen BK166.out 2; obtain ⟨Ao166, co166, eo166⟩ := Kd.R_slice HO164.out; subst eo166))
        go_ret
        exact ⟨by first | rfl | (simp [errW_none, errW_some] <;> rfl) | (simp [*, errW_none, errW_some] <;> rfl), by repeat (first | (with_reducible first | exact HB.out | apply b_a | apply b_n | apply b_d | refine b_s ?_ GE135.out | refine b_s ?_ GE166.out) | exact HB.out)⟩
       rw [if_neg c160] at H
       have c160b0 : decide (4096 < a2) = false := decide_eq_false c160
       clear c160
       go_upto_if 118 with (first | ((with_reducible refine gate_callee (f := 20) rfl ?_); refine goesL_ (some 96) rfl rfl Try.func20 (by kernel_rfl) rfl #[.int .i64 a1, .int .i64 a2] rfl (by (try simp only [l_4, l_5, l_6]); first | done | rfl | (simp only [l_7, l_8]; rfl)) ?_; (with_reducible refine (grid_New.calls a1 a2 t160 t161 t162 t165 _ A123.out).mono ?_); rintro e w172 ⟨v163, rfl, ho0, hb⟩; (try clear A123); refine ⟨_, rfl, ?_⟩; have HO164 := Aside0.mk (Kd.R_lower (Kd.R_newM (M := fun k_ => (w.heap.size ≤ k_)) ho0 (below_size (bw_ HB)) (fun k_ h_ => h_)) (below_size (bw_ HB))); replace HO_136002 := Aside0.mk (Kd.V_elder' (tV_ HO_136002) (Kd.R_base ho0) hb); replace BK135 := Aside0.mk (blk_below (tk_ BK135) hb); replace HB := Aside0.mk (below_step (bw_ HB) hb); (try clear hb); (try clear hb2); (try clear hk); (try clear hi); (try clear ho0)) | ((with_reducible refine gate_dst (N := 11) rfl ?_); (try (refine gate_guard (by rfl) ?_; dsimp only)); refine box_event ?hg (N := 11) ?hd (cs := #[.int .i64 0, .int .i64 0, .slice none 0 0]) (t := 24) ?hr ?_; (case hd => rfl); (case hg => rfl); (case hr => first | (go_simp; done) | (go_simp; rfl)); intro gb166 hg w173 hbox hb; have BK166 := Aside0.mk (hbox); have GW166 := Aside0.mk ((by rw [hg]; exact (below_size (bw_ HB)) : w.heap.size ≤ gb166)); have GE166 := Aside0.mk ((by rw [hg]; exact (below_size (bw_ HB)) : w.heap.size ≤ gb166)); have NB135_166 := Aside0.mk ((by rw [hg]; exact Nat.ne_of_lt (blk_lt (tk_ BK135)) : gb135 ≠ gb166)); have NB166_135 := Aside0.mk ((by rw [hg]; exact Nat.ne_of_gt (blk_lt (tk_ BK135)) : gb166 ≠ gb135)); replace HO_136002 := Aside0.mk (Kd.V_below (Kd.V_elderB (tV_ HO_136002) gb166 (Nat.le_of_eq hg.symm)) hb); replace HO164 := Aside0.mk (Kd.R_below (tR_ HO164) hb); replace BK135 := Aside0.mk (blk_below (tk_ BK135) hb); replace HB := Aside0.mk (below_step (bw_ HB) hb); clear hb hbox hg; have hnb174 := NB166_135.out; have hnc174 := NB135_166.out; have hcz175_0 := bc_0 BK166; have hcz175_1 := bc_1 BK166; have hcz175_2 := bc_2 BK166; have hfz175_0 := blk_frozen BK166.out 0; have hfz175_1 := blk_frozen BK166.out 1; have hfz175_2 := blk_frozen BK166.out 2; obtain ⟨Ao176, co176, eo176⟩ := Kd.R_slice HO164.out; subst eo176))
       by_cases c177 : (wrap64 (a1 * a2)) > 1048576
       ·
        rw [if_pos c177] at H
        have c177b0 : decide (1048576 < (wrap64 (a1 * a2))) = true := decide_eq_true c177
        clear c177
        (first | rw [c177b0] | (simp only [i64_w, i32_w]; rw [c177b0]) | skip)
        by_cases c178 : t165 = 30
        rotate_left
        ·
         rw [if_neg c178] at H
         have c178b0 : (t165 == 30) = false := beq_eq_false_iff_ne.mpr c178
         have c178b1 : (t165 != 30) = true := bne_iff_ne.mpr c178
         obtain rfl := Option.some.inj H
         go_wp2
         go_ret
         exact ⟨by first | rfl | (simp [errW_none, errW_some] <;> rfl) | (simp [*, errW_none, errW_some] <;> rfl), by repeat (first | (with_reducible first | exact HB.out | apply b_a | apply b_n | apply b_d | refine b_s ?_ GE135.out | refine b_s ?_ GE166.out) | exact HB.out)⟩
        rw [if_pos c178] at H
        have c178b0 : (t165 == 30) = true := beq_iff_eq.mpr c178
        have c178b1 : (t165 != 30) = false := bne_eq_false_iff_eq.mpr c178
        clear c178
        obtain rfl := Option.some.inj H
        have hnb179 := NB166_135.out
        have hnc179 := NB135_166.out
        have hcz180_0 := bc_0 BK166
        have hcz180_1 := bc_1 BK166
        have hcz180_2 := bc_2 BK166
        have hfz180_0 := blk_frozen BK166.out 0
        have hfz180_1 := blk_frozen BK166.out 1
        have hfz180_2 := blk_frozen BK166.out 2
        go_wp2
        go_ret
        exact ⟨by first | rfl | (simp [errW_none, errW_some] <;> rfl) | (simp [*, errW_none, errW_some] <;> rfl), by repeat (first | (with_reducible first | exact HB.out | apply b_a | apply b_n | apply b_d | refine b_s ?_ GE135.out | refine b_s ?_ GE166.out) | exact HB.out)⟩
       rw [if_neg c177] at H
       have c177b0 : decide (1048576 < (wrap64 (a1 * a2))) = false := decide_eq_false c177
       clear c177
       (first | rw [c177b0] | (simp only [i64_w, i32_w]; rw [c177b0]) | skip)
       by_cases c181 : t165 = 0
       rotate_left
       ·
        rw [if_neg c181] at H
        have c181b0 : (t165 == 0) = false := beq_eq_false_iff_ne.mpr c181
        have c181b1 : (t165 != 0) = true := bne_iff_ne.mpr c181
        obtain rfl := Option.some.inj H
        go_wp2
        go_ret
        exact ⟨by first | rfl | (simp [errW_none, errW_some] <;> rfl) | (simp [*, errW_none, errW_some] <;> rfl), by repeat (first | (with_reducible first | exact HB.out | apply b_a | apply b_n | apply b_d | refine b_s ?_ GE135.out | refine b_s ?_ GE166.out) | exact HB.out)⟩

       rw [if_pos c181] at H
       have c181b0 : (t165 == 0) = true := beq_iff_eq.mpr c181
       have c181b1 : (t165 != 0) = false := bne_eq_false_iff_eq.mpr c181
       clear c181
       by_cases c182 : t160 = a1
       rotate_left
       ·
        rw [if_neg c182] at H
        have c182b0 : (t160 == a1) = false := beq_eq_false_iff_ne.mpr c182
        have c182b1 : (t160 != a1) = true := bne_iff_ne.mpr c182
        obtain rfl := Option.some.inj H
        have hnb188 := NB166_135.out
        have hnc188 := NB135_166.out
        have hcz189_0 := bc_0 BK166
        have hcz189_1 := bc_1 BK166
        have hcz189_2 := bc_2 BK166
        have hfz189_0 := blk_frozen BK166.out 0
        have hfz189_1 := blk_frozen BK166.out 1
        have hfz189_2 := blk_frozen BK166.out 2
        go_wp2
        go_ret
        exact ⟨by first | rfl | (simp [errW_none, errW_some] <;> rfl) | (simp [*, errW_none, errW_some] <;> rfl), by repeat (first | (with_reducible first | exact HB.out | apply b_a | apply b_n | apply b_d | refine b_s ?_ GE135.out | refine b_s ?_ GE166.out) | exact HB.out)⟩
       rw [if_pos c182] at H
       have c182b0 : (t160 == a1) = true := beq_iff_eq.mpr c182
       have c182b1 : (t160 != a1) = false := bne_eq_false_iff_eq.mpr c182
       clear c182
       by_cases c183 : t161 = a2
       rotate_left
       ·
        rw [if_neg c183] at H
        have c183b0 : (t161 == a2) = false := beq_eq_false_iff_ne.mpr c183
        have c183b1 : (t161 != a2) = true := bne_iff_ne.mpr c183
        obtain rfl := Option.some.inj H
        have hnb186 := NB166_135.out
        have hnc186 := NB135_166.out
        have hcz187_0 := bc_0 BK166
        have hcz187_1 := bc_1 BK166
        have hcz187_2 := bc_2 BK166
        have hfz187_0 := blk_frozen BK166.out 0
        have hfz187_1 := blk_frozen BK166.out 1
        have hfz187_2 := blk_frozen BK166.out 2
        go_wp2
        go_ret
        exact ⟨by first | rfl | (simp [errW_none, errW_some] <;> rfl) | (simp [*, errW_none, errW_some] <;> rfl), by repeat (first | (with_reducible first | exact HB.out | apply b_a | apply b_n | apply b_d | refine b_s ?_ GE135.out | refine b_s ?_ GE166.out) | exact HB.out)⟩
       rw [if_pos c183] at H
       have c183b0 : (t161 == a2) = true := beq_iff_eq.mpr c183
       have c183b1 : (t161 != a2) = false := bne_eq_false_iff_eq.mpr c183
       clear c183
       obtain rfl := Option.some.inj H
       have hnb184 := NB166_135.out
       have hnc184 := NB135_166.out
       have hcz185_0 := bc_0 BK166
       have hcz185_1 := bc_1 BK166
       have hcz185_2 := bc_2 BK166
       have hfz185_0 := blk_frozen BK166.out 0
       have hfz185_1 := blk_frozen BK166.out 1
       have hfz185_2 := blk_frozen BK166.out 2
       go_wp2
       go_ret
       exact ⟨by first | rfl | (simp [errW_none, errW_some] <;> rfl) | (simp [*, errW_none, errW_some] <;> rfl), by repeat (first | (with_reducible first | exact HB.out | apply b_a | apply b_n | apply b_d | refine b_s ?_ GE135.out | refine b_s ?_ GE166.out) | exact HB.out)⟩
/-- THE ONE PURE STATEMENT of pelotonlaw03_GridCells. -/
def pelotonlaw03_GridCells.Pure : Prop := ∀ (a0_0 : Int) (a0_1 : Int) (l0_2 : List Int) (a1 : Int) (a2 : Int), ((Lit.int .i64 a0_0).wf = true ∧ (Lit.int .i64 a0_1).wf = true ∧ l0_2.length ≤ maxLen ∧ ∀ y0 ∈ l0_2, (Lit.int .i32 y0).wf = true) → ((Lit.int .i64 a1).wf = true) → ((Lit.int .i64 a2).wf = true) → ∃ k, pelotonlaw03_GridCells.f k a0_0 a0_1 l0_2 a1 a2 = some true

theorem pelotonlaw03_GridCells.calls (k : Nat) (a0_0 : Int) (a0_1 : Int) (A0_2 : Option Addr) (c0_2 : Nat) (l0_2 : List Int) (a1 : Int) (a2 : Int) (r : Bool) (w : World) (hr0_2 : Kd.C (Kd.int .i32) w A0_2 l0_2.length l0_2) (hc0_2 : l0_2.length ≤ c0_2) (h : pelotonlaw03_GridCells.f k a0_0 a0_1 l0_2 a1 a2 = some r) :
  Calls Try.prog 4 #[.agg #[.int .i64 a0_0, .int .i64 a0_1, .slice A0_2 l0_2.length c0_2], .int .i64 a1, .int .i64 a2] w fun e w' => e = .returned (.bool r) ∧ Below w.heap.size w w' := pelotonlaw03_GridCells.callsV k a0_0 a0_1 (fun _ => True) A0_2 c0_2 l0_2 a1 a2 r w (Kd.V_mk hc0_2 (C_F hr0_2)) h
end Go.Proofs.Ytggcgacndknlaaa.QGridCells
