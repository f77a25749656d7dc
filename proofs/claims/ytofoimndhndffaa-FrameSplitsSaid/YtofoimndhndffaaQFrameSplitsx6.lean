-- Written by a program of this session (a turned copy of the print) out of the translation. Lean checks it.
import Derived.Test.YtofoimndhndffaaQFrameSplitsx0
import Derived.Test.YtofoimndhndffaaQFrameSplitsx3
import Derived.Test.YtofoimndhndffaaQFrameSplitsx5
namespace Go.Proofs.Ytofoimndhndffaa.QFrameSplits
open Go.RowKit Go.Proofs.YtofoimndhndffaaW.PrintWords Go.Proofs.YtofoimndhndffaaW.PrintLast Go.Proofs.YtofoimndhndffaaW.PrintMore
attribute [local go_sem] max2_int min2_int max_two min_two max_three min_three max_four min_four   -- for this text's walks alone
open Go.Proofs.YtofoimndhndffaaW.PrintWords renaming below_alloc → b_a, pw_below_drewN → b_n, below_drew1 → b_d, below_set → b_s, blk_drewN → k_n, blk_drew → k_d, blk_alloc → k_a
open List renaming setIfInBounds_toArray → l_1, set_cons_zero → l_2, set_cons_succ → l_3, map_toArray → l_4, map_cons → l_5, map_nil → l_6, length_drop → l_7, length_take → l_8
set_option linter.unusedVariables false
set_option linter.unusedSimpArgs false

/-! ### pelotonlaw14_FrameSplits: function 7 -/
mutual
def pelotonlaw14_FrameSplits.j0 : Nat → List (List Int) → List Int → Bool → Option (Bool)
 | 0, _, _, _ => none
 | k + 1, x0, x1, x26 => if x26 = true then ((pelotonlaw14_awake.f).bind fun t233 => (some t233)) else (pelotonlaw14_FrameSplits.l0 k x0 x1 ([] : List (List Int)) 0)
def pelotonlaw14_FrameSplits.l0 : Nat → List (List Int) → List Int → List (List Int) → Int → Option (Bool)
 | 0, _, _, _, _ => none
 | k + 1, x0, x1, x5, x6 => if x6 < (x0.length : Int) then (if 0 ≤ x6 then (if ((rd_L1 x0 x6).length : Int) > 500 then (some true) else ((pelotonref14_Pack.f k ((x6) % 256) (rd_L1 x0 x6)).bind fun t236 => (if x5.length < 5864062014805 then (pelotonlaw14_FrameSplits.l0 k x0 x1 (x5 ++ [t236]) (wrap64 (x6 + 1))) else (none)))) else (none)) else ((frame_Join.f x5).bind fun t242 => (if t242.length + x1.length < 140737488355328 then ((some (t242 ++ x1 : List Int)).bind fun y245 => ((pelotonref14_Split.f k y245).bind fun t248 => ((frame_Split.f k y245).bind fun bt251 => (if (bt251.1.length : Int) = (t248.length : Int) then (pelotonlaw14_FrameSplits.j2 k x1 y245 t248 bt251.1 bt251.2 (decide ((t248.length : Int) < (x5.length : Int)))) else (pelotonlaw14_FrameSplits.j2 k x1 y245 t248 bt251.1 bt251.2 true))))) else (none)))
def pelotonlaw14_FrameSplits.j2 : Nat → List Int → List Int → List Int → List (List Int) → List Int → Bool → Option (Bool)
 | 0, _, _, _, _, _, _ => none
 | k + 1, x1, x7, x8, x9, x10, x72 => if x72 = true then (some false) else (pelotonlaw14_FrameSplits.l1 k x1 x7 x8 x9 x10 0 0)
def pelotonlaw14_FrameSplits.l1 : Nat → List Int → List Int → List Int → List (List Int) → List Int → Int → Int → Option (Bool)
 | 0, _, _, _, _, _, _, _ => none
 | k + 1, x1, x7, x8, x9, x10, x11, x12 => if x12 < (x8.length : Int) then (if 0 ≤ x12 then (if x12 < (x9.length : Int) then (if 0 ≤ x11 then (if x11 ≤ (rd x8 x12) then (if (rd x8 x12) ≤ (x7.length : Int) then (if (strOfNums (rd_L1 x9 x12)).toList = (strOfNums ((x7.take ((rd x8 x12) : Int).toNat).drop (x11 : Int).toNat)).toList then (pelotonlaw14_FrameSplits.l1 k x1 x7 x8 x9 x10 (rd x8 x12) (wrap64 (x12 + 1))) else (some false)) else (none)) else (none)) else (none)) else (none)) else (none)) else ((frame_Split.f k x1).bind fun bt264 => (if 0 ≤ x11 then (if x11 ≤ (x7.length : Int) then (if (strOfNums x10).toList = (strOfNums (x7.drop (x11 : Int).toNat)).toList then (if (bt264.1.length : Int) > 0 then (some true) else (some ((strOfNums bt264.2).toList == (strOfNums x1).toList))) else (some false)) else (none)) else (none)))
end
def pelotonlaw14_FrameSplits.f (k : Nat) (l0 : List (List Int)) (l1 : List Int) : Option (Bool) := (pelotonlaw14_awake.f).bind fun t232 => (if t232 = true then (if (l0.length : Int) > 20 then (pelotonlaw14_FrameSplits.j0 k l0 l1 true) else (pelotonlaw14_FrameSplits.j0 k l0 l1 (decide ((l1.length : Int) > 1000)))) else (pelotonlaw14_FrameSplits.j0 k l0 l1 true))
theorem pelotonlaw14_FrameSplits.mono_l : ∀ k, (∀ y0 y1 y2, LeO (pelotonlaw14_FrameSplits.j0 k y0 y1 y2) (pelotonlaw14_FrameSplits.j0 (k + 1) y0 y1 y2)) ∧ (∀ y0 y1 y2 y3, LeO (pelotonlaw14_FrameSplits.l0 k y0 y1 y2 y3) (pelotonlaw14_FrameSplits.l0 (k + 1) y0 y1 y2 y3)) ∧ (∀ y0 y1 y2 y3 y4 y5, LeO (pelotonlaw14_FrameSplits.j2 k y0 y1 y2 y3 y4 y5) (pelotonlaw14_FrameSplits.j2 (k + 1) y0 y1 y2 y3 y4 y5)) ∧ (∀ y0 y1 y2 y3 y4 y5 y6, LeO (pelotonlaw14_FrameSplits.l1 k y0 y1 y2 y3 y4 y5 y6) (pelotonlaw14_FrameSplits.l1 (k + 1) y0 y1 y2 y3 y4 y5 y6))
 | 0 => ⟨fun _ _ _ r h => by simp [pelotonlaw14_FrameSplits.j0] at h, fun _ _ _ _ r h => by simp [pelotonlaw14_FrameSplits.l0] at h, fun _ _ _ _ _ _ r h => by simp [pelotonlaw14_FrameSplits.j2] at h, fun _ _ _ _ _ _ _ r h => by simp [pelotonlaw14_FrameSplits.l1] at h⟩
 | k + 1 => by
  obtain ⟨ih0, ih1, ih2, ih3⟩ := pelotonlaw14_FrameSplits.mono_l k
  refine ⟨?_, ?_, ?_, ?_⟩
  ·
   intro y0 y1 y2
   unfold pelotonlaw14_FrameSplits.j0
   repeat' first
   | (with_reducible exact ih0 _ _ _)
   | (with_reducible exact ih1 _ _ _ _)
   | (with_reducible exact ih2 _ _ _ _ _ _)
   | (with_reducible exact ih3 _ _ _ _ _ _ _)
   | (with_reducible exact frame_Split.mono _ _)
   | (with_reducible exact pelotonref14_Pack.mono _ _ _)
   | (with_reducible exact pelotonref14_Split.mono _ _)
   | (with_reducible exact LeO.refl _)
   | (with_reducible exact LeO.none _)
   | (with_reducible refine LeO.ite ?_ ?_)
   | (with_reducible refine LeO.bind ?_ (fun _ => ?_))
   | exact ih0 _ _ _
   | exact ih1 _ _ _ _
   | exact ih2 _ _ _ _ _ _
   | exact ih3 _ _ _ _ _ _ _
   | exact frame_Split.mono _ _
   | exact pelotonref14_Pack.mono _ _ _
   | exact pelotonref14_Split.mono _ _
   | exact LeO.none _
   | refine LeO.ite ?_ ?_
   | refine LeO.bind ?_ (fun _ => ?_)
  ·
   intro y0 y1 y2 y3
   unfold pelotonlaw14_FrameSplits.l0
   repeat' first
   | (with_reducible exact ih0 _ _ _)
   | (with_reducible exact ih1 _ _ _ _)
   | (with_reducible exact ih2 _ _ _ _ _ _)
   | (with_reducible exact ih3 _ _ _ _ _ _ _)
   | (with_reducible exact frame_Split.mono _ _)
   | (with_reducible exact pelotonref14_Pack.mono _ _ _)
   | (with_reducible exact pelotonref14_Split.mono _ _)
   | (with_reducible exact LeO.refl _)
   | (with_reducible exact LeO.none _)
   | (with_reducible refine LeO.ite ?_ ?_)
   | (with_reducible refine LeO.bind ?_ (fun _ => ?_))
   | exact ih0 _ _ _
   | exact ih1 _ _ _ _
   | exact ih2 _ _ _ _ _ _
   | exact ih3 _ _ _ _ _ _ _
   | exact frame_Split.mono _ _
   | exact pelotonref14_Pack.mono _ _ _
   | exact pelotonref14_Split.mono _ _
   | exact LeO.none _
   | refine LeO.ite ?_ ?_
   | refine LeO.bind ?_ (fun _ => ?_)
  ·
   intro y0 y1 y2 y3 y4 y5
   unfold pelotonlaw14_FrameSplits.j2
   repeat' first
   | (with_reducible exact ih0 _ _ _)
   | (with_reducible exact ih1 _ _ _ _)
   | (with_reducible exact ih2 _ _ _ _ _ _)
   | (with_reducible exact ih3 _ _ _ _ _ _ _)
   | (with_reducible exact frame_Split.mono _ _)
   | (with_reducible exact pelotonref14_Pack.mono _ _ _)
   | (with_reducible exact pelotonref14_Split.mono _ _)
   | (with_reducible exact LeO.refl _)
   | (with_reducible exact LeO.none _)
   | (with_reducible refine LeO.ite ?_ ?_)
   | (with_reducible refine LeO.bind ?_ (fun _ => ?_))
   | exact ih0 _ _ _
   | exact ih1 _ _ _ _
   | exact ih2 _ _ _ _ _ _
   | exact ih3 _ _ _ _ _ _ _
   | exact frame_Split.mono _ _
   | exact pelotonref14_Pack.mono _ _ _
   | exact pelotonref14_Split.mono _ _
   | exact LeO.none _
   | refine LeO.ite ?_ ?_
   | refine LeO.bind ?_ (fun _ => ?_)
  ·
   intro y0 y1 y2 y3 y4 y5 y6
   unfold pelotonlaw14_FrameSplits.l1
   repeat' first
   | (with_reducible exact ih0 _ _ _)
   | (with_reducible exact ih1 _ _ _ _)
   | (with_reducible exact ih2 _ _ _ _ _ _)
   | (with_reducible exact ih3 _ _ _ _ _ _ _)
   | (with_reducible exact frame_Split.mono _ _)
   | (with_reducible exact pelotonref14_Pack.mono _ _ _)
   | (with_reducible exact pelotonref14_Split.mono _ _)
   | (with_reducible exact LeO.refl _)
   | (with_reducible exact LeO.none _)
   | (with_reducible refine LeO.ite ?_ ?_)
   | (with_reducible refine LeO.bind ?_ (fun _ => ?_))
   | exact ih0 _ _ _
   | exact ih1 _ _ _ _
   | exact ih2 _ _ _ _ _ _
   | exact ih3 _ _ _ _ _ _ _
   | exact frame_Split.mono _ _
   | exact pelotonref14_Pack.mono _ _ _
   | exact pelotonref14_Split.mono _ _
   | exact LeO.none _
   | refine LeO.ite ?_ ?_
   | refine LeO.bind ?_ (fun _ => ?_)
theorem pelotonlaw14_FrameSplits.mono : ∀ a0 a1 k, LeO (pelotonlaw14_FrameSplits.f k a0 a1) (pelotonlaw14_FrameSplits.f (k + 1) a0 a1) := by
 intro a0 a1 k
 obtain ⟨ih0, ih1, ih2, ih3⟩ := pelotonlaw14_FrameSplits.mono_l k
 unfold pelotonlaw14_FrameSplits.f
 repeat' first
   | (with_reducible exact ih0 _ _ _)
   | (with_reducible exact ih1 _ _ _ _)
   | (with_reducible exact ih2 _ _ _ _ _ _)
   | (with_reducible exact ih3 _ _ _ _ _ _ _)
   | (with_reducible exact frame_Split.mono _ _)
   | (with_reducible exact pelotonref14_Pack.mono _ _ _)
   | (with_reducible exact pelotonref14_Split.mono _ _)
   | (with_reducible exact LeO.refl _)
   | (with_reducible exact LeO.none _)
   | (with_reducible refine LeO.ite ?_ ?_)
   | (with_reducible refine LeO.bind ?_ (fun _ => ?_))
   | exact ih0 _ _ _
   | exact ih1 _ _ _ _
   | exact ih2 _ _ _ _ _ _
   | exact ih3 _ _ _ _ _ _ _
   | exact frame_Split.mono _ _
   | exact pelotonref14_Pack.mono _ _ _
   | exact pelotonref14_Split.mono _ _
   | exact LeO.none _
   | refine LeO.ite ?_ ?_
   | refine LeO.bind ?_ (fun _ => ?_)
set_option maxHeartbeats 60000000 in
set_option maxRecDepth 100000 in
theorem pelotonlaw14_FrameSplits.calls (k : Nat) (A0 : Option Addr) (c0 : Nat) (l0 : List (List Int)) (A1 : Option Addr) (c1 : Nat) (l1 : List Int) (r : Bool) (w : World) (hr0 : Kd.C (Kd.slice 5 (Kd.int .u8)) w A0 l0.length l0) (hc0 : l0.length ≤ c0) (hr1 : Kd.C (Kd.int .u8) w A1 l1.length l1) (hc1 : l1.length ≤ c1) (h : pelotonlaw14_FrameSplits.f k l0 l1 = some r) :
  Calls Try.prog 7 #[.slice A0 l0.length c0, .slice A1 l1.length c1] w fun e w' => e = .returned (.bool r) ∧ Below w.heap.size w w' := by
 have HR0 := Aside0.mk hr0
 have HC0 := Aside0.mk hc0
 clear hr0 hc0
 have HR1 := Aside0.mk hr1
 have HC1 := Aside0.mk hc1
 clear hr1 hc1
 have HB := Aside0.mk (Below.refl w.heap.size w)
 have H : ((pelotonlaw14_awake.f).bind fun t232 => (if t232 = true then (if (l0.length : Int) > 20 then (pelotonlaw14_FrameSplits.j0 k l0 l1 true) else (pelotonlaw14_FrameSplits.j0 k l0 l1 (decide ((l1.length : Int) > 1000)))) else (pelotonlaw14_FrameSplits.j0 k l0 l1 true))) = some r := h
 clear h
 have HC3 := Aside0.mk H
 clear H
 go_enter Try.func7, Try.ntmps7
 go_upto_region 1 with (fail)
 repeat (go_quiet (fail); go_upto_region 1 with (fail))
 go_cut [26] (fun v26 wc => ∃ (kq : Nat) (x26_2 : Bool), v26 = .bool x26_2 ∧ Aside0 (pelotonlaw14_FrameSplits.j0 kq l0 l1 x26_2 = some r) ∧ Aside0 (kq ≤ k) ∧ Aside0 (Below w.heap.size w wc))
 case first =>
  have H := HC3.out
  clear HC3
  replace H := Option.bind_eq_some_iff.mp H
  obtain ⟨t232, A40, H⟩ := H
  replace H : (if t232 = true then (if (l0.length : Int) > 20 then (pelotonlaw14_FrameSplits.j0 k l0 l1 true) else (pelotonlaw14_FrameSplits.j0 k l0 l1 (decide ((l1.length : Int) > 1000)))) else (pelotonlaw14_FrameSplits.j0 k l0 l1 true)) = some r := H
  have A4 := Aside0.mk A40
  clear A40
  by_cases c5 : t232 = true
  rotate_left
  ·
   replace c5 := Bool.eq_false_iff.mpr c5
   subst c5
   have H1 : (pelotonlaw14_FrameSplits.j0 k l0 l1 true) = some r := by rw [if_neg (show ¬ (false = true) by decide)] at H; exact H
   clear H
   have H := H1
   clear H1
   have H' := Aside0.mk H
   clear H
   go_wp2_with (first | (go_at_call 8; (with_reducible refine (pelotonlaw14_awake.calls  false _ A4.out).mono ?_); rintro e w9 ⟨rfl, hb⟩; (try clear A4); replace HB := Aside0.mk (below_step (bw_ HB) hb); (try clear hb); (try clear hb2); (try clear hk); (try clear hi)))
   repeat (go_quiet (first | (go_at_call 8; (with_reducible refine (pelotonlaw14_awake.calls  false _ A4.out).mono ?_); rintro e w9 ⟨rfl, hb⟩; (try clear A4); replace HB := Aside0.mk (below_step (bw_ HB) hb); (try clear hb); (try clear hb2); (try clear hk); (try clear hi))); try go_wp2_with (first | (go_at_call 8; (with_reducible refine (pelotonlaw14_awake.calls  false _ A4.out).mono ?_); rintro e w9 ⟨rfl, hb⟩; (try clear A4); replace HB := Aside0.mk (below_step (bw_ HB) hb); (try clear hb); (try clear hb2); (try clear hk); (try clear hi))))
   go_meet
   case rel => exact ⟨_, (true), (by first | rfl | (simp; done) | (simp [*]; done)), H', ⟨by first | exact Nat.le_refl _ | omega⟩, ⟨by repeat (first | (with_reducible first | exact HB.out | apply b_a | apply b_n | apply b_d) | exact HB.out)⟩⟩
  subst c5
  have H1 : (if (l0.length : Int) > 20 then (pelotonlaw14_FrameSplits.j0 k l0 l1 true) else (pelotonlaw14_FrameSplits.j0 k l0 l1 (decide ((l1.length : Int) > 1000)))) = some r := by rw [if_pos rfl] at H; exact H
  clear H
  have H := H1
  clear H1
  by_cases c6 : (l0.length : Int) > 20
  ·
   rw [if_pos c6] at H
   have c6b0 : decide (20 < (l0.length : Int)) = true := decide_eq_true c6
   have c6b1 : decide (20 < l0.length) = true := decide_eq_true (by omega)
   clear c6
   (first | rw [c6b0] | (simp only [i64_w, i32_w]; rw [c6b0]) | skip)
   have H' := Aside0.mk H
   clear H
   go_wp2_with (first | (go_at_call 8; (with_reducible refine (pelotonlaw14_awake.calls  true _ A4.out).mono ?_); rintro e w7 ⟨rfl, hb⟩; (try clear A4); replace HB := Aside0.mk (below_step (bw_ HB) hb); (try clear hb); (try clear hb2); (try clear hk); (try clear hi)))
   repeat (go_quiet (first | (go_at_call 8; (with_reducible refine (pelotonlaw14_awake.calls  true _ A4.out).mono ?_); rintro e w7 ⟨rfl, hb⟩; (try clear A4); replace HB := Aside0.mk (below_step (bw_ HB) hb); (try clear hb); (try clear hb2); (try clear hk); (try clear hi))); try go_wp2_with (first | (go_at_call 8; (with_reducible refine (pelotonlaw14_awake.calls  true _ A4.out).mono ?_); rintro e w7 ⟨rfl, hb⟩; (try clear A4); replace HB := Aside0.mk (below_step (bw_ HB) hb); (try clear hb); (try clear hb2); (try clear hk); (try clear hi))))
   go_meet
   case rel => exact ⟨_, (true), (by first | rfl | (simp; done) | (simp [*]; done)), H', ⟨by first | exact Nat.le_refl _ | omega⟩, ⟨by repeat (first | (with_reducible first | exact HB.out | apply b_a | apply b_n | apply b_d) | exact HB.out)⟩⟩
  rw [if_neg c6] at H
  have c6b0 : decide (20 < (l0.length : Int)) = false := decide_eq_false c6
  have c6b1 : decide (20 < l0.length) = false := decide_eq_false (by omega)
  clear c6
  (first | rw [c6b0] | (simp only [i64_w, i32_w]; rw [c6b0]) | skip)
  have H' := Aside0.mk H
  clear H
  go_wp2_with (first | (go_at_call 8; (with_reducible refine (pelotonlaw14_awake.calls  true _ A4.out).mono ?_); rintro e w8 ⟨rfl, hb⟩; (try clear A4); replace HB := Aside0.mk (below_step (bw_ HB) hb); (try clear hb); (try clear hb2); (try clear hk); (try clear hi)))
  repeat (go_quiet (first | (go_at_call 8; (with_reducible refine (pelotonlaw14_awake.calls  true _ A4.out).mono ?_); rintro e w8 ⟨rfl, hb⟩; (try clear A4); replace HB := Aside0.mk (below_step (bw_ HB) hb); (try clear hb); (try clear hb2); (try clear hk); (try clear hi))); try go_wp2_with (first | (go_at_call 8; (with_reducible refine (pelotonlaw14_awake.calls  true _ A4.out).mono ?_); rintro e w8 ⟨rfl, hb⟩; (try clear A4); replace HB := Aside0.mk (below_step (bw_ HB) hb); (try clear hb); (try clear hb2); (try clear hk); (try clear hi))))
  go_meet
  case rel => exact ⟨_, (decide ((l1.length : Int) > 1000)), (by first | rfl | (simp; done) | (simp [*]; done)), H', ⟨by first | exact Nat.le_refl _ | omega⟩, ⟨by repeat (first | (with_reducible first | exact HB.out | apply b_a | apply b_n | apply b_d) | exact HB.out)⟩⟩
 case rest => as_aux_lemma =>
  clear HC3
  try clear c1
  try clear p2
  try clear c5
  try clear c6
  try clear c6b0
  try clear c6b1
  try clear c7
  obtain ⟨kq, x26_2, rfl, HA, HJ2, HB⟩ := hcut
  cases kq with
  | zero => exact absurd HA.out (by simp [pelotonlaw14_FrameSplits.j0])
  | succ kj2 =>
   have H := HA.out
   clear HA
   simp only [pelotonlaw14_FrameSplits.j0] at H
   by_cases c10 : x26_2 = true
   ·
    subst c10
    have H1 : ((pelotonlaw14_awake.f).bind fun t233 => (some t233)) = some r := by rw [if_pos rfl] at H; exact H
    clear H
    have H := H1
    clear H1
    replace H := Option.bind_eq_some_iff.mp H
    obtain ⟨t233, A110, H⟩ := H
    replace H : (some t233) = some r := H
    have A11 := Aside0.mk A110
    clear A110
    obtain rfl := Option.some.inj H
    go_wp2_with (first | (go_at_call 8; (with_reducible refine (pelotonlaw14_awake.calls  t233 _ A11.out).mono ?_); rintro e w12 ⟨rfl, hb⟩; (try clear A11); replace HB := Aside0.mk (below_step (bw_ HB) hb); (try clear hb); (try clear hb2); (try clear hk); (try clear hi)))
    repeat (go_quiet (first | (go_at_call 8; (with_reducible refine (pelotonlaw14_awake.calls  t233 _ A11.out).mono ?_); rintro e w12 ⟨rfl, hb⟩; (try clear A11); replace HB := Aside0.mk (below_step (bw_ HB) hb); (try clear hb); (try clear hb2); (try clear hk); (try clear hi))); try go_wp2_with (first | (go_at_call 8; (with_reducible refine (pelotonlaw14_awake.calls  t233 _ A11.out).mono ?_); rintro e w12 ⟨rfl, hb⟩; (try clear A11); replace HB := Aside0.mk (below_step (bw_ HB) hb); (try clear hb); (try clear hb2); (try clear hk); (try clear hi))))
    go_ret
    exact ⟨by first | rfl | (simp [errW_none, errW_some] <;> rfl) | (simp [*, errW_none, errW_some] <;> rfl), by repeat (first | (with_reducible first | exact HB.out | apply b_a | apply b_n | apply b_d) | exact HB.out)⟩
   replace c10 := Bool.eq_false_iff.mpr c10
   subst c10
   have H1 : (pelotonlaw14_FrameSplits.l0 kj2 l0 l1 ([] : List (List Int)) 0) = some r := by rw [if_neg (show ¬ (false = true) by decide)] at H; exact H
   clear H
   have H := H1
   clear H1
   have H' := Aside0.mk H
   clear H
   go_wp2
   repeat (go_quiet (fail); try go_wp2)
   go_loopg [5, 6] kj2 (fun kq v5 v6 w' => ∃ (x5_2 : List (List Int)) (x6_2 : Int), v6 = .int .i64 x6_2 ∧ Aside0 (pelotonlaw14_FrameSplits.l0 kq l0 l1 x5_2 x6_2 = some r) ∧ Aside0 (kq ≤ kj2) ∧ Aside0 (Kd.S (Kd.slice 5 (Kd.int .u8)) 22 w' w.heap.size (fun _ => True) v5 x5_2) ∧ Aside0 (Below w.heap.size w w'))
   case atStart => exact ⟨(([] : List (List Int))), (0), (by first | rfl | (simp; done) | (simp [*]; done)), H', ⟨Nat.le_refl _⟩, ⟨by first | exact Kd.S_nil _ _ _ _ _ | exact Kd.N_nil _ _ _ _ _ | exact Kd.V_nil _ _ _ _ _ | exact Kd.Q_nil _ _ _ _ _ | exact Kd.R_nil _ _ _ _ _⟩, ⟨by repeat (first | (with_reducible first | exact HB.out | apply b_a | apply b_n | apply b_d) | exact HB.out)⟩⟩
   case round =>
    clear H'
    try clear c1
    try clear p2
    try clear c5
    try clear c6
    try clear c6b0
    try clear c6b1
    try clear c7
    try clear c10
    try clear p2
    obtain ⟨x5_2, x6_2, rfl, HA, HK2, HO_5, HB⟩ := hrel
    cases gk with
    | zero => exact absurd HA.out (by simp [pelotonlaw14_FrameSplits.l0])
    | succ k2 =>
     have H := HA.out
     clear HA
     simp only [pelotonlaw14_FrameSplits.l0] at H
     by_cases c13 : x6_2 < (l0.length : Int)
     ·
      rw [if_pos c13] at H
      have c13b0 : decide (x6_2 < (l0.length : Int)) = true := decide_eq_true c13
      clear c13
      by_cases c14 : 0 ≤ x6_2
      rotate_left
      ·
       rw [if_neg c14] at H
       exact absurd H (by simp)
      rw [if_pos c14] at H
      have c14b0 : decide (0 ≤ x6_2) = true := decide_eq_true c14
      clear c14
      by_cases c15 : ((rd_L1 l0 x6_2).length : Int) > 500
      ·
       rw [if_pos c15] at H
       have c15b0 : decide (500 < ((rd_L1 l0 x6_2).length : Int)) = true := decide_eq_true c15
       have c15b1 : decide (500 < (rd_L1 l0 x6_2).length) = true := decide_eq_true (by omega)
       clear c15
       obtain rfl := Option.some.inj H
       have p234 : 0 ≤ (x6_2 : Int) := of_decide_eq_true (by first | (with_reducible assumption) | assumption)
       have q234 : x6_2 < (l0.length : Int) := of_decide_eq_true (by first | (with_reducible assumption) | assumption)
       obtain ⟨ad234, A234_0, c234_0, e234, hx234_0, hl234_0, hi234_0⟩ := at_L1 HR0.out x6_2 p234 q234
       cases e234
       replace hx234_0 := cb_ HB hx234_0
       have HR234_0 := Aside0.mk hi234_0
       have HC234_0 := Aside0.mk hl234_0
       clear hi234_0 hl234_0
       replace p234 := eq_true p234
       replace q234 := eq_true q234
       go_wp2
       repeat (go_quiet (fail); try go_wp2)
       go_ret
       exact ⟨by first | rfl | (simp [errW_none, errW_some] <;> rfl) | (simp [*, errW_none, errW_some] <;> rfl), by repeat (first | (with_reducible first | exact HB.out | apply b_a | apply b_n | apply b_d) | exact HB.out)⟩
      rw [if_neg c15] at H
      have c15b0 : decide (500 < ((rd_L1 l0 x6_2).length : Int)) = false := decide_eq_false c15
      have c15b1 : decide (500 < (rd_L1 l0 x6_2).length) = false := decide_eq_false (by omega)
      clear c15
      replace H := Option.bind_eq_some_iff.mp H
      obtain ⟨t236, A160, H⟩ := H
      replace H : (if x5_2.length < 5864062014805 then (pelotonlaw14_FrameSplits.l0 k2 l0 l1 (x5_2 ++ [t236]) (wrap64 (x6_2 + 1))) else (none)) = some r := H
      have A16 := Aside0.mk A160
      clear A160
      by_cases c17 : x5_2.length < 5864062014805
      rotate_left
      ·
       rw [if_neg c17] at H
       exact absurd H (by simp)
      rw [if_pos c17] at H
      have LMc17 := Aside0.mk c17
      clear c17
      obtain ⟨y239, hy239⟩ : ∃ y_ : List (List Int), y_ = (x5_2 ++ [t236]) := ⟨_, rfl⟩
      replace H : (pelotonlaw14_FrameSplits.l0 k2 l0 l1 y239 (wrap64 (x6_2 + 1))) = some r := by first | (rw [hy239]; with_reducible exact H) | (have H2_ := (Option.bind_some _ _).symm.trans H; rw [hy239]; with_reducible exact H2_) | (have H2_ := (Option.bind_some _ _).symm.trans H; with_reducible exact H2_) | with_reducible exact H | (rw [hy239]; exact H) | exact H
      have Ny239 := Aside0.mk hy239
      clear hy239
      have H' := Aside0.mk H
      clear H
      have p234 : 0 ≤ (x6_2 : Int) := of_decide_eq_true (by first | (with_reducible assumption) | assumption)
      have q234 : x6_2 < (l0.length : Int) := of_decide_eq_true (by first | (with_reducible assumption) | assumption)
      obtain ⟨ad234, A234_0, c234_0, e234, hx234_0, hl234_0, hi234_0⟩ := at_L1 HR0.out x6_2 p234 q234
      cases e234
      replace hx234_0 := cb_ HB hx234_0
      have HR234_0 := Aside0.mk hi234_0
      have HC234_0 := Aside0.mk hl234_0
      clear hi234_0 hl234_0
      replace p234 := eq_true p234
      replace q234 := eq_true q234
      have p235 : 0 ≤ (x6_2 : Int) := of_decide_eq_true (by first | (with_reducible assumption) | assumption)
      have q235 : x6_2 < (l0.length : Int) := of_decide_eq_true (by first | (with_reducible assumption) | assumption)
      obtain ⟨ad235, A235_0, c235_0, e235, hx235_0, hl235_0, hi235_0⟩ := at_L1 HR0.out x6_2 p235 q235
      obtain rfl : ad234 = ad235 := (by injection e235)
      replace hx235_0 := cb_ HB hx235_0
      have HR235_0 := Aside0.mk hi235_0
      have HC235_0 := Aside0.mk hl235_0
      clear hi235_0 hl235_0
      replace p235 := eq_true p235
      replace q235 := eq_true q235
      have ea_ := Option.some.inj (hx234_0.symm.trans hx235_0)
      injection ea_ with ea_ en_ ec_
      subst ea_
      subst ec_
      clear en_
      go_wp2_with (first | (go_at_call 10; (with_reducible refine (pelotonref14_Pack.calls k2 ((x6_2) % 256) _ _ (rd_L1 l0 x6_2) t236 _ ?side1 ?side2 A16.out).mono ?_); (case side1 => repeat (first | exact (Kd.C_below HR235_0.out HB.out) | (with_reducible refine Kd.C_alloc ?_ _) | (with_reducible refine Kd.C_drewN ?_ _) | (with_reducible refine Kd.C_drew ?_))); (case side2 => exact HC235_0.out); rintro e w18 ⟨v237, rfl, ho0, hb⟩; (try clear A16); have HO238 := Aside0.mk (Kd.R_lower ho0 (below_size (bw_ HB))); replace HO_5 := Aside0.mk (Kd.S_elder' (tS_ HO_5) (Kd.R_base ho0) hb); replace HB := Aside0.mk (below_step (bw_ HB) hb); (try clear hb); (try clear hb2); (try clear hk); (try clear hi); (try clear ho0); obtain ⟨Ao20, co20, eo20⟩ := Kd.R_slice HO238.out; subst eo20) | ((with_reducible refine gate_builtin (b := .append) (xs := #[.tmp 40, .tmp 48]) rfl ?_); (try (refine gate_guard (by rfl) ?_; dsimp only)); at_builtin; refine Kd.S_append (Kd.slice 5 (Kd.int .u8)) (w0 := w) w.heap.size rfl (.tmp 40) (.tmp 48) 36 22 (.slice none 0 0) 24 rfl Try.underlying36 info22 rfl (by decide) (by omega) u5 x5_2 t236 [.slice Ao20 t236.length co20] (fun _ => True) (fun k_ => some k_ = (.slice Ao20 t236.length co20 : Value).ownBlock) rfl rfl ?aP (fun k_ hk_ => ((Kd.R_mono (ok' := fun k_ => ((fun _ => True)) k_ ∧ some k_ ≠ (u5 : Value).ownBlock) (Kd.R_apart' (HO238.out) (Kd.S_typed HO_5.out) (by decide)) (fun k_ hk => ⟨trivial, hk.2⟩))).1 k_ hk_.symm) ?aF ?aO ?aB ?aS ?aL ?_; (case aP => exact Kd.M_row (Kd.R_mono (Kd.R_tight rfl (Kd.R_mono (ok' := fun k_ => ((fun _ => True)) k_ ∧ some k_ ≠ (u5 : Value).ownBlock) (Kd.R_apart' (HO238.out) (Kd.S_typed HO_5.out) (by decide)) (fun k_ hk => ⟨trivial, hk.2⟩))) (fun _ h_ => h_))); (case aB => exact (bw_ HB)); (case aF => exact (fun _ _ => trivial)); (case aO => exact (by (with_reducible repeat (first | apply Kd.S_alloc | apply Kd.S_drewN | apply Kd.S_drew)); exact Kd.S_mono HO_5.out (fun k_ hk => ⟨trivial, fun e_ => hk.2 e_⟩))); (case aS => exact (below_size (bw_ HB))); (case aL => have := LMc17.out; omega); intro v240 w19 ho hb hg hat; rw [← Ny239.out] at ho; have n0_ := Aside0.mk (hb); have n1_ := Aside0.mk (ho); clear HB; clear HO_5; clear HO238; have HB := n0_; have HO241 := n1_; clear n0_ n1_; clear ho hb hg hat))
      repeat (go_quiet (first | (go_at_call 10; (with_reducible refine (pelotonref14_Pack.calls k2 ((x6_2) % 256) _ _ (rd_L1 l0 x6_2) t236 _ ?side1 ?side2 A16.out).mono ?_); (case side1 => repeat (first | exact (Kd.C_below HR235_0.out HB.out) | (with_reducible refine Kd.C_alloc ?_ _) | (with_reducible refine Kd.C_drewN ?_ _) | (with_reducible refine Kd.C_drew ?_))); (case side2 => exact HC235_0.out); rintro e w18 ⟨v237, rfl, ho0, hb⟩; (try clear A16); have HO238 := Aside0.mk (Kd.R_lower ho0 (below_size (bw_ HB))); replace HO_5 := Aside0.mk (Kd.S_elder' (tS_ HO_5) (Kd.R_base ho0) hb); replace HB := Aside0.mk (below_step (bw_ HB) hb); (try clear hb); (try clear hb2); (try clear hk); (try clear hi); (try clear ho0); obtain ⟨Ao20, co20, eo20⟩ := Kd.R_slice HO238.out; subst eo20) | ((with_reducible refine gate_builtin (b := .append) (xs := #[.tmp 40, .tmp 48]) rfl ?_); (try (refine gate_guard (by rfl) ?_; dsimp only)); at_builtin; refine Kd.S_append (Kd.slice 5 (Kd.int .u8)) (w0 := w) w.heap.size rfl (.tmp 40) (.tmp 48) 36 22 (.slice none 0 0) 24 rfl Try.underlying36 info22 rfl (by decide) (by omega) u5 x5_2 t236 [.slice Ao20 t236.length co20] (fun _ => True) (fun k_ => some k_ = (.slice Ao20 t236.length co20 : Value).ownBlock) rfl rfl ?aP (fun k_ hk_ => ((Kd.R_mono (ok' := fun k_ => ((fun _ => True)) k_ ∧ some k_ ≠ (u5 : Value).ownBlock) (Kd.R_apart' (HO238.out) (Kd.S_typed HO_5.out) (by decide)) (fun k_ hk => ⟨trivial, hk.2⟩))).1 k_ hk_.symm) ?aF ?aO ?aB ?aS ?aL ?_; (case aP => exact Kd.M_row (Kd.R_mono (Kd.R_tight rfl (Kd.R_mono (ok' := fun k_ => ((fun _ => True)) k_ ∧ some k_ ≠ (u5 : Value).ownBlock) (Kd.R_apart' (HO238.out) (Kd.S_typed HO_5.out) (by decide)) (fun k_ hk => ⟨trivial, hk.2⟩))) (fun _ h_ => h_))); (case aB => exact (bw_ HB)); (case aF => exact (fun _ _ => trivial)); (case aO => exact (by (with_reducible repeat (first | apply Kd.S_alloc | apply Kd.S_drewN | apply Kd.S_drew)); exact Kd.S_mono HO_5.out (fun k_ hk => ⟨trivial, fun e_ => hk.2 e_⟩))); (case aS => exact (below_size (bw_ HB))); (case aL => have := LMc17.out; omega); intro v240 w19 ho hb hg hat; rw [← Ny239.out] at ho; have n0_ := Aside0.mk (hb); have n1_ := Aside0.mk (ho); clear HB; clear HO_5; clear HO238; have HB := n0_; have HO241 := n1_; clear n0_ n1_; clear ho hb hg hat)); try go_wp2_with (first | (go_at_call 10; (with_reducible refine (pelotonref14_Pack.calls k2 ((x6_2) % 256) _ _ (rd_L1 l0 x6_2) t236 _ ?side1 ?side2 A16.out).mono ?_); (case side1 => repeat (first | exact (Kd.C_below HR235_0.out HB.out) | (with_reducible refine Kd.C_alloc ?_ _) | (with_reducible refine Kd.C_drewN ?_ _) | (with_reducible refine Kd.C_drew ?_))); (case side2 => exact HC235_0.out); rintro e w18 ⟨v237, rfl, ho0, hb⟩; (try clear A16); have HO238 := Aside0.mk (Kd.R_lower ho0 (below_size (bw_ HB))); replace HO_5 := Aside0.mk (Kd.S_elder' (tS_ HO_5) (Kd.R_base ho0) hb); replace HB := Aside0.mk (below_step (bw_ HB) hb); (try clear hb); (try clear hb2); (try clear hk); (try clear hi); (try clear ho0); obtain ⟨Ao20, co20, eo20⟩ := Kd.R_slice HO238.out; subst eo20) | ((with_reducible refine gate_builtin (b := .append) (xs := #[.tmp 40, .tmp 48]) rfl ?_); (try (refine gate_guard (by rfl) ?_; dsimp only)); at_builtin; refine Kd.S_append (Kd.slice 5 (Kd.int .u8)) (w0 := w) w.heap.size rfl (.tmp 40) (.tmp 48) 36 22 (.slice none 0 0) 24 rfl Try.underlying36 info22 rfl (by decide) (by omega) u5 x5_2 t236 [.slice Ao20 t236.length co20] (fun _ => True) (fun k_ => some k_ = (.slice Ao20 t236.length co20 : Value).ownBlock) rfl rfl ?aP (fun k_ hk_ => ((Kd.R_mono (ok' := fun k_ => ((fun _ => True)) k_ ∧ some k_ ≠ (u5 : Value).ownBlock) (Kd.R_apart' (HO238.out) (Kd.S_typed HO_5.out) (by decide)) (fun k_ hk => ⟨trivial, hk.2⟩))).1 k_ hk_.symm) ?aF ?aO ?aB ?aS ?aL ?_; (case aP => exact Kd.M_row (Kd.R_mono (Kd.R_tight rfl (Kd.R_mono (ok' := fun k_ => ((fun _ => True)) k_ ∧ some k_ ≠ (u5 : Value).ownBlock) (Kd.R_apart' (HO238.out) (Kd.S_typed HO_5.out) (by decide)) (fun k_ hk => ⟨trivial, hk.2⟩))) (fun _ h_ => h_))); (case aB => exact (bw_ HB)); (case aF => exact (fun _ _ => trivial)); (case aO => exact (by (with_reducible repeat (first | apply Kd.S_alloc | apply Kd.S_drewN | apply Kd.S_drew)); exact Kd.S_mono HO_5.out (fun k_ hk => ⟨trivial, fun e_ => hk.2 e_⟩))); (case aS => exact (below_size (bw_ HB))); (case aL => have := LMc17.out; omega); intro v240 w19 ho hb hg hat; rw [← Ny239.out] at ho; have n0_ := Aside0.mk (hb); have n1_ := Aside0.mk (ho); clear HB; clear HO_5; clear HO238; have HB := n0_; have HO241 := n1_; clear n0_ n1_; clear ho hb hg hat)))
      go_roundg k2
      case measure => have := HJ2.out; have := HK2.out; omega
      case rel => exact ⟨(y239), (wrap64 (x6_2 + 1)), (by first | rfl | (simp; done) | (simp [*]; done)), H', ⟨by have := HJ2.out; have := HK2.out; omega⟩, ⟨tS_ HO241⟩, ⟨by repeat (first | (with_reducible first | exact HB.out | apply b_a | apply b_n | apply b_d) | exact HB.out)⟩⟩
     rw [if_neg c13] at H
     have c13b0 : decide (x6_2 < (l0.length : Int)) = false := decide_eq_false c13
     clear c13
     replace H := Option.bind_eq_some_iff.mp H
     obtain ⟨t242, A210, H⟩ := H
     replace H : (if t242.length + l1.length < 140737488355328 then ((some (t242 ++ l1 : List Int)).bind fun y245 => ((pelotonref14_Split.f k2 y245).bind fun t248 => ((frame_Split.f k2 y245).bind fun bt251 => (if (bt251.1.length : Int) = (t248.length : Int) then (pelotonlaw14_FrameSplits.j2 k2 l1 y245 t248 bt251.1 bt251.2 (decide ((t248.length : Int) < (x5_2.length : Int)))) else (pelotonlaw14_FrameSplits.j2 k2 l1 y245 t248 bt251.1 bt251.2 true))))) else (none)) = some r := H
     have A21 := Aside0.mk A210
     clear A210
     by_cases c22 : t242.length + l1.length < 140737488355328
     rotate_left
     ·
      rw [if_neg c22] at H
      exact absurd H (by simp)

     rw [if_pos c22] at H
     have LMc22 := Aside0.mk c22
     clear c22
     obtain ⟨y245, hy245⟩ : ∃ y_ : List Int, y_ = (t242 ++ l1) := ⟨_, rfl⟩
     replace H : ((pelotonref14_Split.f k2 y245).bind fun t248 => ((frame_Split.f k2 y245).bind fun bt251 => (if (bt251.1.length : Int) = (t248.length : Int) then (pelotonlaw14_FrameSplits.j2 k2 l1 y245 t248 bt251.1 bt251.2 (decide ((t248.length : Int) < (x5_2.length : Int)))) else (pelotonlaw14_FrameSplits.j2 k2 l1 y245 t248 bt251.1 bt251.2 true)))) = some r := by first | (rw [hy245]; with_reducible exact H) | (have H2_ := (Option.bind_some _ _).symm.trans H; rw [hy245]; with_reducible exact H2_) | (have H2_ := (Option.bind_some _ _).symm.trans H; with_reducible exact H2_) | with_reducible exact H | (rw [hy245]; exact H) | exact H
     have Ny245 := Aside0.mk hy245
     clear hy245
     replace H := Option.bind_eq_some_iff.mp H
     obtain ⟨t248, A230, H⟩ := H
     replace H : ((frame_Split.f k2 y245).bind fun bt251 => (if (bt251.1.length : Int) = (t248.length : Int) then (pelotonlaw14_FrameSplits.j2 k2 l1 y245 t248 bt251.1 bt251.2 (decide ((t248.length : Int) < (x5_2.length : Int)))) else (pelotonlaw14_FrameSplits.j2 k2 l1 y245 t248 bt251.1 bt251.2 true))) = some r := H
     have A23 := Aside0.mk A230
     clear A230
     replace H := Option.bind_eq_some_iff.mp H
     obtain ⟨⟨t251, t254⟩, A240, H⟩ := H
     replace H : (if (t251.length : Int) = (t248.length : Int) then (pelotonlaw14_FrameSplits.j2 k2 l1 y245 t248 t251 t254 (decide ((t248.length : Int) < (x5_2.length : Int)))) else (pelotonlaw14_FrameSplits.j2 k2 l1 y245 t248 t251 t254 true)) = some r := H
     have A24 := Aside0.mk A240
     clear A240
     have HC25 := Aside0.mk H
     clear H
     obtain ⟨Ao26, co26, eo26⟩ := Kd.S_slice HO_5.out
     subst eo26
     go_upto_region 13 with (first | (go_at_call 13; (with_reducible refine (frame_Join.callsJ _ _ x5_2 t242 _ ?side1 ?side2 ?side3 A21.out).mono ?_); (case side1 => repeat (first | exact (Kd.S_reads' HO_5.out).2.2 | (with_reducible refine Kd.C_alloc ?_ _) | (with_reducible refine Kd.C_drewN ?_ _) | (with_reducible refine Kd.C_drew ?_))); (case side2 => exact (Kd.S_reads' HO_5.out).2.1); (case side3 => exact S_head HO_5.out); rintro e w27 ⟨v243, rfl, ho0, hb⟩; (try clear A21); have HO244 := Aside0.mk (JR_lower ho0 (below_size (bw_ HB))); replace HO_5 := Aside0.mk (Kd.S_elder' (tS_ HO_5) (JR_base ho0) hb); replace HB := Aside0.mk (below_step (bw_ HB) hb); (try clear hb); (try clear hb2); (try clear hk); (try clear hi); (try clear ho0)) | ((with_reducible refine gate_builtin (b := .append) (xs := #[.tmp 51, .tmp 52]) rfl ?_); (try (refine gate_guard (by rfl) ?_; dsimp only)); at_builtin; refine JR_append (w0 := w) w.heap.size rfl (.tmp 51) (.tmp 52) 22 5 rfl Try.underlying22 info5 v243 t242 l1 _ _ rfl rfl ?aO ?aR ?aB ?aS ?aL ?_; (case aR => repeat (first | exact (Kd.C_below HR1.out HB.out) | (with_reducible refine Kd.C_alloc ?_ _) | (with_reducible refine Kd.C_drewN ?_ _) | (with_reducible refine Kd.C_drew ?_))); (case aB => exact (bw_ HB)); (case aO => exact (tJR_ HO244)); (case aS => exact (below_size (bw_ HB))); (case aL => have := LMc22.out; omega); intro v246 w28 ho hb hg hat; rw [← Ny245.out] at ho; have n0_ := Aside0.mk (Kd.S_after (ok := (fun _ => True)) (tS_ HO_5) hg hat); have n1_ := Aside0.mk (hb); have n2_ := Aside0.mk (ho); clear HO_5; clear HB; clear HO244; have HO_5 := n0_; have HB := n1_; have HO247 := n2_; clear n0_ n1_ n2_; clear ho hb hg hat; obtain ⟨Ao29, co29, eo29⟩ := JX_slice HO247.out; subst eo29) | (go_at_call 14; (with_reducible refine (pelotonref14_Split.calls k2 _ _ y245 t248 _ ?side1 ?side2 A23.out).mono ?_); (case side1 => repeat (first | exact (JX_reads' HO247.out).2.2 | (with_reducible refine Kd.C_alloc ?_ _) | (with_reducible refine Kd.C_drewN ?_ _) | (with_reducible refine Kd.C_drew ?_))); (case side2 => exact (JX_reads' HO247.out).2.1); rintro e w30 ⟨v249, rfl, ho0, hb⟩; (try clear A23); have HO250 := Aside0.mk (Kd.R_lower ho0 (below_size (bw_ HB))); replace HO_5 := Aside0.mk (Kd.S_below (tS_ HO_5) hb); replace HO247 := Aside0.mk (JX_below (tJ_ HO247) hb); replace HB := Aside0.mk (below_step (bw_ HB) hb); (try clear hb); (try clear hb2); (try clear hk); (try clear hi); (try clear ho0)) | (go_at_call 15; (with_reducible refine (frame_Split.calls k2 (fun k_ => some k_ = (.slice Ao29 y245.length co29 : Value).ownBlock) _ _ y245 t251 t254 _ ?side1 A24.out).mono ?_); (case side1 => exact HO247.out.1); rintro e w31 ⟨v252, v255, rfl, ho0, ho1, hb⟩; (try clear A24); have HO253 := Aside0.mk (Kd.S_lower (Kd.S_new' (Kd.S_new' (Kd.S_mono (ok' := fun k_ => some k_ ≠ (v255 : Value).ownBlock) ho0 (fun _ hk_ => hk_.2)) (Kd.S_lt (tS_ HO_5))) (JX_lt (tJ_ HO247))) (below_size (bw_ HB))); have HO256 := Aside0.mk (Kd.R_lower (Kd.R_new' (Kd.R_mono (ok' := fun k_ => True) ho1 (fun _ hk_ => trivial)) (JX_lt (tJ_ HO247))) (below_size (bw_ HB))); replace HO_5 := Aside0.mk (Kd.S_mono (Kd.S_told (Kd.S_told (Kd.S_old (tS_ HO_5) hb) (Kd.S_base ho0)) (Kd.R_base ho1)) (fun _ h_ => h_.1)); replace HO247 := Aside0.mk (JX_elder' (tJ_ HO247) (Kd.R_base ho1) hb); replace HO250 := Aside0.mk (Kd.R_below (tR_ HO250) hb); replace HB := Aside0.mk (below_step (bw_ HB) hb); (try clear hb); (try clear hb2); (try clear hk); (try clear hi); (try clear ho0); (try clear ho1)))
     repeat (go_quiet (first | (go_at_call 13; (with_reducible refine (frame_Join.callsJ _ _ x5_2 t242 _ ?side1 ?side2 ?side3 A21.out).mono ?_); (case side1 => repeat (first | exact (Kd.S_reads' HO_5.out).2.2 | (with_reducible refine Kd.C_alloc ?_ _) | (with_reducible refine Kd.C_drewN ?_ _) | (with_reducible refine Kd.C_drew ?_))); (case side2 => exact (Kd.S_reads' HO_5.out).2.1); (case side3 => exact S_head HO_5.out); rintro e w27 ⟨v243, rfl, ho0, hb⟩; (try clear A21); have HO244 := Aside0.mk (JR_lower ho0 (below_size (bw_ HB))); replace HO_5 := Aside0.mk (Kd.S_elder' (tS_ HO_5) (JR_base ho0) hb); replace HB := Aside0.mk (below_step (bw_ HB) hb); (try clear hb); (try clear hb2); (try clear hk); (try clear hi); (try clear ho0)) | ((with_reducible refine gate_builtin (b := .append) (xs := #[.tmp 51, .tmp 52]) rfl ?_); (try (refine gate_guard (by rfl) ?_; dsimp only)); at_builtin; refine JR_append (w0 := w) w.heap.size rfl (.tmp 51) (.tmp 52) 22 5 rfl Try.underlying22 info5 v243 t242 l1 _ _ rfl rfl ?aO ?aR ?aB ?aS ?aL ?_; (case aR => repeat (first | exact (Kd.C_below HR1.out HB.out) | (with_reducible refine Kd.C_alloc ?_ _) | (with_reducible refine Kd.C_drewN ?_ _) | (with_reducible refine Kd.C_drew ?_))); (case aB => exact (bw_ HB)); (case aO => exact (tJR_ HO244)); (case aS => exact (below_size (bw_ HB))); (case aL => have := LMc22.out; omega); intro v246 w28 ho hb hg hat; rw [← Ny245.out] at ho; have n0_ := Aside0.mk (Kd.S_after (ok := (fun _ => True)) (tS_ HO_5) hg hat); have n1_ := Aside0.mk (hb); have n2_ := Aside0.mk (ho); clear HO_5; clear HB; clear HO244; have HO_5 := n0_; have HB := n1_; have HO247 := n2_; clear n0_ n1_ n2_; clear ho hb hg hat; obtain ⟨Ao29, co29, eo29⟩ := JX_slice HO247.out; subst eo29) | (go_at_call 14; (with_reducible refine (pelotonref14_Split.calls k2 _ _ y245 t248 _ ?side1 ?side2 A23.out).mono ?_); (case side1 => repeat (first | exact (JX_reads' HO247.out).2.2 | (with_reducible refine Kd.C_alloc ?_ _) | (with_reducible refine Kd.C_drewN ?_ _) | (with_reducible refine Kd.C_drew ?_))); (case side2 => exact (JX_reads' HO247.out).2.1); rintro e w30 ⟨v249, rfl, ho0, hb⟩; (try clear A23); have HO250 := Aside0.mk (Kd.R_lower ho0 (below_size (bw_ HB))); replace HO_5 := Aside0.mk (Kd.S_below (tS_ HO_5) hb); replace HO247 := Aside0.mk (JX_below (tJ_ HO247) hb); replace HB := Aside0.mk (below_step (bw_ HB) hb); (try clear hb); (try clear hb2); (try clear hk); (try clear hi); (try clear ho0)) | (go_at_call 15; (with_reducible refine (frame_Split.calls k2 (fun k_ => some k_ = (.slice Ao29 y245.length co29 : Value).ownBlock) _ _ y245 t251 t254 _ ?side1 A24.out).mono ?_); (case side1 => exact HO247.out.1); rintro e w31 ⟨v252, v255, rfl, ho0, ho1, hb⟩; (try clear A24); have HO253 := Aside0.mk (Kd.S_lower (Kd.S_new' (Kd.S_new' (Kd.S_mono (ok' := fun k_ => some k_ ≠ (v255 : Value).ownBlock) ho0 (fun _ hk_ => hk_.2)) (Kd.S_lt (tS_ HO_5))) (JX_lt (tJ_ HO247))) (below_size (bw_ HB))); have HO256 := Aside0.mk (Kd.R_lower (Kd.R_new' (Kd.R_mono (ok' := fun k_ => True) ho1 (fun _ hk_ => trivial)) (JX_lt (tJ_ HO247))) (below_size (bw_ HB))); replace HO_5 := Aside0.mk (Kd.S_mono (Kd.S_told (Kd.S_told (Kd.S_old (tS_ HO_5) hb) (Kd.S_base ho0)) (Kd.R_base ho1)) (fun _ h_ => h_.1)); replace HO247 := Aside0.mk (JX_elder' (tJ_ HO247) (Kd.R_base ho1) hb); replace HO250 := Aside0.mk (Kd.R_below (tR_ HO250) hb); replace HB := Aside0.mk (below_step (bw_ HB) hb); (try clear hb); (try clear hb2); (try clear hk); (try clear hi); (try clear ho0); (try clear ho1))); go_upto_region 13 with (first | (go_at_call 13; (with_reducible refine (frame_Join.callsJ _ _ x5_2 t242 _ ?side1 ?side2 ?side3 A21.out).mono ?_); (case side1 => repeat (first | exact (Kd.S_reads' HO_5.out).2.2 | (with_reducible refine Kd.C_alloc ?_ _) | (with_reducible refine Kd.C_drewN ?_ _) | (with_reducible refine Kd.C_drew ?_))); (case side2 => exact (Kd.S_reads' HO_5.out).2.1); (case side3 => exact S_head HO_5.out); rintro e w27 ⟨v243, rfl, ho0, hb⟩; (try clear A21); have HO244 := Aside0.mk (JR_lower ho0 (below_size (bw_ HB))); replace HO_5 := Aside0.mk (Kd.S_elder' (tS_ HO_5) (JR_base ho0) hb); replace HB := Aside0.mk (below_step (bw_ HB) hb); (try clear hb); (try clear hb2); (try clear hk); (try clear hi); (try clear ho0)) | ((with_reducible refine gate_builtin (b := .append) (xs := #[.tmp 51, .tmp 52]) rfl ?_); (try (refine gate_guard (by rfl) ?_; dsimp only)); at_builtin; refine JR_append (w0 := w) w.heap.size rfl (.tmp 51) (.tmp 52) 22 5 rfl Try.underlying22 info5 v243 t242 l1 _ _ rfl rfl ?aO ?aR ?aB ?aS ?aL ?_; (case aR => repeat (first | exact (Kd.C_below HR1.out HB.out) | (with_reducible refine Kd.C_alloc ?_ _) | (with_reducible refine Kd.C_drewN ?_ _) | (with_reducible refine Kd.C_drew ?_))); (case aB => exact (bw_ HB)); (case aO => exact (tJR_ HO244)); (case aS => exact (below_size (bw_ HB))); (case aL => have := LMc22.out; omega); intro v246 w28 ho hb hg hat; rw [← Ny245.out] at ho; have n0_ := Aside0.mk (Kd.S_after (ok := (fun _ => True)) (tS_ HO_5) hg hat); have n1_ := Aside0.mk (hb); have n2_ := Aside0.mk (ho); clear HO_5; clear HB; clear HO244; have HO_5 := n0_; have HB := n1_; have HO247 := n2_; clear n0_ n1_ n2_; clear ho hb hg hat; obtain ⟨Ao29, co29, eo29⟩ := JX_slice HO247.out; subst eo29) | (go_at_call 14; (with_reducible refine (pelotonref14_Split.calls k2 _ _ y245 t248 _ ?side1 ?side2 A23.out).mono ?_); (case side1 => repeat (first | exact (JX_reads' HO247.out).2.2 | (with_reducible refine Kd.C_alloc ?_ _) | (with_reducible refine Kd.C_drewN ?_ _) | (with_reducible refine Kd.C_drew ?_))); (case side2 => exact (JX_reads' HO247.out).2.1); rintro e w30 ⟨v249, rfl, ho0, hb⟩; (try clear A23); have HO250 := Aside0.mk (Kd.R_lower ho0 (below_size (bw_ HB))); replace HO_5 := Aside0.mk (Kd.S_below (tS_ HO_5) hb); replace HO247 := Aside0.mk (JX_below (tJ_ HO247) hb); replace HB := Aside0.mk (below_step (bw_ HB) hb); (try clear hb); (try clear hb2); (try clear hk); (try clear hi); (try clear ho0)) | (go_at_call 15; (with_reducible refine (frame_Split.calls k2 (fun k_ => some k_ = (.slice Ao29 y245.length co29 : Value).ownBlock) _ _ y245 t251 t254 _ ?side1 A24.out).mono ?_); (case side1 => exact HO247.out.1); rintro e w31 ⟨v252, v255, rfl, ho0, ho1, hb⟩; (try clear A24); have HO253 := Aside0.mk (Kd.S_lower (Kd.S_new' (Kd.S_new' (Kd.S_mono (ok' := fun k_ => some k_ ≠ (v255 : Value).ownBlock) ho0 (fun _ hk_ => hk_.2)) (Kd.S_lt (tS_ HO_5))) (JX_lt (tJ_ HO247))) (below_size (bw_ HB))); have HO256 := Aside0.mk (Kd.R_lower (Kd.R_new' (Kd.R_mono (ok' := fun k_ => True) ho1 (fun _ hk_ => trivial)) (JX_lt (tJ_ HO247))) (below_size (bw_ HB))); replace HO_5 := Aside0.mk (Kd.S_mono (Kd.S_told (Kd.S_told (Kd.S_old (tS_ HO_5) hb) (Kd.S_base ho0)) (Kd.R_base ho1)) (fun _ h_ => h_.1)); replace HO247 := Aside0.mk (JX_elder' (tJ_ HO247) (Kd.R_base ho1) hb); replace HO250 := Aside0.mk (Kd.R_below (tR_ HO250) hb); replace HB := Aside0.mk (below_step (bw_ HB) hb); (try clear hb); (try clear hb2); (try clear hk); (try clear hi); (try clear ho0); (try clear ho1))))
     (try simp only [Act.put, l_1, l_2, l_3])
     go_cut [72] (fun v72 wc => ∃ (kq : Nat) (x72_24 : Bool), v72 = .bool x72_24 ∧ Aside0 (pelotonlaw14_FrameSplits.j2 kq l1 y245 t248 t251 t254 x72_24 = some r) ∧ Aside0 (kq ≤ k2) ∧ Aside0 (JX wc w.heap.size (fun k_ => some k_ ≠ (v255 : Value).ownBlock) (.slice Ao29 y245.length co29) y245) ∧ Aside0 (Kd.R (Kd.int .i64) 3 wc w.heap.size (fun _ => True) v249 t248) ∧ Aside0 (Kd.S (Kd.slice 5 (Kd.int .u8)) 22 wc w.heap.size (fun k_ => some k_ ≠ ((.slice Ao29 y245.length co29) : Value).ownBlock ∧ some k_ ≠ (v255 : Value).ownBlock) v252 t251) ∧ Aside0 (Kd.R (Kd.int .u8) 5 wc w.heap.size (fun k_ => some k_ ≠ ((.slice Ao29 y245.length co29) : Value).ownBlock) v255 t254) ∧ Aside0 (Below w.heap.size w wc))
     case first =>
      have H := HC25.out
      clear HC25
      by_cases c32 : (t251.length : Int) = (t248.length : Int)
      rotate_left
      ·
       rw [if_neg c32] at H
       have c32b0 : ((t251.length : Int) == (t248.length : Int)) = false := beq_eq_false_iff_ne.mpr c32
       have c32b1 : ((t251.length : Int) != (t248.length : Int)) = true := bne_iff_ne.mpr c32
       have c32b2 : (t251.length == t248.length) = false := by first | simpa using c32 | (simp at c32 ⊢; omega)
       (first | rw [c32b0] | (simp only [i64_w, i32_w]; rw [c32b0]) | skip)
       have H' := Aside0.mk H
       clear H
       obtain ⟨Ao35, co35, eo35⟩ := Kd.S_slice HO253.out
       subst eo35
       obtain ⟨Ao36, co36, eo36⟩ := Kd.R_slice HO250.out
       subst eo36
       go_wp2
       repeat (go_quiet (fail); try go_wp2)
       go_meet
       case rel => exact ⟨_, (true), (by first | rfl | (simp; done) | (simp [*]; done)), H', ⟨by have := HJ2.out; have := HK2.out; first | exact Nat.le_refl _ | omega⟩, ⟨by (with_reducible repeat (first | apply JX_alloc | apply JX_drewN | apply JX_drew)); exact JX_mono HO247.out (fun _ hk => hk.2)⟩, ⟨tR_ HO250⟩, ⟨by (with_reducible repeat (first | apply Kd.S_alloc | apply Kd.S_drewN | apply Kd.S_drew)); exact Kd.S_mono HO253.out (fun _ hk => ⟨hk.2, hk.1.1⟩)⟩, ⟨by (with_reducible repeat (first | apply Kd.R_alloc | apply Kd.R_drewN | apply Kd.R_drew)); exact Kd.R_mono HO256.out (fun _ hk => hk.2)⟩, ⟨by repeat (first | (with_reducible first | exact HB.out | apply b_a | apply b_n | apply b_d) | exact HB.out)⟩⟩
      rw [if_pos c32] at H
      have c32b0 : ((t251.length : Int) == (t248.length : Int)) = true := beq_iff_eq.mpr c32
      have c32b1 : ((t251.length : Int) != (t248.length : Int)) = false := bne_eq_false_iff_eq.mpr c32
      have c32b2 : (t251.length == t248.length) = true := by first | simpa using c32 | (simp at c32 ⊢; omega)
      clear c32
      (first | rw [c32b0] | (simp only [i64_w, i32_w]; rw [c32b0]) | skip)
      have H' := Aside0.mk H
      clear H
      obtain ⟨Ao33, co33, eo33⟩ := Kd.S_slice HO253.out
      subst eo33
      obtain ⟨Ao34, co34, eo34⟩ := Kd.R_slice HO250.out
      subst eo34
      go_wp2
      repeat (go_quiet (fail); try go_wp2)
      go_meet
      case rel => exact ⟨_, (decide ((t248.length : Int) < (x5_2.length : Int))), (by first | rfl | (simp; done) | (simp [*]; done)), H', ⟨by have := HJ2.out; have := HK2.out; first | exact Nat.le_refl _ | omega⟩, ⟨by (with_reducible repeat (first | apply JX_alloc | apply JX_drewN | apply JX_drew)); exact JX_mono HO247.out (fun _ hk => hk.2)⟩, ⟨tR_ HO250⟩, ⟨by (with_reducible repeat (first | apply Kd.S_alloc | apply Kd.S_drewN | apply Kd.S_drew)); exact Kd.S_mono HO253.out (fun _ hk => ⟨hk.2, hk.1.1⟩)⟩, ⟨by (with_reducible repeat (first | apply Kd.R_alloc | apply Kd.R_drewN | apply Kd.R_drew)); exact Kd.R_mono HO256.out (fun _ hk => hk.2)⟩, ⟨by repeat (first | (with_reducible first | exact HB.out | apply b_a | apply b_n | apply b_d) | exact HB.out)⟩⟩
     case rest => as_aux_lemma =>
      clear HC25
      try clear c1
      try clear c2
      try clear p2
      try clear q2
      try clear hx2
      try clear c3
      try clear c5
      try clear c6
      try clear c6b0
      try clear c6b1
      try clear p6
      try clear c7
      try clear c10
      try clear c13
      try clear c13b0
      try clear c14
      try clear c14b0
      try clear c15
      try clear c15b0
      try clear c15b1
      try clear c17
      try clear c22
      try clear c23
      try clear p23
      try clear q23
      try clear hx23
      try clear c32
      try clear c32b0
      try clear c32b1
      try clear c32b2
      try clear hx234_0
      try clear hx235_0
      try clear p2
      try clear p234
      try clear p235
      try clear q234
      try clear q235
      obtain ⟨kq, x72_24, rfl, HA, HJ24, HO_7, HO_8, HO_9, HO_10, HB⟩ := hcut
      cases kq with
      | zero => exact absurd HA.out (by simp [pelotonlaw14_FrameSplits.j2])
      | succ kj24 =>
       have H := HA.out
       clear HA
       simp only [pelotonlaw14_FrameSplits.j2] at H
       by_cases c37 : x72_24 = true
       ·
        subst c37
        have H1 : (some false) = some r := by rw [if_pos rfl] at H; exact H
        clear H
        have H := H1
        clear H1
        obtain rfl := Option.some.inj H
        go_wp2
        repeat (go_quiet (fail); try go_wp2)
        go_ret
        exact ⟨by first | rfl | (simp [errW_none, errW_some] <;> rfl) | (simp [*, errW_none, errW_some] <;> rfl), by repeat (first | (with_reducible first | exact HB.out | apply b_a | apply b_n | apply b_d) | exact HB.out)⟩
       replace c37 := Bool.eq_false_iff.mpr c37
       subst c37
       have H1 : (pelotonlaw14_FrameSplits.l1 kj24 l1 y245 t248 t251 t254 0 0) = some r := by rw [if_neg (show ¬ (false = true) by decide)] at H; exact H
       clear H
       have H := H1
       clear H1
       have H' := Aside0.mk H
       clear H
       go_wp2
       repeat (go_quiet (fail); try go_wp2)
       go_loopg [11, 12] kj24 (fun kq v11 v12 w' => ∃ (x11_4 : Int) (x12_4 : Int), v11 = .int .i64 x11_4 ∧ v12 = .int .i64 x12_4 ∧ Aside0 (pelotonlaw14_FrameSplits.l1 kq l1 y245 t248 t251 t254 x11_4 x12_4 = some r) ∧ Aside0 (kq ≤ kj24) ∧ Aside0 (JX w' w.heap.size (fun k_ => some k_ ≠ (v255 : Value).ownBlock) (.slice Ao29 y245.length co29) y245) ∧ Aside0 (Kd.R (Kd.int .i64) 3 w' w.heap.size (fun _ => True) v249 t248) ∧ Aside0 (Kd.S (Kd.slice 5 (Kd.int .u8)) 22 w' w.heap.size (fun k_ => some k_ ≠ ((.slice Ao29 y245.length co29) : Value).ownBlock ∧ some k_ ≠ (v255 : Value).ownBlock) v252 t251) ∧ Aside0 (Kd.R (Kd.int .u8) 5 w' w.heap.size (fun k_ => some k_ ≠ ((.slice Ao29 y245.length co29) : Value).ownBlock) v255 t254) ∧ Aside0 (Below w.heap.size w w'))
       case atStart => exact ⟨(0), (0), (by first | rfl | (simp; done) | (simp [*]; done)), (by first | rfl | (simp; done) | (simp [*]; done)), H', ⟨Nat.le_refl _⟩, ⟨tJ_ HO_7⟩, ⟨tR_ HO_8⟩, ⟨tS_ HO_9⟩, ⟨tR_ HO_10⟩, ⟨by repeat (first | (with_reducible first | exact HB.out | apply b_a | apply b_n | apply b_d) | exact HB.out)⟩⟩
       case round =>
        clear H'
        try clear c1
        try clear c2
        try clear p2
        try clear q2
        try clear hx2
        try clear c3
        try clear c5
        try clear c6
        try clear c6b0
        try clear c6b1
        try clear p6
        try clear c7
        try clear c10
        try clear c13
        try clear c13b0
        try clear c14
        try clear c14b0
        try clear c15
        try clear c15b0
        try clear c15b1
        try clear c17
        try clear c22
        try clear c23
        try clear p23
        try clear q23
        try clear hx23
        try clear c32
        try clear c32b0
        try clear c32b1
        try clear c32b2
        try clear c37
        try clear hx234_0
        try clear hx235_0
        try clear p2
        try clear p23
        try clear p234
        try clear p235
        try clear p6
        try clear q2
        try clear q23
        try clear q234
        try clear q235
        obtain ⟨x11_4, x12_4, rfl, rfl, HA, HK4, HO_7, HO_8, HO_9, HO_10, HB⟩ := hrel
        cases gk with
        | zero => exact absurd HA.out (by simp [pelotonlaw14_FrameSplits.l1])
        | succ k4 =>
         have H := HA.out
         clear HA
         simp only [pelotonlaw14_FrameSplits.l1] at H
         by_cases c38 : x12_4 < (t248.length : Int)
         ·
          rw [if_pos c38] at H
          have c38b0 : decide (x12_4 < (t248.length : Int)) = true := decide_eq_true c38
          clear c38
          by_cases c39 : 0 ≤ x12_4
          rotate_left
          ·
           rw [if_neg c39] at H
           exact absurd H (by simp)
          rw [if_pos c39] at H
          have c39b0 : decide (0 ≤ x12_4) = true := decide_eq_true c39
          clear c39
          by_cases c40 : x12_4 < (t251.length : Int)
          rotate_left
          ·
           rw [if_neg c40] at H
           exact absurd H (by simp)
          rw [if_pos c40] at H
          have c40b0 : decide (x12_4 < (t251.length : Int)) = true := decide_eq_true c40
          clear c40
          by_cases c41 : 0 ≤ x11_4
          rotate_left
          ·
           rw [if_neg c41] at H
           exact absurd H (by simp)
          rw [if_pos c41] at H
          have c41b0 := eq_true c41
          have c41b1 : decide (0 ≤ x11_4) = true := decide_eq_true c41
          clear c41
          by_cases c42 : x11_4 ≤ (rd t248 x12_4)
          rotate_left
          ·
           rw [if_neg c42] at H
           exact absurd H (by simp)
          rw [if_pos c42] at H
          have c42b0 := eq_true c42
          have c42b1 : decide (x11_4 ≤ (rd t248 x12_4)) = true := decide_eq_true c42
          clear c42
          by_cases c43 : (rd t248 x12_4) ≤ (y245.length : Int)
          rotate_left
          ·
           rw [if_neg c43] at H
           exact absurd H (by simp)
          rw [if_pos c43] at H
          have c43b0 := eq_true c43
          have c43b1 : decide ((rd t248 x12_4) ≤ (y245.length : Int)) = true := decide_eq_true c43
          clear c43
          obtain ⟨y259, hy259⟩ : ∃ y_ : List Int, y_ = ((y245.take ((rd t248 x12_4) : Int).toNat).drop (x11_4 : Int).toNat) := ⟨_, rfl⟩
          replace H : (if (strOfNums (rd_L1 t251 x12_4)).toList = (strOfNums y259).toList then (pelotonlaw14_FrameSplits.l1 k4 l1 y245 t248 t251 t254 (rd t248 x12_4) (wrap64 (x12_4 + 1))) else (some false)) = some r := by first | (rw [hy259]; with_reducible exact H) | (have H2_ := (Option.bind_some _ _).symm.trans H; rw [hy259]; with_reducible exact H2_) | (have H2_ := (Option.bind_some _ _).symm.trans H; with_reducible exact H2_) | with_reducible exact H | (rw [hy259]; exact H) | exact H
          have Ny259 := Aside0.mk hy259
          clear hy259
          by_cases c44 : (strOfNums (rd_L1 t251 x12_4)).toList = (strOfNums y259).toList
          rotate_left
          ·
           rw [if_neg c44] at H
           have c44b0 : ((strOfNums (rd_L1 t251 x12_4)).toList == (strOfNums y259).toList) = false := beq_eq_false_iff_ne.mpr c44
           have c44b1 : ((strOfNums (rd_L1 t251 x12_4)).toList != (strOfNums y259).toList) = true := bne_iff_ne.mpr c44
           obtain rfl := Option.some.inj H
           obtain ⟨Ao52, co52, eo52⟩ := Kd.R_slice HO_8.out
           subst eo52
           obtain ⟨Ao53, co53, eo53⟩ := Kd.S_slice HO_9.out
           subst eo53
           have p257 : 0 ≤ (x12_4 : Int) := of_decide_eq_true (by first | (with_reducible assumption) | assumption)
           have q257 : x12_4 < (t251.length : Int) := of_decide_eq_true (by first | (with_reducible assumption) | assumption)
           obtain ⟨ad257, A257_0, c257_0, e257, hx257_0, hl257_0, hi257_0⟩ := at_L1 (Kd.S_reads' HO_9.out).2.2 x12_4 p257 q257
           cases e257
           obtain ⟨ce257, hce257, hMe257, hcc257⟩ := Kd.S_get HO_9.out [] x12_4 p257 (by first | exact q257 | exact of_decide_eq_true (by first | (with_reducible assumption) | assumption) | (have e_ := (Kd.S_reads' HO_9.out).1; omega))
           obtain ⟨ve257_0, rfl, ge257_0⟩ := hMe257
           have hv257_0 := hcc257 0 _ rfl
           rw [Nat.add_zero, show ((Kd.slice 5 (Kd.int .u8))).sz = 1 from rfl, Nat.mul_one] at hv257_0
           replace hv257_0 := Option.some.inj (hv257_0.symm.trans hx257_0)
           rw [hv257_0] at ge257_0
           have HL257_0 := Aside0.mk (show Kd.R (Kd.int .u8) 5 _ _ _ _ (rd_L1 t251 x12_4) from ge257_0)
           clear hv257_0 ge257_0
           clear hcc257 hce257
           have HR257_0 := Aside0.mk hi257_0
           have HC257_0 := Aside0.mk hl257_0
           clear hi257_0 hl257_0
           replace p257 := eq_true p257
           replace q257 := eq_true q257
           have hcv54 := Kd.C_string (P := Try.prog) (A := A257_0) (c := c257_0) Try.underlying22 Try.underlying5 Try.underlying9 (by repeat (first | (with_reducible exact HR257_0.out) | (with_reducible refine Kd.C_alloc ?_ _) | (with_reducible refine Kd.C_drewN ?_ _) | (with_reducible refine Kd.C_drew ?_) | exact HR257_0.out))
           have hcw55 := fun n_ : Nat => Kd.C_string (P := Try.prog) (A := A257_0) (c := c257_0) Try.underlying22 Try.underlying5 Try.underlying9 (Kd.C_drewN (by repeat (first | (with_reducible exact HR257_0.out) | (with_reducible refine Kd.C_alloc ?_ _) | (with_reducible refine Kd.C_drewN ?_ _) | (with_reducible refine Kd.C_drew ?_) | exact HR257_0.out)) n_)
           have p258 : 0 ≤ (x12_4 : Int) := of_decide_eq_true (by first | (with_reducible assumption) | assumption)
           have q258 : x12_4 < (t248.length : Int) := of_decide_eq_true (by first | (with_reducible assumption) | assumption)
           obtain ⟨ad258, e258, hx258_0⟩ := Kd.at_int (Kd.R_reads' HO_8.out).2.2 x12_4 p258 q258
           cases e258
           replace p258 := eq_true p258
           replace q258 := eq_true q258
           have q56 : ((rd t248 x12_4) : Int) ≤ ((y245.length : Int) : Int) := of_decide_eq_true (by first | (with_reducible assumption) | assumption)
           obtain ⟨i056, hi056, _, hsz56, _⟩ := info_parts info5
           have hroom56 : y245.length ≤ co29 := (JX_reads' HO_7.out).2.1
           have hC56 : Kd.C (Kd.int .u8) _ Ao29 y245.length y245 := (JX_reads' HO_7.out).2.2
           have ql56 : (x11_4 : Int) ≤ ((rd t248 x12_4) : Int) := of_decide_eq_true (by first | (with_reducible assumption) | assumption)
           have q056 : (0 : Int) ≤ (x11_4 : Int) := of_decide_eq_true (by first | (with_reducible assumption) | assumption)
           have hcut56 := cut_mid (P := Try.prog) 22 5 .i64 .i64 Try.underlying22 hi056 1 hsz56 Ao29 y245.length co29 x11_4 (rd t248 x12_4) q056 ql56 q56 hroom56
           have hr56 := Kd.C_mid (lo := (x11_4 : Int).toNat) (hi := ((rd t248 x12_4) : Int).toNat) (c := co29) hC56 (by omega) (by omega) hroom56
           obtain ⟨A56, hA56⟩ : ∃ A1, A1 = (if co29 = (x11_4 : Int).toNat then Ao29 else (Ao29 : Option Addr).map (·.add ((x11_4 : Int).toNat * 1))) := ⟨_, rfl⟩
           obtain ⟨c56, hc56⟩ : ∃ c1, c1 = co29 - (x11_4 : Int).toNat := ⟨_, rfl⟩
           have hy56 : y259.length = ((rd t248 x12_4) : Int).toNat - (x11_4 : Int).toNat := (by rw [Ny259.out, l_7, l_8] <;> omega)
           rw [show ((y245).take ((rd t248 x12_4) : Int).toNat).drop (x11_4 : Int).toNat = y259 from Ny259.out.symm] at hr56
           replace hr56 : Kd.C (Kd.int .u8) _ A56 y259.length y259 := (by rw [hA56]; exact hr56)
           rw [← hy56, ← hA56, ← hc56] at hcut56
           have HR262 := Aside0.mk hr56
           have HC262 := Aside0.mk (show y259.length ≤ c56 from by rw [hy56, hc56]; exact Nat.sub_le_sub_right (Nat.le_trans (by omega) hroom56) _)
           clear hr56 hC56 hroom56 hi056 hsz56 hc56
           have KY56 := Aside0.mk hy56
           have KA56 := Aside0.mk hA56
           clear hy56 hA56
           have KL56 := Aside0.mk (show ((rd t248 x12_4) : Int).toNat ≤ y245.length from by omega)
           have KM56 := Aside0.mk (show (x11_4 : Int).toNat ≤ ((rd t248 x12_4) : Int).toNat from by omega)
           replace q56 := eq_true q56
           have hcv57 := Kd.C_string (P := Try.prog) (A := A56) (c := c56) Try.underlying22 Try.underlying5 Try.underlying9 (by repeat (first | (with_reducible exact HR262.out) | (with_reducible refine Kd.C_alloc ?_ _) | (with_reducible refine Kd.C_drewN ?_ _) | (with_reducible refine Kd.C_drew ?_) | exact HR262.out))
           have hcw58 := fun n_ : Nat => Kd.C_string (P := Try.prog) (A := A56) (c := c56) Try.underlying22 Try.underlying5 Try.underlying9 (Kd.C_drewN (by repeat (first | (with_reducible exact HR262.out) | (with_reducible refine Kd.C_alloc ?_ _) | (with_reducible refine Kd.C_drewN ?_ _) | (with_reducible refine Kd.C_drew ?_) | exact HR262.out)) n_)
           go_wp2
           repeat (go_quiet (fail); try go_wp2)
           go_ret
           exact ⟨by first | rfl | (simp [errW_none, errW_some] <;> rfl) | (simp [*, errW_none, errW_some] <;> rfl), by repeat (first | (with_reducible first | exact HB.out | apply b_a | apply b_n | apply b_d) | exact HB.out)⟩
          rw [if_pos c44] at H
          have c44b0 : ((strOfNums (rd_L1 t251 x12_4)).toList == (strOfNums y259).toList) = true := beq_iff_eq.mpr c44
          have c44b1 : ((strOfNums (rd_L1 t251 x12_4)).toList != (strOfNums y259).toList) = false := bne_eq_false_iff_eq.mpr c44
          clear c44
          have H' := Aside0.mk H
          clear H
          obtain ⟨Ao45, co45, eo45⟩ := Kd.R_slice HO_8.out
          subst eo45
          obtain ⟨Ao46, co46, eo46⟩ := Kd.S_slice HO_9.out
          subst eo46
          have p257 : 0 ≤ (x12_4 : Int) := of_decide_eq_true (by first | (with_reducible assumption) | assumption)
          have q257 : x12_4 < (t251.length : Int) := of_decide_eq_true (by first | (with_reducible assumption) | assumption)
          obtain ⟨ad257, A257_0, c257_0, e257, hx257_0, hl257_0, hi257_0⟩ := at_L1 (Kd.S_reads' HO_9.out).2.2 x12_4 p257 q257
          cases e257
          obtain ⟨ce257, hce257, hMe257, hcc257⟩ := Kd.S_get HO_9.out [] x12_4 p257 (by first | exact q257 | exact of_decide_eq_true (by first | (with_reducible assumption) | assumption) | (have e_ := (Kd.S_reads' HO_9.out).1; omega))
          obtain ⟨ve257_0, rfl, ge257_0⟩ := hMe257
          have hv257_0 := hcc257 0 _ rfl
          rw [Nat.add_zero, show ((Kd.slice 5 (Kd.int .u8))).sz = 1 from rfl, Nat.mul_one] at hv257_0
          replace hv257_0 := Option.some.inj (hv257_0.symm.trans hx257_0)
          rw [hv257_0] at ge257_0
          have HL257_0 := Aside0.mk (show Kd.R (Kd.int .u8) 5 _ _ _ _ (rd_L1 t251 x12_4) from ge257_0)
          clear hv257_0 ge257_0
          clear hcc257 hce257
          have HR257_0 := Aside0.mk hi257_0
          have HC257_0 := Aside0.mk hl257_0
          clear hi257_0 hl257_0
          replace p257 := eq_true p257
          replace q257 := eq_true q257
          have hcv47 := Kd.C_string (P := Try.prog) (A := A257_0) (c := c257_0) Try.underlying22 Try.underlying5 Try.underlying9 (by repeat (first | (with_reducible exact HR257_0.out) | (with_reducible refine Kd.C_alloc ?_ _) | (with_reducible refine Kd.C_drewN ?_ _) | (with_reducible refine Kd.C_drew ?_) | exact HR257_0.out))
          have hcw48 := fun n_ : Nat => Kd.C_string (P := Try.prog) (A := A257_0) (c := c257_0) Try.underlying22 Try.underlying5 Try.underlying9 (Kd.C_drewN (by repeat (first | (with_reducible exact HR257_0.out) | (with_reducible refine Kd.C_alloc ?_ _) | (with_reducible refine Kd.C_drewN ?_ _) | (with_reducible refine Kd.C_drew ?_) | exact HR257_0.out)) n_)
          have p258 : 0 ≤ (x12_4 : Int) := of_decide_eq_true (by first | (with_reducible assumption) | assumption)
          have q258 : x12_4 < (t248.length : Int) := of_decide_eq_true (by first | (with_reducible assumption) | assumption)
          obtain ⟨ad258, e258, hx258_0⟩ := Kd.at_int (Kd.R_reads' HO_8.out).2.2 x12_4 p258 q258
          cases e258
          replace p258 := eq_true p258
          replace q258 := eq_true q258
          have q49 : ((rd t248 x12_4) : Int) ≤ ((y245.length : Int) : Int) := of_decide_eq_true (by first | (with_reducible assumption) | assumption)
          obtain ⟨i049, hi049, _, hsz49, _⟩ := info_parts info5
          have hroom49 : y245.length ≤ co29 := (JX_reads' HO_7.out).2.1
          have hC49 : Kd.C (Kd.int .u8) _ Ao29 y245.length y245 := (JX_reads' HO_7.out).2.2
          have ql49 : (x11_4 : Int) ≤ ((rd t248 x12_4) : Int) := of_decide_eq_true (by first | (with_reducible assumption) | assumption)
          have q049 : (0 : Int) ≤ (x11_4 : Int) := of_decide_eq_true (by first | (with_reducible assumption) | assumption)
          have hcut49 := cut_mid (P := Try.prog) 22 5 .i64 .i64 Try.underlying22 hi049 1 hsz49 Ao29 y245.length co29 x11_4 (rd t248 x12_4) q049 ql49 q49 hroom49
          have hr49 := Kd.C_mid (lo := (x11_4 : Int).toNat) (hi := ((rd t248 x12_4) : Int).toNat) (c := co29) hC49 (by omega) (by omega) hroom49
          obtain ⟨A49, hA49⟩ : ∃ A1, A1 = (if co29 = (x11_4 : Int).toNat then Ao29 else (Ao29 : Option Addr).map (·.add ((x11_4 : Int).toNat * 1))) := ⟨_, rfl⟩
          obtain ⟨c49, hc49⟩ : ∃ c1, c1 = co29 - (x11_4 : Int).toNat := ⟨_, rfl⟩
          have hy49 : y259.length = ((rd t248 x12_4) : Int).toNat - (x11_4 : Int).toNat := (by rw [Ny259.out, l_7, l_8] <;> omega)
          rw [show ((y245).take ((rd t248 x12_4) : Int).toNat).drop (x11_4 : Int).toNat = y259 from Ny259.out.symm] at hr49
          replace hr49 : Kd.C (Kd.int .u8) _ A49 y259.length y259 := (by rw [hA49]; exact hr49)
          rw [← hy49, ← hA49, ← hc49] at hcut49
          have HR262 := Aside0.mk hr49
          have HC262 := Aside0.mk (show y259.length ≤ c49 from by rw [hy49, hc49]; exact Nat.sub_le_sub_right (Nat.le_trans (by omega) hroom49) _)
          clear hr49 hC49 hroom49 hi049 hsz49 hc49
          have KY49 := Aside0.mk hy49
          have KA49 := Aside0.mk hA49
          clear hy49 hA49
          have KL49 := Aside0.mk (show ((rd t248 x12_4) : Int).toNat ≤ y245.length from by omega)
          have KM49 := Aside0.mk (show (x11_4 : Int).toNat ≤ ((rd t248 x12_4) : Int).toNat from by omega)
          replace q49 := eq_true q49
          have hcv50 := Kd.C_string (P := Try.prog) (A := A49) (c := c49) Try.underlying22 Try.underlying5 Try.underlying9 (by repeat (first | (with_reducible exact HR262.out) | (with_reducible refine Kd.C_alloc ?_ _) | (with_reducible refine Kd.C_drewN ?_ _) | (with_reducible refine Kd.C_drew ?_) | exact HR262.out))
          have hcw51 := fun n_ : Nat => Kd.C_string (P := Try.prog) (A := A49) (c := c49) Try.underlying22 Try.underlying5 Try.underlying9 (Kd.C_drewN (by repeat (first | (with_reducible exact HR262.out) | (with_reducible refine Kd.C_alloc ?_ _) | (with_reducible refine Kd.C_drewN ?_ _) | (with_reducible refine Kd.C_drew ?_) | exact HR262.out)) n_)
          have p263 : 0 ≤ (x12_4 : Int) := of_decide_eq_true (by first | (with_reducible assumption) | assumption)
          have q263 : x12_4 < (t248.length : Int) := of_decide_eq_true (by first | (with_reducible assumption) | assumption)
          obtain ⟨ad263, e263, hx263_0⟩ := Kd.at_int (Kd.R_reads' HO_8.out).2.2 x12_4 p263 q263
          obtain rfl : ad258 = ad263 := (by injection e263)
          replace p263 := eq_true p263
          replace q263 := eq_true q263
          go_wp2
          repeat (go_quiet (fail); try go_wp2)
          go_roundg k4
          case measure => have := HJ2.out; have := HK2.out; have := HJ24.out; have := HK4.out; omega
          case rel => exact ⟨(rd t248 x12_4), (wrap64 (x12_4 + 1)), (by first | rfl | (simp; done) | (simp [*]; done)), (by first | rfl | (simp; done) | (simp [*]; done)), H', ⟨by have := HJ2.out; have := HK2.out; have := HJ24.out; have := HK4.out; omega⟩, ⟨tJ_ HO_7⟩, ⟨tR_ HO_8⟩, ⟨tS_ HO_9⟩, ⟨tR_ HO_10⟩, ⟨by repeat (first | (with_reducible first | exact HB.out | apply b_a | apply b_n | apply b_d) | exact HB.out)⟩⟩
         rw [if_neg c38] at H
         have c38b0 : decide (x12_4 < (t248.length : Int)) = false := decide_eq_false c38
         clear c38
         replace H := Option.bind_eq_some_iff.mp H
         obtain ⟨⟨t264, t267⟩, A590, H⟩ := H
         replace H : (if 0 ≤ x11_4 then (if x11_4 ≤ (y245.length : Int) then (if (strOfNums t254).toList = (strOfNums (y245.drop (x11_4 : Int).toNat)).toList then (if (t264.length : Int) > 0 then (some true) else (some ((strOfNums t267).toList == (strOfNums l1).toList))) else (some false)) else (none)) else (none)) = some r := H
         have A59 := Aside0.mk A590
         clear A590
         by_cases c60 : 0 ≤ x11_4
         rotate_left
         ·
          rw [if_neg c60] at H
          exact absurd H (by simp)
         rw [if_pos c60] at H
         have c60b0 := eq_true c60
         have c60b1 : decide (0 ≤ x11_4) = true := decide_eq_true c60
         clear c60
         by_cases c61 : x11_4 ≤ (y245.length : Int)
         rotate_left
         ·
          rw [if_neg c61] at H
          exact absurd H (by simp)
         rw [if_pos c61] at H
         have c61b0 := eq_true c61
         have c61b1 : decide (x11_4 ≤ (y245.length : Int)) = true := decide_eq_true c61
         clear c61
         obtain ⟨y270, hy270⟩ : ∃ y_ : List Int, y_ = (y245.drop (x11_4 : Int).toNat) := ⟨_, rfl⟩
         replace H : (if (strOfNums t254).toList = (strOfNums y270).toList then (if (t264.length : Int) > 0 then (some true) else (some ((strOfNums t267).toList == (strOfNums l1).toList))) else (some false)) = some r := by first | (rw [hy270]; with_reducible exact H) | (have H2_ := (Option.bind_some _ _).symm.trans H; rw [hy270]; with_reducible exact H2_) | (have H2_ := (Option.bind_some _ _).symm.trans H; with_reducible exact H2_) | with_reducible exact H | (rw [hy270]; exact H) | exact H
         have Ny270 := Aside0.mk hy270
         clear hy270
         by_cases c62 : (strOfNums t254).toList = (strOfNums y270).toList
         rotate_left
         ·
          rw [if_neg c62] at H
          have c62b0 : ((strOfNums t254).toList == (strOfNums y270).toList) = false := beq_eq_false_iff_ne.mpr c62
          have c62b1 : ((strOfNums t254).toList != (strOfNums y270).toList) = true := bne_iff_ne.mpr c62
          obtain rfl := Option.some.inj H
          obtain ⟨Ao84, co84, eo84⟩ := Kd.R_slice HO_8.out
          subst eo84
          go_wp2_with (first | (go_at_call 15; (with_reducible refine (frame_Split.calls k4 (fun k_ => k_ < w.heap.size) _ _ l1 t264 t267 _ ?side1 A59.out).mono ?_); (case side1 => exact Kd.V_mk HC1.out (Kd.F_below (Kd.C_F (Kd.heap_int .u8) HR1.out) (bw_ HB))); rintro e w85 ⟨v265, v268, rfl, ho0, ho1, hb⟩; (try clear A59); have HO266 := Aside0.mk (Kd.S_lower (Kd.S_new' (Kd.S_new' (Kd.S_new' (Kd.S_mono (ok' := fun k_ => some k_ ≠ (v268 : Value).ownBlock) ho0 (fun _ hk_ => hk_.2)) (JX_lt (tJ_ HO_7))) (Kd.S_lt (tS_ HO_9))) (Kd.R_lt (tR_ HO_10))) (below_size (bw_ HB))); have HO269 := Aside0.mk (Kd.R_lower (Kd.R_new' (Kd.R_new' (Kd.R_mono (ok' := fun k_ => True) ho1 (fun _ hk_ => trivial)) (JX_lt (tJ_ HO_7))) (Kd.R_lt (tR_ HO_10))) (below_size (bw_ HB))); replace HO_7 := Aside0.mk (JX_elder' (tJ_ HO_7) (Kd.R_base ho1) hb); replace HO_8 := Aside0.mk (Kd.R_below (tR_ HO_8) hb); replace HO_9 := Aside0.mk (Kd.S_mono (Kd.S_told (Kd.S_told (Kd.S_old (tS_ HO_9) hb) (Kd.S_base ho0)) (Kd.R_base ho1)) (fun _ h_ => h_.1)); replace HO_10 := Aside0.mk (Kd.R_elder' (tR_ HO_10) (Kd.R_base ho1) hb); replace HB := Aside0.mk (below_step (bw_ HB) hb); (try clear hb); (try clear hb2); (try clear hk); (try clear hi); (try clear ho0); (try clear ho1); have hcv86 := own_string (P := Try.prog) Try.underlying22 Try.underlying5 Try.underlying9 (Kd.own_of_R HO_10.out); have hcw87 := fun n_ : Nat => own_string (P := Try.prog) Try.underlying22 Try.underlying5 Try.underlying9 (Kd.own_of_R (Kd.R_drewN HO_10.out n_)); have q88 : (x11_4 : Int) ≤ ((y245.length : Int) : Int) := of_decide_eq_true (by first | (with_reducible assumption) | assumption); obtain ⟨i088, hi088, _, hsz88, _⟩ := info_parts info5; have hroom88 : y245.length ≤ co29 := (JX_reads' HO_7.out).2.1; have hC88 : Kd.C (Kd.int .u8) _ Ao29 y245.length y245 := (JX_reads' HO_7.out).2.2; have q088 : (0 : Int) ≤ (x11_4 : Int) := of_decide_eq_true (by first | (with_reducible assumption) | assumption); have hcut88 := cut_from (P := Try.prog) 22 5 .i64 Try.underlying22 hi088 1 hsz88 Ao29 y245.length co29 x11_4 q088 q88; have hr88 := Kd.C_drop (m := (x11_4 : Int).toNat) (c := co29) hC88 (by omega) hroom88; obtain ⟨A88, hA88⟩ : ∃ A1, A1 = (if co29 = (x11_4 : Int).toNat then Ao29 else (Ao29 : Option Addr).map (·.add ((x11_4 : Int).toNat * 1))) := ⟨_, rfl⟩; obtain ⟨c88, hc88⟩ : ∃ c1, c1 = co29 - (x11_4 : Int).toNat := ⟨_, rfl⟩; have hy88 : y270.length = y245.length - (x11_4 : Int).toNat := (by rw [Ny270.out, l_7] <;> omega); rw [show (y245).drop (x11_4 : Int).toNat = y270 from Ny270.out.symm] at hr88; replace hr88 : Kd.C (Kd.int .u8) _ A88 y270.length y270 := (by rw [hA88]; exact hr88); rw [← hy88, ← hA88, ← hc88] at hcut88; have HR273 := Aside0.mk hr88; have HC273 := Aside0.mk (show y270.length ≤ c88 from by rw [hy88, hc88]; exact Nat.sub_le_sub_right hroom88 _); clear hr88 hC88 hroom88 hi088 hsz88 hc88; have KY88 := Aside0.mk hy88; have KA88 := Aside0.mk hA88; clear hy88 hA88; have KL88 := Aside0.mk (show (x11_4 : Int).toNat ≤ y245.length from by omega); replace q88 := eq_true q88; have hcv89 := Kd.C_string (P := Try.prog) (A := A88) (c := c88) Try.underlying22 Try.underlying5 Try.underlying9 (by repeat (first | (with_reducible exact HR273.out) | (with_reducible refine Kd.C_alloc ?_ _) | (with_reducible refine Kd.C_drewN ?_ _) | (with_reducible refine Kd.C_drew ?_) | exact HR273.out)); have hcw90 := fun n_ : Nat => Kd.C_string (P := Try.prog) (A := A88) (c := c88) Try.underlying22 Try.underlying5 Try.underlying9 (Kd.C_drewN (by repeat (first | (with_reducible exact HR273.out) | (with_reducible refine Kd.C_alloc ?_ _) | (with_reducible refine Kd.C_drewN ?_ _) | (with_reducible refine Kd.C_drew ?_) | exact HR273.out)) n_)))
          repeat (go_quiet (first | (go_at_call 15; (with_reducible refine (frame_Split.calls k4 (fun k_ => k_ < w.heap.size) _ _ l1 t264 t267 _ ?side1 A59.out).mono ?_); (case side1 => exact Kd.V_mk HC1.out (Kd.F_below (Kd.C_F (Kd.heap_int .u8) HR1.out) (bw_ HB))); rintro e w85 ⟨v265, v268, rfl, ho0, ho1, hb⟩; (try clear A59); have HO266 := Aside0.mk (Kd.S_lower (Kd.S_new' (Kd.S_new' (Kd.S_new' (Kd.S_mono (ok' := fun k_ => some k_ ≠ (v268 : Value).ownBlock) ho0 (fun _ hk_ => hk_.2)) (JX_lt (tJ_ HO_7))) (Kd.S_lt (tS_ HO_9))) (Kd.R_lt (tR_ HO_10))) (below_size (bw_ HB))); have HO269 := Aside0.mk (Kd.R_lower (Kd.R_new' (Kd.R_new' (Kd.R_mono (ok' := fun k_ => True) ho1 (fun _ hk_ => trivial)) (JX_lt (tJ_ HO_7))) (Kd.R_lt (tR_ HO_10))) (below_size (bw_ HB))); replace HO_7 := Aside0.mk (JX_elder' (tJ_ HO_7) (Kd.R_base ho1) hb); replace HO_8 := Aside0.mk (Kd.R_below (tR_ HO_8) hb); replace HO_9 := Aside0.mk (Kd.S_mono (Kd.S_told (Kd.S_told (Kd.S_old (tS_ HO_9) hb) (Kd.S_base ho0)) (Kd.R_base ho1)) (fun _ h_ => h_.1)); replace HO_10 := Aside0.mk (Kd.R_elder' (tR_ HO_10) (Kd.R_base ho1) hb); replace HB := Aside0.mk (below_step (bw_ HB) hb); (try clear hb); (try clear hb2); (try clear hk); (try clear hi); (try clear ho0); (try clear ho1); have hcv86 := own_string (P := Try.prog) Try.underlying22 Try.underlying5 Try.underlying9 (Kd.own_of_R HO_10.out); have hcw87 := fun n_ : Nat => own_string (P := Try.prog) Try.underlying22 Try.underlying5 Try.underlying9 (Kd.own_of_R (Kd.R_drewN HO_10.out n_)); have q88 : (x11_4 : Int) ≤ ((y245.length : Int) : Int) := of_decide_eq_true (by first | (with_reducible assumption) | assumption); obtain ⟨i088, hi088, _, hsz88, _⟩ := info_parts info5; have hroom88 : y245.length ≤ co29 := (JX_reads' HO_7.out).2.1; have hC88 : Kd.C (Kd.int .u8) _ Ao29 y245.length y245 := (JX_reads' HO_7.out).2.2; have q088 : (0 : Int) ≤ (x11_4 : Int) := of_decide_eq_true (by first | (with_reducible assumption) | assumption); have hcut88 := cut_from (P := Try.prog) 22 5 .i64 Try.underlying22 hi088 1 hsz88 Ao29 y245.length co29 x11_4 q088 q88; have hr88 := Kd.C_drop (m := (x11_4 : Int).toNat) (c := co29) hC88 (by omega) hroom88; obtain ⟨A88, hA88⟩ : ∃ A1, A1 = (if co29 = (x11_4 : Int).toNat then Ao29 else (Ao29 : Option Addr).map (·.add ((x11_4 : Int).toNat * 1))) := ⟨_, rfl⟩; obtain ⟨c88, hc88⟩ : ∃ c1, c1 = co29 - (x11_4 : Int).toNat := ⟨_, rfl⟩; have hy88 : y270.length = y245.length - (x11_4 : Int).toNat := (by rw [Ny270.out, l_7] <;> omega); rw [show (y245).drop (x11_4 : Int).toNat = y270 from Ny270.out.symm] at hr88; replace hr88 : Kd.C (Kd.int .u8) _ A88 y270.length y270 := (by rw [hA88]; exact hr88); rw [← hy88, ← hA88, ← hc88] at hcut88; have HR273 := Aside0.mk hr88; have HC273 := Aside0.mk (show y270.length ≤ c88 from by rw [hy88, hc88]; exact Nat.sub_le_sub_right hroom88 _); clear hr88 hC88 hroom88 hi088 hsz88 hc88; have KY88 := Aside0.mk hy88; have KA88 := Aside0.mk hA88; clear hy88 hA88; have KL88 := Aside0.mk (show (x11_4 : Int).toNat ≤ y245.length from by omega); replace q88 := eq_true q88; have hcv89 := Kd.C_string (P := Try.prog) (A := A88) (c := c88) Try.underlying22 Try.underlying5 Try.underlying9 (by repeat (first | (with_reducible exact HR273.out) | (with_reducible refine Kd.C_alloc ?_ _) | (with_reducible refine Kd.C_drewN ?_ _) | (with_reducible refine Kd.C_drew ?_) | exact HR273.out)); have hcw90 := fun n_ : Nat => Kd.C_string (P := Try.prog) (A := A88) (c := c88) Try.underlying22 Try.underlying5 Try.underlying9 (Kd.C_drewN (by repeat (first | (with_reducible exact HR273.out) | (with_reducible refine Kd.C_alloc ?_ _) | (with_reducible refine Kd.C_drewN ?_ _) | (with_reducible refine Kd.C_drew ?_) | exact HR273.out)) n_))); try go_wp2_with (first | (go_at_call 15; (with_reducible refine (frame_Split.calls k4 (fun k_ => k_ < w.heap.size) _ _ l1 t264 t267 _ ?side1 A59.out).mono ?_); (case side1 => exact Kd.V_mk HC1.out (Kd.F_below (Kd.C_F (Kd.heap_int .u8) HR1.out) (bw_ HB))); rintro e w85 ⟨v265, v268, rfl, ho0, ho1, hb⟩; (try clear A59); have HO266 := Aside0.mk (Kd.S_lower (Kd.S_new' (Kd.S_new' (Kd.S_new' (Kd.S_mono (ok' := fun k_ => some k_ ≠ (v268 : Value).ownBlock) ho0 (fun _ hk_ => hk_.2)) (JX_lt (tJ_ HO_7))) (Kd.S_lt (tS_ HO_9))) (Kd.R_lt (tR_ HO_10))) (below_size (bw_ HB))); have HO269 := Aside0.mk (Kd.R_lower (Kd.R_new' (Kd.R_new' (Kd.R_mono (ok' := fun k_ => True) ho1 (fun _ hk_ => trivial)) (JX_lt (tJ_ HO_7))) (Kd.R_lt (tR_ HO_10))) (below_size (bw_ HB))); replace HO_7 := Aside0.mk (JX_elder' (tJ_ HO_7) (Kd.R_base ho1) hb); replace HO_8 := Aside0.mk (Kd.R_below (tR_ HO_8) hb); replace HO_9 := Aside0.mk (Kd.S_mono (Kd.S_told (Kd.S_told (Kd.S_old (tS_ HO_9) hb) (Kd.S_base ho0)) (Kd.R_base ho1)) (fun _ h_ => h_.1)); replace HO_10 := Aside0.mk (Kd.R_elder' (tR_ HO_10) (Kd.R_base ho1) hb); replace HB := Aside0.mk (below_step (bw_ HB) hb); (try clear hb); (try clear hb2); (try clear hk); (try clear hi); (try clear ho0); (try clear ho1); have hcv86 := own_string (P := Try.prog) Try.underlying22 Try.underlying5 Try.underlying9 (Kd.own_of_R HO_10.out); have hcw87 := fun n_ : Nat => own_string (P := Try.prog) Try.underlying22 Try.underlying5 Try.underlying9 (Kd.own_of_R (Kd.R_drewN HO_10.out n_)); have q88 : (x11_4 : Int) ≤ ((y245.length : Int) : Int) := of_decide_eq_true (by first | (with_reducible assumption) | assumption); obtain ⟨i088, hi088, _, hsz88, _⟩ := info_parts info5; have hroom88 : y245.length ≤ co29 := (JX_reads' HO_7.out).2.1; have hC88 : Kd.C (Kd.int .u8) _ Ao29 y245.length y245 := (JX_reads' HO_7.out).2.2; have q088 : (0 : Int) ≤ (x11_4 : Int) := of_decide_eq_true (by first | (with_reducible assumption) | assumption); have hcut88 := cut_from (P := Try.prog) 22 5 .i64 Try.underlying22 hi088 1 hsz88 Ao29 y245.length co29 x11_4 q088 q88; have hr88 := Kd.C_drop (m := (x11_4 : Int).toNat) (c := co29) hC88 (by omega) hroom88; obtain ⟨A88, hA88⟩ : ∃ A1, A1 = (if co29 = (x11_4 : Int).toNat then Ao29 else (Ao29 : Option Addr).map (·.add ((x11_4 : Int).toNat * 1))) := ⟨_, rfl⟩; obtain ⟨c88, hc88⟩ : ∃ c1, c1 = co29 - (x11_4 : Int).toNat := ⟨_, rfl⟩; have hy88 : y270.length = y245.length - (x11_4 : Int).toNat := (by rw [Ny270.out, l_7] <;> omega); rw [show (y245).drop (x11_4 : Int).toNat = y270 from Ny270.out.symm] at hr88; replace hr88 : Kd.C (Kd.int .u8) _ A88 y270.length y270 := (by rw [hA88]; exact hr88); rw [← hy88, ← hA88, ← hc88] at hcut88; have HR273 := Aside0.mk hr88; have HC273 := Aside0.mk (show y270.length ≤ c88 from by rw [hy88, hc88]; exact Nat.sub_le_sub_right hroom88 _); clear hr88 hC88 hroom88 hi088 hsz88 hc88; have KY88 := Aside0.mk hy88; have KA88 := Aside0.mk hA88; clear hy88 hA88; have KL88 := Aside0.mk (show (x11_4 : Int).toNat ≤ y245.length from by omega); replace q88 := eq_true q88; have hcv89 := Kd.C_string (P := Try.prog) (A := A88) (c := c88) Try.underlying22 Try.underlying5 Try.underlying9 (by repeat (first | (with_reducible exact HR273.out) | (with_reducible refine Kd.C_alloc ?_ _) | (with_reducible refine Kd.C_drewN ?_ _) | (with_reducible refine Kd.C_drew ?_) | exact HR273.out)); have hcw90 := fun n_ : Nat => Kd.C_string (P := Try.prog) (A := A88) (c := c88) Try.underlying22 Try.underlying5 Try.underlying9 (Kd.C_drewN (by repeat (first | (with_reducible exact HR273.out) | (with_reducible refine Kd.C_alloc ?_ _) | (with_reducible refine Kd.C_drewN ?_ _) | (with_reducible refine Kd.C_drew ?_) | exact HR273.out)) n_))))
          go_ret
          exact ⟨by first | rfl | (simp [errW_none, errW_some] <;> rfl) | (simp [*, errW_none, errW_some] <;> rfl), by repeat (first | (with_reducible first | exact HB.out | apply b_a | apply b_n | apply b_d) | exact HB.out)⟩
         rw [if_pos c62] at H
         have c62b0 : ((strOfNums t254).toList == (strOfNums y270).toList) = true := beq_iff_eq.mpr c62
         have c62b1 : ((strOfNums t254).toList != (strOfNums y270).toList) = false := bne_eq_false_iff_eq.mpr c62
         clear c62
         by_cases c63 : (t264.length : Int) > 0
         ·
          rw [if_pos c63] at H
          have c63b0 : decide (0 < (t264.length : Int)) = true := decide_eq_true c63
          have c63b1 : decide (0 < t264.length) = true := decide_eq_true (by omega)
          clear c63
          obtain rfl := Option.some.inj H
          obtain ⟨Ao64, co64, eo64⟩ := Kd.R_slice HO_8.out
          subst eo64
          go_wp2_with (first | (go_at_call 15; (with_reducible refine (frame_Split.calls k4 (fun k_ => k_ < w.heap.size) _ _ l1 t264 t267 _ ?side1 A59.out).mono ?_); (case side1 => exact Kd.V_mk HC1.out (Kd.F_below (Kd.C_F (Kd.heap_int .u8) HR1.out) (bw_ HB))); rintro e w65 ⟨v265, v268, rfl, ho0, ho1, hb⟩; (try clear A59); have HO266 := Aside0.mk (Kd.S_lower (Kd.S_new' (Kd.S_new' (Kd.S_new' (Kd.S_mono (ok' := fun k_ => some k_ ≠ (v268 : Value).ownBlock) ho0 (fun _ hk_ => hk_.2)) (JX_lt (tJ_ HO_7))) (Kd.S_lt (tS_ HO_9))) (Kd.R_lt (tR_ HO_10))) (below_size (bw_ HB))); have HO269 := Aside0.mk (Kd.R_lower (Kd.R_new' (Kd.R_new' (Kd.R_mono (ok' := fun k_ => True) ho1 (fun _ hk_ => trivial)) (JX_lt (tJ_ HO_7))) (Kd.R_lt (tR_ HO_10))) (below_size (bw_ HB))); replace HO_7 := Aside0.mk (JX_elder' (tJ_ HO_7) (Kd.R_base ho1) hb); replace HO_8 := Aside0.mk (Kd.R_below (tR_ HO_8) hb); replace HO_9 := Aside0.mk (Kd.S_mono (Kd.S_told (Kd.S_told (Kd.S_old (tS_ HO_9) hb) (Kd.S_base ho0)) (Kd.R_base ho1)) (fun _ h_ => h_.1)); replace HO_10 := Aside0.mk (Kd.R_elder' (tR_ HO_10) (Kd.R_base ho1) hb); replace HB := Aside0.mk (below_step (bw_ HB) hb); (try clear hb); (try clear hb2); (try clear hk); (try clear hi); (try clear ho0); (try clear ho1); have hcv66 := own_string (P := Try.prog) Try.underlying22 Try.underlying5 Try.underlying9 (Kd.own_of_R HO_10.out); have hcw67 := fun n_ : Nat => own_string (P := Try.prog) Try.underlying22 Try.underlying5 Try.underlying9 (Kd.own_of_R (Kd.R_drewN HO_10.out n_)); have q68 : (x11_4 : Int) ≤ ((y245.length : Int) : Int) := of_decide_eq_true (by first | (with_reducible assumption) | assumption); obtain ⟨i068, hi068, _, hsz68, _⟩ := info_parts info5; have hroom68 : y245.length ≤ co29 := (JX_reads' HO_7.out).2.1; have hC68 : Kd.C (Kd.int .u8) _ Ao29 y245.length y245 := (JX_reads' HO_7.out).2.2; have q068 : (0 : Int) ≤ (x11_4 : Int) := of_decide_eq_true (by first | (with_reducible assumption) | assumption); have hcut68 := cut_from (P := Try.prog) 22 5 .i64 Try.underlying22 hi068 1 hsz68 Ao29 y245.length co29 x11_4 q068 q68; have hr68 := Kd.C_drop (m := (x11_4 : Int).toNat) (c := co29) hC68 (by omega) hroom68; obtain ⟨A68, hA68⟩ : ∃ A1, A1 = (if co29 = (x11_4 : Int).toNat then Ao29 else (Ao29 : Option Addr).map (·.add ((x11_4 : Int).toNat * 1))) := ⟨_, rfl⟩; obtain ⟨c68, hc68⟩ : ∃ c1, c1 = co29 - (x11_4 : Int).toNat := ⟨_, rfl⟩; have hy68 : y270.length = y245.length - (x11_4 : Int).toNat := (by rw [Ny270.out, l_7] <;> omega); rw [show (y245).drop (x11_4 : Int).toNat = y270 from Ny270.out.symm] at hr68; replace hr68 : Kd.C (Kd.int .u8) _ A68 y270.length y270 := (by rw [hA68]; exact hr68); rw [← hy68, ← hA68, ← hc68] at hcut68; have HR273 := Aside0.mk hr68; have HC273 := Aside0.mk (show y270.length ≤ c68 from by rw [hy68, hc68]; exact Nat.sub_le_sub_right hroom68 _); clear hr68 hC68 hroom68 hi068 hsz68 hc68; have KY68 := Aside0.mk hy68; have KA68 := Aside0.mk hA68; clear hy68 hA68; have KL68 := Aside0.mk (show (x11_4 : Int).toNat ≤ y245.length from by omega); replace q68 := eq_true q68; have hcv69 := Kd.C_string (P := Try.prog) (A := A68) (c := c68) Try.underlying22 Try.underlying5 Try.underlying9 (by repeat (first | (with_reducible exact HR273.out) | (with_reducible refine Kd.C_alloc ?_ _) | (with_reducible refine Kd.C_drewN ?_ _) | (with_reducible refine Kd.C_drew ?_) | exact HR273.out)); have hcw70 := fun n_ : Nat => Kd.C_string (P := Try.prog) (A := A68) (c := c68) Try.underlying22 Try.underlying5 Try.underlying9 (Kd.C_drewN (by repeat (first | (with_reducible exact HR273.out) | (with_reducible refine Kd.C_alloc ?_ _) | (with_reducible refine Kd.C_drewN ?_ _) | (with_reducible refine Kd.C_drew ?_) | exact HR273.out)) n_); obtain ⟨Ao71, co71, eo71⟩ := Kd.S_slice HO266.out; subst eo71))
          repeat (go_quiet (first | (go_at_call 15; (with_reducible refine (frame_Split.calls k4 (fun k_ => k_ < w.heap.size) _ _ l1 t264 t267 _ ?side1 A59.out).mono ?_); (case side1 => exact Kd.V_mk HC1.out (Kd.F_below (Kd.C_F (Kd.heap_int .u8) HR1.out) (bw_ HB))); rintro e w65 ⟨v265, v268, rfl, ho0, ho1, hb⟩; (try clear A59); have HO266 := Aside0.mk (Kd.S_lower (Kd.S_new' (Kd.S_new' (Kd.S_new' (Kd.S_mono (ok' := fun k_ => some k_ ≠ (v268 : Value).ownBlock) ho0 (fun _ hk_ => hk_.2)) (JX_lt (tJ_ HO_7))) (Kd.S_lt (tS_ HO_9))) (Kd.R_lt (tR_ HO_10))) (below_size (bw_ HB))); have HO269 := Aside0.mk (Kd.R_lower (Kd.R_new' (Kd.R_new' (Kd.R_mono (ok' := fun k_ => True) ho1 (fun _ hk_ => trivial)) (JX_lt (tJ_ HO_7))) (Kd.R_lt (tR_ HO_10))) (below_size (bw_ HB))); replace HO_7 := Aside0.mk (JX_elder' (tJ_ HO_7) (Kd.R_base ho1) hb); replace HO_8 := Aside0.mk (Kd.R_below (tR_ HO_8) hb); replace HO_9 := Aside0.mk (Kd.S_mono (Kd.S_told (Kd.S_told (Kd.S_old (tS_ HO_9) hb) (Kd.S_base ho0)) (Kd.R_base ho1)) (fun _ h_ => h_.1)); replace HO_10 := Aside0.mk (Kd.R_elder' (tR_ HO_10) (Kd.R_base ho1) hb); replace HB := Aside0.mk (below_step (bw_ HB) hb); (try clear hb); (try clear hb2); (try clear hk); (try clear hi); (try clear ho0); (try clear ho1); have hcv66 := own_string (P := Try.prog) Try.underlying22 Try.underlying5 Try.underlying9 (Kd.own_of_R HO_10.out); have hcw67 := fun n_ : Nat => own_string (P := Try.prog) Try.underlying22 Try.underlying5 Try.underlying9 (Kd.own_of_R (Kd.R_drewN HO_10.out n_)); have q68 : (x11_4 : Int) ≤ ((y245.length : Int) : Int) := of_decide_eq_true (by first | (with_reducible assumption) | assumption); obtain ⟨i068, hi068, _, hsz68, _⟩ := info_parts info5; have hroom68 : y245.length ≤ co29 := (JX_reads' HO_7.out).2.1; have hC68 : Kd.C (Kd.int .u8) _ Ao29 y245.length y245 := (JX_reads' HO_7.out).2.2; have q068 : (0 : Int) ≤ (x11_4 : Int) := of_decide_eq_true (by first | (with_reducible assumption) | assumption); have hcut68 := cut_from (P := Try.prog) 22 5 .i64 Try.underlying22 hi068 1 hsz68 Ao29 y245.length co29 x11_4 q068 q68; have hr68 := Kd.C_drop (m := (x11_4 : Int).toNat) (c := co29) hC68 (by omega) hroom68; obtain ⟨A68, hA68⟩ : ∃ A1, A1 = (if co29 = (x11_4 : Int).toNat then Ao29 else (Ao29 : Option Addr).map (·.add ((x11_4 : Int).toNat * 1))) := ⟨_, rfl⟩; obtain ⟨c68, hc68⟩ : ∃ c1, c1 = co29 - (x11_4 : Int).toNat := ⟨_, rfl⟩; have hy68 : y270.length = y245.length - (x11_4 : Int).toNat := (by rw [Ny270.out, l_7] <;> omega); rw [show (y245).drop (x11_4 : Int).toNat = y270 from Ny270.out.symm] at hr68; replace hr68 : Kd.C (Kd.int .u8) _ A68 y270.length y270 := (by rw [hA68]; exact hr68); rw [← hy68, ← hA68, ← hc68] at hcut68; have HR273 := Aside0.mk hr68; have HC273 := Aside0.mk (show y270.length ≤ c68 from by rw [hy68, hc68]; exact Nat.sub_le_sub_right hroom68 _); clear hr68 hC68 hroom68 hi068 hsz68 hc68; have KY68 := Aside0.mk hy68; have KA68 := Aside0.mk hA68; clear hy68 hA68; have KL68 := Aside0.mk (show (x11_4 : Int).toNat ≤ y245.length from by omega); replace q68 := eq_true q68; have hcv69 := Kd.C_string (P := Try.prog) (A := A68) (c := c68) Try.underlying22 Try.underlying5 Try.underlying9 (by repeat (first | (with_reducible exact HR273.out) | (with_reducible refine Kd.C_alloc ?_ _) | (with_reducible refine Kd.C_drewN ?_ _) | (with_reducible refine Kd.C_drew ?_) | exact HR273.out)); have hcw70 := fun n_ : Nat => Kd.C_string (P := Try.prog) (A := A68) (c := c68) Try.underlying22 Try.underlying5 Try.underlying9 (Kd.C_drewN (by repeat (first | (with_reducible exact HR273.out) | (with_reducible refine Kd.C_alloc ?_ _) | (with_reducible refine Kd.C_drewN ?_ _) | (with_reducible refine Kd.C_drew ?_) | exact HR273.out)) n_); obtain ⟨Ao71, co71, eo71⟩ := Kd.S_slice HO266.out; subst eo71)); try go_wp2_with (first | (go_at_call 15; (with_reducible refine (frame_Split.calls k4 (fun k_ => k_ < w.heap.size) _ _ l1 t264 t267 _ ?side1 A59.out).mono ?_); (case side1 => exact Kd.V_mk HC1.out (Kd.F_below (Kd.C_F (Kd.heap_int .u8) HR1.out) (bw_ HB))); rintro e w65 ⟨v265, v268, rfl, ho0, ho1, hb⟩; (try clear A59); have HO266 := Aside0.mk (Kd.S_lower (Kd.S_new' (Kd.S_new' (Kd.S_new' (Kd.S_mono (ok' := fun k_ => some k_ ≠ (v268 : Value).ownBlock) ho0 (fun _ hk_ => hk_.2)) (JX_lt (tJ_ HO_7))) (Kd.S_lt (tS_ HO_9))) (Kd.R_lt (tR_ HO_10))) (below_size (bw_ HB))); have HO269 := Aside0.mk (Kd.R_lower (Kd.R_new' (Kd.R_new' (Kd.R_mono (ok' := fun k_ => True) ho1 (fun _ hk_ => trivial)) (JX_lt (tJ_ HO_7))) (Kd.R_lt (tR_ HO_10))) (below_size (bw_ HB))); replace HO_7 := Aside0.mk (JX_elder' (tJ_ HO_7) (Kd.R_base ho1) hb); replace HO_8 := Aside0.mk (Kd.R_below (tR_ HO_8) hb); replace HO_9 := Aside0.mk (Kd.S_mono (Kd.S_told (Kd.S_told (Kd.S_old (tS_ HO_9) hb) (Kd.S_base ho0)) (Kd.R_base ho1)) (fun _ h_ => h_.1)); replace HO_10 := Aside0.mk (Kd.R_elder' (tR_ HO_10) (Kd.R_base ho1) hb); replace HB := Aside0.mk (below_step (bw_ HB) hb); (try clear hb); (try clear hb2); (try clear hk); (try clear hi); (try clear ho0); (try clear ho1); have hcv66 := own_string (P := Try.prog) Try.underlying22 Try.underlying5 Try.underlying9 (Kd.own_of_R HO_10.out); have hcw67 := fun n_ : Nat => own_string (P := Try.prog) Try.underlying22 Try.underlying5 Try.underlying9 (Kd.own_of_R (Kd.R_drewN HO_10.out n_)); have q68 : (x11_4 : Int) ≤ ((y245.length : Int) : Int) := of_decide_eq_true (by first | (with_reducible assumption) | assumption); obtain ⟨i068, hi068, _, hsz68, _⟩ := info_parts info5; have hroom68 : y245.length ≤ co29 := (JX_reads' HO_7.out).2.1; have hC68 : Kd.C (Kd.int .u8) _ Ao29 y245.length y245 := (JX_reads' HO_7.out).2.2; have q068 : (0 : Int) ≤ (x11_4 : Int) := of_decide_eq_true (by first | (with_reducible assumption) | assumption); have hcut68 := cut_from (P := Try.prog) 22 5 .i64 Try.underlying22 hi068 1 hsz68 Ao29 y245.length co29 x11_4 q068 q68; have hr68 := Kd.C_drop (m := (x11_4 : Int).toNat) (c := co29) hC68 (by omega) hroom68; obtain ⟨A68, hA68⟩ : ∃ A1, A1 = (if co29 = (x11_4 : Int).toNat then Ao29 else (Ao29 : Option Addr).map (·.add ((x11_4 : Int).toNat * 1))) := ⟨_, rfl⟩; obtain ⟨c68, hc68⟩ : ∃ c1, c1 = co29 - (x11_4 : Int).toNat := ⟨_, rfl⟩; have hy68 : y270.length = y245.length - (x11_4 : Int).toNat := (by rw [Ny270.out, l_7] <;> omega); rw [show (y245).drop (x11_4 : Int).toNat = y270 from Ny270.out.symm] at hr68; replace hr68 : Kd.C (Kd.int .u8) _ A68 y270.length y270 := (by rw [hA68]; exact hr68); rw [← hy68, ← hA68, ← hc68] at hcut68; have HR273 := Aside0.mk hr68; have HC273 := Aside0.mk (show y270.length ≤ c68 from by rw [hy68, hc68]; exact Nat.sub_le_sub_right hroom68 _); clear hr68 hC68 hroom68 hi068 hsz68 hc68; have KY68 := Aside0.mk hy68; have KA68 := Aside0.mk hA68; clear hy68 hA68; have KL68 := Aside0.mk (show (x11_4 : Int).toNat ≤ y245.length from by omega); replace q68 := eq_true q68; have hcv69 := Kd.C_string (P := Try.prog) (A := A68) (c := c68) Try.underlying22 Try.underlying5 Try.underlying9 (by repeat (first | (with_reducible exact HR273.out) | (with_reducible refine Kd.C_alloc ?_ _) | (with_reducible refine Kd.C_drewN ?_ _) | (with_reducible refine Kd.C_drew ?_) | exact HR273.out)); have hcw70 := fun n_ : Nat => Kd.C_string (P := Try.prog) (A := A68) (c := c68) Try.underlying22 Try.underlying5 Try.underlying9 (Kd.C_drewN (by repeat (first | (with_reducible exact HR273.out) | (with_reducible refine Kd.C_alloc ?_ _) | (with_reducible refine Kd.C_drewN ?_ _) | (with_reducible refine Kd.C_drew ?_) | exact HR273.out)) n_); obtain ⟨Ao71, co71, eo71⟩ := Kd.S_slice HO266.out; subst eo71)))
          go_ret
          exact ⟨by first | rfl | (simp [errW_none, errW_some] <;> rfl) | (simp [*, errW_none, errW_some] <;> rfl), by repeat (first | (with_reducible first | exact HB.out | apply b_a | apply b_n | apply b_d) | exact HB.out)⟩
         rw [if_neg c63] at H
         have c63b0 : decide (0 < (t264.length : Int)) = false := decide_eq_false c63
         have c63b1 : decide (0 < t264.length) = false := decide_eq_false (by omega)
         clear c63
         obtain rfl := Option.some.inj H
         obtain ⟨Ao72, co72, eo72⟩ := Kd.R_slice HO_8.out
         subst eo72
         go_wp2_with (first | (go_at_call 15; (with_reducible refine (frame_Split.calls k4 (fun k_ => k_ < w.heap.size) _ _ l1 t264 t267 _ ?side1 A59.out).mono ?_); (case side1 => exact Kd.V_mk HC1.out (Kd.F_below (Kd.C_F (Kd.heap_int .u8) HR1.out) (bw_ HB))); rintro e w73 ⟨v265, v268, rfl, ho0, ho1, hb⟩; (try clear A59); have HO266 := Aside0.mk (Kd.S_lower (Kd.S_new' (Kd.S_new' (Kd.S_new' (Kd.S_mono (ok' := fun k_ => some k_ ≠ (v268 : Value).ownBlock) ho0 (fun _ hk_ => hk_.2)) (JX_lt (tJ_ HO_7))) (Kd.S_lt (tS_ HO_9))) (Kd.R_lt (tR_ HO_10))) (below_size (bw_ HB))); have HO269 := Aside0.mk (Kd.R_lower (Kd.R_new' (Kd.R_new' (Kd.R_mono (ok' := fun k_ => True) ho1 (fun _ hk_ => trivial)) (JX_lt (tJ_ HO_7))) (Kd.R_lt (tR_ HO_10))) (below_size (bw_ HB))); replace HO_7 := Aside0.mk (JX_elder' (tJ_ HO_7) (Kd.R_base ho1) hb); replace HO_8 := Aside0.mk (Kd.R_below (tR_ HO_8) hb); replace HO_9 := Aside0.mk (Kd.S_mono (Kd.S_told (Kd.S_told (Kd.S_old (tS_ HO_9) hb) (Kd.S_base ho0)) (Kd.R_base ho1)) (fun _ h_ => h_.1)); replace HO_10 := Aside0.mk (Kd.R_elder' (tR_ HO_10) (Kd.R_base ho1) hb); replace HB := Aside0.mk (below_step (bw_ HB) hb); (try clear hb); (try clear hb2); (try clear hk); (try clear hi); (try clear ho0); (try clear ho1); have hcv74 := own_string (P := Try.prog) Try.underlying22 Try.underlying5 Try.underlying9 (Kd.own_of_R HO_10.out); have hcw75 := fun n_ : Nat => own_string (P := Try.prog) Try.underlying22 Try.underlying5 Try.underlying9 (Kd.own_of_R (Kd.R_drewN HO_10.out n_)); have q76 : (x11_4 : Int) ≤ ((y245.length : Int) : Int) := of_decide_eq_true (by first | (with_reducible assumption) | assumption); obtain ⟨i076, hi076, _, hsz76, _⟩ := info_parts info5; have hroom76 : y245.length ≤ co29 := (JX_reads' HO_7.out).2.1; have hC76 : Kd.C (Kd.int .u8) _ Ao29 y245.length y245 := (JX_reads' HO_7.out).2.2; have q076 : (0 : Int) ≤ (x11_4 : Int) := of_decide_eq_true (by first | (with_reducible assumption) | assumption); have hcut76 := cut_from (P := Try.prog) 22 5 .i64 Try.underlying22 hi076 1 hsz76 Ao29 y245.length co29 x11_4 q076 q76; have hr76 := Kd.C_drop (m := (x11_4 : Int).toNat) (c := co29) hC76 (by omega) hroom76; obtain ⟨A76, hA76⟩ : ∃ A1, A1 = (if co29 = (x11_4 : Int).toNat then Ao29 else (Ao29 : Option Addr).map (·.add ((x11_4 : Int).toNat * 1))) := ⟨_, rfl⟩; obtain ⟨c76, hc76⟩ : ∃ c1, c1 = co29 - (x11_4 : Int).toNat := ⟨_, rfl⟩; have hy76 : y270.length = y245.length - (x11_4 : Int).toNat := (by rw [Ny270.out, l_7] <;> omega); rw [show (y245).drop (x11_4 : Int).toNat = y270 from Ny270.out.symm] at hr76; replace hr76 : Kd.C (Kd.int .u8) _ A76 y270.length y270 := (by rw [hA76]; exact hr76); rw [← hy76, ← hA76, ← hc76] at hcut76; have HR273 := Aside0.mk hr76; have HC273 := Aside0.mk (show y270.length ≤ c76 from by rw [hy76, hc76]; exact Nat.sub_le_sub_right hroom76 _); clear hr76 hC76 hroom76 hi076 hsz76 hc76; have KY76 := Aside0.mk hy76; have KA76 := Aside0.mk hA76; clear hy76 hA76; have KL76 := Aside0.mk (show (x11_4 : Int).toNat ≤ y245.length from by omega); replace q76 := eq_true q76; have hcv77 := Kd.C_string (P := Try.prog) (A := A76) (c := c76) Try.underlying22 Try.underlying5 Try.underlying9 (by repeat (first | (with_reducible exact HR273.out) | (with_reducible refine Kd.C_alloc ?_ _) | (with_reducible refine Kd.C_drewN ?_ _) | (with_reducible refine Kd.C_drew ?_) | exact HR273.out)); have hcw78 := fun n_ : Nat => Kd.C_string (P := Try.prog) (A := A76) (c := c76) Try.underlying22 Try.underlying5 Try.underlying9 (Kd.C_drewN (by repeat (first | (with_reducible exact HR273.out) | (with_reducible refine Kd.C_alloc ?_ _) | (with_reducible refine Kd.C_drewN ?_ _) | (with_reducible refine Kd.C_drew ?_) | exact HR273.out)) n_); obtain ⟨Ao79, co79, eo79⟩ := Kd.S_slice HO266.out; subst eo79; have hcv80 := own_string (P := Try.prog) Try.underlying22 Try.underlying5 Try.underlying9 (Kd.own_of_R HO269.out); have hcw81 := fun n_ : Nat => own_string (P := Try.prog) Try.underlying22 Try.underlying5 Try.underlying9 (Kd.own_of_R (Kd.R_drewN HO269.out n_)); have hcv82 := Kd.C_string (P := Try.prog) (A := A1) (c := c1) Try.underlying22 Try.underlying5 Try.underlying9 (Kd.C_below HR1.out HB.out); have hcw83 := fun n_ : Nat => Kd.C_string (P := Try.prog) (A := A1) (c := c1) Try.underlying22 Try.underlying5 Try.underlying9 (Kd.C_drewN (Kd.C_below HR1.out HB.out) n_)))
         repeat (go_quiet (first | (go_at_call 15; (with_reducible refine (frame_Split.calls k4 (fun k_ => k_ < w.heap.size) _ _ l1 t264 t267 _ ?side1 A59.out).mono ?_); (case side1 => exact Kd.V_mk HC1.out (Kd.F_below (Kd.C_F (Kd.heap_int .u8) HR1.out) (bw_ HB))); rintro e w73 ⟨v265, v268, rfl, ho0, ho1, hb⟩; (try clear A59); have HO266 := Aside0.mk (Kd.S_lower (Kd.S_new' (Kd.S_new' (Kd.S_new' (Kd.S_mono (ok' := fun k_ => some k_ ≠ (v268 : Value).ownBlock) ho0 (fun _ hk_ => hk_.2)) (JX_lt (tJ_ HO_7))) (Kd.S_lt (tS_ HO_9))) (Kd.R_lt (tR_ HO_10))) (below_size (bw_ HB))); have HO269 := Aside0.mk (Kd.R_lower (Kd.R_new' (Kd.R_new' (Kd.R_mono (ok' := fun k_ => True) ho1 (fun _ hk_ => trivial)) (JX_lt (tJ_ HO_7))) (Kd.R_lt (tR_ HO_10))) (below_size (bw_ HB))); replace HO_7 := Aside0.mk (JX_elder' (tJ_ HO_7) (Kd.R_base ho1) hb); replace HO_8 := Aside0.mk (Kd.R_below (tR_ HO_8) hb); replace HO_9 := Aside0.mk (Kd.S_mono (Kd.S_told (Kd.S_told (Kd.S_old (tS_ HO_9) hb) (Kd.S_base ho0)) (Kd.R_base ho1)) (fun _ h_ => h_.1)); replace HO_10 := Aside0.mk (Kd.R_elder' (tR_ HO_10) (Kd.R_base ho1) hb); replace HB := Aside0.mk (below_step (bw_ HB) hb); (try clear hb); (try clear hb2); (try clear hk); (try clear hi); (try clear ho0); (try clear ho1); have hcv74 := own_string (P := Try.prog) Try.underlying22 Try.underlying5 Try.underlying9 (Kd.own_of_R HO_10.out); have hcw75 := fun n_ : Nat => own_string (P := Try.prog) Try.underlying22 Try.underlying5 Try.underlying9 (Kd.own_of_R (Kd.R_drewN HO_10.out n_)); have q76 : (x11_4 : Int) ≤ ((y245.length : Int) : Int) := of_decide_eq_true (by first | (with_reducible assumption) | assumption); obtain ⟨i076, hi076, _, hsz76, _⟩ := info_parts info5; have hroom76 : y245.length ≤ co29 := (JX_reads' HO_7.out).2.1; have hC76 : Kd.C (Kd.int .u8) _ Ao29 y245.length y245 := (JX_reads' HO_7.out).2.2; have q076 : (0 : Int) ≤ (x11_4 : Int) := of_decide_eq_true (by first | (with_reducible assumption) | assumption); have hcut76 := cut_from (P := Try.prog) 22 5 .i64 Try.underlying22 hi076 1 hsz76 Ao29 y245.length co29 x11_4 q076 q76; have hr76 := Kd.C_drop (m := (x11_4 : Int).toNat) (c := co29) hC76 (by omega) hroom76; obtain ⟨A76, hA76⟩ : ∃ A1, A1 = (if co29 = (x11_4 : Int).toNat then Ao29 else (Ao29 : Option Addr).map (·.add ((x11_4 : Int).toNat * 1))) := ⟨_, rfl⟩; obtain ⟨c76, hc76⟩ : ∃ c1, c1 = co29 - (x11_4 : Int).toNat := ⟨_, rfl⟩; have hy76 : y270.length = y245.length - (x11_4 : Int).toNat := (by rw [Ny270.out, l_7] <;> omega); rw [show (y245).drop (x11_4 : Int).toNat = y270 from Ny270.out.symm] at hr76; replace hr76 : Kd.C (Kd.int .u8) _ A76 y270.length y270 := (by rw [hA76]; exact hr76); rw [← hy76, ← hA76, ← hc76] at hcut76; have HR273 := Aside0.mk hr76; have HC273 := Aside0.mk (show y270.length ≤ c76 from by rw [hy76, hc76]; exact Nat.sub_le_sub_right hroom76 _); clear hr76 hC76 hroom76 hi076 hsz76 hc76; have KY76 := Aside0.mk hy76; have KA76 := Aside0.mk hA76; clear hy76 hA76; have KL76 := Aside0.mk (show (x11_4 : Int).toNat ≤ y245.length from by omega); replace q76 := eq_true q76; have hcv77 := Kd.C_string (P := Try.prog) (A := A76) (c := c76) Try.underlying22 Try.underlying5 Try.underlying9 (by repeat (first | (with_reducible exact HR273.out) | (with_reducible refine Kd.C_alloc ?_ _) | (with_reducible refine Kd.C_drewN ?_ _) | (with_reducible refine Kd.C_drew ?_) | exact HR273.out)); have hcw78 := fun n_ : Nat => Kd.C_string (P := Try.prog) (A := A76) (c := c76) Try.underlying22 Try.underlying5 Try.underlying9 (Kd.C_drewN (by repeat (first | (with_reducible exact HR273.out) | (with_reducible refine Kd.C_alloc ?_ _) | (with_reducible refine Kd.C_drewN ?_ _) | (with_reducible refine Kd.C_drew ?_) | exact HR273.out)) n_); obtain ⟨Ao79, co79, eo79⟩ := Kd.S_slice HO266.out; subst eo79; have hcv80 := own_string (P := Try.prog) Try.underlying22 Try.underlying5 Try.underlying9 (Kd.own_of_R HO269.out); have hcw81 := fun n_ : Nat => own_string (P := Try.prog) Try.underlying22 Try.underlying5 Try.underlying9 (Kd.own_of_R (Kd.R_drewN HO269.out n_)); have hcv82 := Kd.C_string (P := Try.prog) (A := A1) (c := c1) Try.underlying22 Try.underlying5 Try.underlying9 (Kd.C_below HR1.out HB.out); have hcw83 := fun n_ : Nat => Kd.C_string (P := Try.prog) (A := A1) (c := c1) Try.underlying22 Try.underlying5 Try.underlying9 (Kd.C_drewN (Kd.C_below HR1.out HB.out) n_))); try go_wp2_with (first | (go_at_call 15; (with_reducible refine (frame_Split.calls k4 (fun k_ => k_ < w.heap.size) _ _ l1 t264 t267 _ ?side1 A59.out).mono ?_); (case side1 => exact Kd.V_mk HC1.out (Kd.F_below (Kd.C_F (Kd.heap_int .u8) HR1.out) (bw_ HB))); rintro e w73 ⟨v265, v268, rfl, ho0, ho1, hb⟩; (try clear A59); have HO266 := Aside0.mk (Kd.S_lower (Kd.S_new' (Kd.S_new' (Kd.S_new' (Kd.S_mono (ok' := fun k_ => some k_ ≠ (v268 : Value).ownBlock) ho0 (fun _ hk_ => hk_.2)) (JX_lt (tJ_ HO_7))) (Kd.S_lt (tS_ HO_9))) (Kd.R_lt (tR_ HO_10))) (below_size (bw_ HB))); have HO269 := Aside0.mk (Kd.R_lower (Kd.R_new' (Kd.R_new' (Kd.R_mono (ok' := fun k_ => True) ho1 (fun _ hk_ => trivial)) (JX_lt (tJ_ HO_7))) (Kd.R_lt (tR_ HO_10))) (below_size (bw_ HB))); replace HO_7 := Aside0.mk (JX_elder' (tJ_ HO_7) (Kd.R_base ho1) hb); replace HO_8 := Aside0.mk (Kd.R_below (tR_ HO_8) hb); replace HO_9 := Aside0.mk (Kd.S_mono (Kd.S_told (Kd.S_told (Kd.S_old (tS_ HO_9) hb) (Kd.S_base ho0)) (Kd.R_base ho1)) (fun _ h_ => h_.1)); replace HO_10 := Aside0.mk (Kd.R_elder' (tR_ HO_10) (Kd.R_base ho1) hb); replace HB := Aside0.mk (below_step (bw_ HB) hb); (try clear hb); (try clear hb2); (try clear hk); (try clear hi); (try clear ho0); (try clear ho1); have hcv74 := own_string (P := Try.prog) Try.underlying22 Try.underlying5 Try.underlying9 (Kd.own_of_R HO_10.out); have hcw75 := fun n_ : Nat => own_string (P := Try.prog) Try.underlying22 Try.underlying5 Try.underlying9 (Kd.own_of_R (Kd.R_drewN HO_10.out n_)); have q76 : (x11_4 : Int) ≤ ((y245.length : Int) : Int) := of_decide_eq_true (by first | (with_reducible assumption) | assumption); obtain ⟨i076, hi076, _, hsz76, _⟩ := info_parts info5; have hroom76 : y245.length ≤ co29 := (JX_reads' HO_7.out).2.1; have hC76 : Kd.C (Kd.int .u8) _ Ao29 y245.length y245 := (JX_reads' HO_7.out).2.2; have q076 : (0 : Int) ≤ (x11_4 : Int) := of_decide_eq_true (by first | (with_reducible assumption) | assumption); have hcut76 := cut_from (P := Try.prog) 22 5 .i64 Try.underlying22 hi076 1 hsz76 Ao29 y245.length co29 x11_4 q076 q76; have hr76 := Kd.C_drop (m := (x11_4 : Int).toNat) (c := co29) hC76 (by omega) hroom76; obtain ⟨A76, hA76⟩ : ∃ A1, A1 = (if co29 = (x11_4 : Int).toNat then Ao29 else (Ao29 : Option Addr).map (·.add ((x11_4 : Int).toNat * 1))) := ⟨_, rfl⟩; obtain ⟨c76, hc76⟩ : ∃ c1, c1 = co29 - (x11_4 : Int).toNat := ⟨_, rfl⟩; have hy76 : y270.length = y245.length - (x11_4 : Int).toNat := (by rw [Ny270.out, l_7] <;> omega); rw [show (y245).drop (x11_4 : Int).toNat = y270 from Ny270.out.symm] at hr76; replace hr76 : Kd.C (Kd.int .u8) _ A76 y270.length y270 := (by rw [hA76]; exact hr76); rw [← hy76, ← hA76, ← hc76] at hcut76; have HR273 := Aside0.mk hr76; have HC273 := Aside0.mk (show y270.length ≤ c76 from by rw [hy76, hc76]; exact Nat.sub_le_sub_right hroom76 _); clear hr76 hC76 hroom76 hi076 hsz76 hc76; have KY76 := Aside0.mk hy76; have KA76 := Aside0.mk hA76; clear hy76 hA76; have KL76 := Aside0.mk (show (x11_4 : Int).toNat ≤ y245.length from by omega); replace q76 := eq_true q76; have hcv77 := Kd.C_string (P := Try.prog) (A := A76) (c := c76) Try.underlying22 Try.underlying5 Try.underlying9 (by repeat (first | (with_reducible exact HR273.out) | (with_reducible refine Kd.C_alloc ?_ _) | (with_reducible refine Kd.C_drewN ?_ _) | (with_reducible refine Kd.C_drew ?_) | exact HR273.out)); have hcw78 := fun n_ : Nat => Kd.C_string (P := Try.prog) (A := A76) (c := c76) Try.underlying22 Try.underlying5 Try.underlying9 (Kd.C_drewN (by repeat (first | (with_reducible exact HR273.out) | (with_reducible refine Kd.C_alloc ?_ _) | (with_reducible refine Kd.C_drewN ?_ _) | (with_reducible refine Kd.C_drew ?_) | exact HR273.out)) n_); obtain ⟨Ao79, co79, eo79⟩ := Kd.S_slice HO266.out; subst eo79; have hcv80 := own_string (P := Try.prog) Try.underlying22 Try.underlying5 Try.underlying9 (Kd.own_of_R HO269.out); have hcw81 := fun n_ : Nat => own_string (P := Try.prog) Try.underlying22 Try.underlying5 Try.underlying9 (Kd.own_of_R (Kd.R_drewN HO269.out n_)); have hcv82 := Kd.C_string (P := Try.prog) (A := A1) (c := c1) Try.underlying22 Try.underlying5 Try.underlying9 (Kd.C_below HR1.out HB.out); have hcw83 := fun n_ : Nat => Kd.C_string (P := Try.prog) (A := A1) (c := c1) Try.underlying22 Try.underlying5 Try.underlying9 (Kd.C_drewN (Kd.C_below HR1.out HB.out) n_))))
         go_ret
         exact ⟨by first | rfl | (simp [errW_none, errW_some] <;> rfl) | (simp [*, errW_none, errW_some] <;> rfl), by repeat (first | (with_reducible first | exact HB.out | apply b_a | apply b_n | apply b_d) | exact HB.out)⟩
/-- THE ONE PURE STATEMENT of pelotonlaw14_FrameSplits. -/
def pelotonlaw14_FrameSplits.Pure : Prop := ∀ (l0 : List (List Int)) (l1 : List Int), (l0.length ≤ maxLen ∧ ∀ y0 ∈ l0, y0.length ≤ maxLen ∧ ∀ y1 ∈ y0, (Lit.int .u8 y1).wf = true) → (l1.length ≤ maxLen ∧ ∀ y0 ∈ l1, (Lit.int .u8 y0).wf = true) → ∃ k, pelotonlaw14_FrameSplits.f k l0 l1 = some true

end Go.Proofs.Ytofoimndhndffaa.QFrameSplits
