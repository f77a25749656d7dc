-- Written by a program of this session (a turned copy of the print) out of the translation. Lean checks it.
import Derived.Test.YtananmepljeldaaQMatmulSpansx0
import Derived.Test.YtananmepljeldaaQMatmulSpansx1
import Derived.Test.YtananmepljeldaaQMatmulSpansx2
namespace Go.Proofs.Ytananmepljeldaa.QMatmulSpans
open Go.RowKit Go.Proofs.YtananmepljeldaaW.PrintWords Go.Proofs.YtananmepljeldaaW.PrintLast Go.Proofs.YtananmepljeldaaW.PrintMore
attribute [local go_sem] max2_int min2_int max_two min_two max_three min_three max_four min_four   -- for this text's walks alone
set_option linter.unusedVariables false
set_option linter.unusedSimpArgs false

/-! ### pelotonlaw04_MatmulSpans: function 3 -/
mutual
def pelotonlaw04_MatmulSpans.j0 : Nat → Int → Int → List Int → Int → Bool → Option (Bool)
 | 0, _, _, _, _, _ => none
 | k + 1, x0, x1, x5, x6, x30 => if x30 = true then (if x6 = 2 then (some ((x5.length : Int) == 0)) else (some false)) else (if x6 = 0 then (if (x5.length : Int) = (wrap64 (x1 + 1)) then (if 0 < (x5.length : Int) then (if (rd x5 0) = 0 then (if 0 ≤ x1 then (if x1 < (x5.length : Int) then (pelotonlaw04_MatmulSpans.j1 k x0 x1 x5 ((rd x5 x1) != x0)) else (none)) else (none)) else (pelotonlaw04_MatmulSpans.j1 k x0 x1 x5 true)) else (none)) else (pelotonlaw04_MatmulSpans.j1 k x0 x1 x5 true)) else (pelotonlaw04_MatmulSpans.j1 k x0 x1 x5 true))
def pelotonlaw04_MatmulSpans.j1 : Nat → Int → Int → List Int → Bool → Option (Bool)
 | 0, _, _, _, _ => none
 | k + 1, x0, x1, x5, x60 => if x60 = true then (some false) else (pelotonlaw04_MatmulSpans.l0 k x0 x1 x5 0)
def pelotonlaw04_MatmulSpans.l0 : Nat → Int → Int → List Int → Int → Option (Bool)
 | 0, _, _, _, _ => none
 | k + 1, x0, x1, x5, x7 => if x7 < x1 then (if 0 ≤ (wrap64 (x7 + 1)) then (if (wrap64 (x7 + 1)) < (x5.length : Int) then (if 0 ≤ x7 then (if x7 < (x5.length : Int) then (if x1 = 0 then (none) else (if (rd x5 x7) = (wrap64 (Int.tdiv (wrap64 (x7 * x0)) x1)) then (if (wrap64 ((rd x5 (wrap64 (x7 + 1))) - (rd x5 x7))) = (wrap64 (Int.tdiv x0 x1)) then (pelotonlaw04_MatmulSpans.l0 k x0 x1 x5 (wrap64 (x7 + 1))) else (if (wrap64 ((rd x5 (wrap64 (x7 + 1))) - (rd x5 x7))) = (wrap64 ((wrap64 (Int.tdiv x0 x1)) + 1)) then (pelotonlaw04_MatmulSpans.l0 k x0 x1 x5 (wrap64 (x7 + 1))) else (some false))) else (some false))) else (none)) else (none)) else (none)) else (none)) else (some true)
end
def pelotonlaw04_MatmulSpans.f (k : Nat) (a0 : Int) (a1 : Int) : Option (Bool) := (pelotonlaw04_awake.f k).bind fun t142 => (if t142 = true then ((matmul_Spans.f k a0 a1).bind fun bt143 => (if a0 < 0 then (pelotonlaw04_MatmulSpans.j0 k a0 a1 bt143.1 bt143.2 true) else (if a0 > 1099511627776 then (pelotonlaw04_MatmulSpans.j0 k a0 a1 bt143.1 bt143.2 true) else (if a1 < 1 then (pelotonlaw04_MatmulSpans.j0 k a0 a1 bt143.1 bt143.2 true) else (pelotonlaw04_MatmulSpans.j0 k a0 a1 bt143.1 bt143.2 (decide (a1 > 4096))))))) else (some false))
theorem pelotonlaw04_MatmulSpans.mono_l : ∀ k, (∀ y0 y1 y2 y3 y4, LeO (pelotonlaw04_MatmulSpans.j0 k y0 y1 y2 y3 y4) (pelotonlaw04_MatmulSpans.j0 (k + 1) y0 y1 y2 y3 y4)) ∧ (∀ y0 y1 y2 y3, LeO (pelotonlaw04_MatmulSpans.j1 k y0 y1 y2 y3) (pelotonlaw04_MatmulSpans.j1 (k + 1) y0 y1 y2 y3)) ∧ (∀ y0 y1 y2 y3, LeO (pelotonlaw04_MatmulSpans.l0 k y0 y1 y2 y3) (pelotonlaw04_MatmulSpans.l0 (k + 1) y0 y1 y2 y3))
 | 0 => ⟨fun _ _ _ _ _ r h => by simp [pelotonlaw04_MatmulSpans.j0] at h, fun _ _ _ _ r h => by simp [pelotonlaw04_MatmulSpans.j1] at h, fun _ _ _ _ r h => by simp [pelotonlaw04_MatmulSpans.l0] at h⟩
 | k + 1 => by
  obtain ⟨ih0, ih1, ih2⟩ := pelotonlaw04_MatmulSpans.mono_l k
  refine ⟨?_, ?_, ?_⟩
  ·
   intro y0 y1 y2 y3 y4
   unfold pelotonlaw04_MatmulSpans.j0
   repeat' first
   | (with_reducible exact ih0 _ _ _ _ _)
   | (with_reducible exact ih1 _ _ _ _)
   | (with_reducible exact ih2 _ _ _ _)
   | (with_reducible exact matmul_Spans.mono _ _ _)
   | (with_reducible exact pelotonlaw04_awake.mono _)
   | (with_reducible exact LeO.refl _)
   | (with_reducible exact LeO.none _)
   | (with_reducible refine LeO.ite ?_ ?_)
   | (with_reducible refine LeO.bind ?_ (fun _ => ?_))
   | exact ih0 _ _ _ _ _
   | exact ih1 _ _ _ _
   | exact ih2 _ _ _ _
   | exact matmul_Spans.mono _ _ _
   | exact pelotonlaw04_awake.mono _
   | exact LeO.none _
   | refine LeO.ite ?_ ?_
   | refine LeO.bind ?_ (fun _ => ?_)
  ·
   intro y0 y1 y2 y3
   unfold pelotonlaw04_MatmulSpans.j1
   repeat' first
   | (with_reducible exact ih0 _ _ _ _ _)
   | (with_reducible exact ih1 _ _ _ _)
   | (with_reducible exact ih2 _ _ _ _)
   | (with_reducible exact matmul_Spans.mono _ _ _)
   | (with_reducible exact pelotonlaw04_awake.mono _)
   | (with_reducible exact LeO.refl _)
   | (with_reducible exact LeO.none _)
   | (with_reducible refine LeO.ite ?_ ?_)
   | (with_reducible refine LeO.bind ?_ (fun _ => ?_))
   | exact ih0 _ _ _ _ _
   | exact ih1 _ _ _ _
   | exact ih2 _ _ _ _
   | exact matmul_Spans.mono _ _ _
   | exact pelotonlaw04_awake.mono _
   | exact LeO.none _
   | refine LeO.ite ?_ ?_
   | refine LeO.bind ?_ (fun _ => ?_)
  ·
   intro y0 y1 y2 y3
   unfold pelotonlaw04_MatmulSpans.l0
   repeat' first
   | (with_reducible exact ih0 _ _ _ _ _)
   | (with_reducible exact ih1 _ _ _ _)
   | (with_reducible exact ih2 _ _ _ _)
   | (with_reducible exact matmul_Spans.mono _ _ _)
   | (with_reducible exact pelotonlaw04_awake.mono _)
   | (with_reducible exact LeO.refl _)
   | (with_reducible exact LeO.none _)
   | (with_reducible refine LeO.ite ?_ ?_)
   | (with_reducible refine LeO.bind ?_ (fun _ => ?_))
   | exact ih0 _ _ _ _ _
   | exact ih1 _ _ _ _
   | exact ih2 _ _ _ _
   | exact matmul_Spans.mono _ _ _
   | exact pelotonlaw04_awake.mono _
   | exact LeO.none _
   | refine LeO.ite ?_ ?_
   | refine LeO.bind ?_ (fun _ => ?_)
theorem pelotonlaw04_MatmulSpans.mono : ∀ a0 a1 k, LeO (pelotonlaw04_MatmulSpans.f k a0 a1) (pelotonlaw04_MatmulSpans.f (k + 1) a0 a1) := by
 intro a0 a1 k
 obtain ⟨ih0, ih1, ih2⟩ := pelotonlaw04_MatmulSpans.mono_l k
 unfold pelotonlaw04_MatmulSpans.f
 repeat' first
   | (with_reducible exact ih0 _ _ _ _ _)
   | (with_reducible exact ih1 _ _ _ _)
   | (with_reducible exact ih2 _ _ _ _)
   | (with_reducible exact matmul_Spans.mono _ _ _)
   | (with_reducible exact pelotonlaw04_awake.mono _)
   | (with_reducible exact LeO.refl _)
   | (with_reducible exact LeO.none _)
   | (with_reducible refine LeO.ite ?_ ?_)
   | (with_reducible refine LeO.bind ?_ (fun _ => ?_))
   | exact ih0 _ _ _ _ _
   | exact ih1 _ _ _ _
   | exact ih2 _ _ _ _
   | exact matmul_Spans.mono _ _ _
   | exact pelotonlaw04_awake.mono _
   | exact LeO.none _
   | refine LeO.ite ?_ ?_
   | refine LeO.bind ?_ (fun _ => ?_)
set_option maxHeartbeats 8000000 in
set_option maxRecDepth 100000 in
theorem pelotonlaw04_MatmulSpans.calls (k : Nat) (a0 : Int) (a1 : Int) (r : Bool) (w : World) (h : pelotonlaw04_MatmulSpans.f k a0 a1 = some r) :
  Calls Try.prog 3 #[.int .i64 a0, .int .i64 a1] w fun e w' => e = .returned (.bool r) ∧ Below w.heap.size w w' := by
 have HB := Aside0.mk (Below.refl w.heap.size w)
 have H : ((pelotonlaw04_awake.f k).bind fun t142 => (if t142 = true then ((matmul_Spans.f k a0 a1).bind fun bt143 => (if a0 < 0 then (pelotonlaw04_MatmulSpans.j0 k a0 a1 bt143.1 bt143.2 true) else (if a0 > 1099511627776 then (pelotonlaw04_MatmulSpans.j0 k a0 a1 bt143.1 bt143.2 true) else (if a1 < 1 then (pelotonlaw04_MatmulSpans.j0 k a0 a1 bt143.1 bt143.2 true) else (pelotonlaw04_MatmulSpans.j0 k a0 a1 bt143.1 bt143.2 (decide (a1 > 4096))))))) else (some false))) = some r := h
 clear h
 replace H := Option.bind_eq_some_iff.mp H
 obtain ⟨t142, A30, H⟩ := H
 replace H : (if t142 = true then ((matmul_Spans.f k a0 a1).bind fun bt143 => (if a0 < 0 then (pelotonlaw04_MatmulSpans.j0 k a0 a1 bt143.1 bt143.2 true) else (if a0 > 1099511627776 then (pelotonlaw04_MatmulSpans.j0 k a0 a1 bt143.1 bt143.2 true) else (if a1 < 1 then (pelotonlaw04_MatmulSpans.j0 k a0 a1 bt143.1 bt143.2 true) else (pelotonlaw04_MatmulSpans.j0 k a0 a1 bt143.1 bt143.2 (decide (a1 > 4096))))))) else (some false)) = some r := H
 have A3 := Aside0.mk A30
 clear A30
 by_cases c4 : t142 = true
 ·
  subst c4
  have H1 : ((matmul_Spans.f k a0 a1).bind fun bt143 => (if a0 < 0 then (pelotonlaw04_MatmulSpans.j0 k a0 a1 bt143.1 bt143.2 true) else (if a0 > 1099511627776 then (pelotonlaw04_MatmulSpans.j0 k a0 a1 bt143.1 bt143.2 true) else (if a1 < 1 then (pelotonlaw04_MatmulSpans.j0 k a0 a1 bt143.1 bt143.2 true) else (pelotonlaw04_MatmulSpans.j0 k a0 a1 bt143.1 bt143.2 (decide (a1 > 4096))))))) = some r := by rw [if_pos rfl] at H; exact H
  clear H
  have H := H1
  clear H1
  replace H := Option.bind_eq_some_iff.mp H
  obtain ⟨⟨t143, t144⟩, A50, H⟩ := H
  replace H : (if a0 < 0 then (pelotonlaw04_MatmulSpans.j0 k a0 a1 t143 t144 true) else (if a0 > 1099511627776 then (pelotonlaw04_MatmulSpans.j0 k a0 a1 t143 t144 true) else (if a1 < 1 then (pelotonlaw04_MatmulSpans.j0 k a0 a1 t143 t144 true) else (pelotonlaw04_MatmulSpans.j0 k a0 a1 t143 t144 (decide (a1 > 4096)))))) = some r := H
  have A5 := Aside0.mk A50
  clear A50
  have HC6 := Aside0.mk H
  clear H
  go_enter Try.func3, Try.ntmps3
  go_upto_region 4 with (first | (go_at_call 10; (with_reducible refine (pelotonlaw04_awake.calls k  true _ A3.out).mono ?_); rintro e w7 ⟨rfl, hb⟩; have n0_ := Aside0.mk (below_step (by repeat (first | (with_reducible first | exact HB.out | apply below_alloc | apply pw_below_drewN | apply below_drew1) | exact HB.out)) hb); clear HB; have HB := n0_; clear n0_; (try clear hb); (try clear hb2); (try clear hk); (try clear hi)) | (go_at_call 11; (with_reducible refine (matmul_Spans.calls k a0 a1 t143 t144 _ A5.out).mono ?_); rintro e w8 ⟨v145, rfl, ho0, hb⟩; have n0_ := Aside0.mk (Kd.R_lower ho0 (below_size (by repeat (first | (with_reducible first | exact HB.out | apply below_alloc | apply pw_below_drewN | apply below_drew1) | exact HB.out)))); have n1_ := Aside0.mk (below_step (by repeat (first | (with_reducible first | exact HB.out | apply below_alloc | apply pw_below_drewN | apply below_drew1) | exact HB.out)) hb); clear HB; have HO146 := n0_; have HB := n1_; clear n0_ n1_; (try clear hb); (try clear hb2); (try clear hk); (try clear hi); (try clear ho0)))
  repeat (go_quiet (first | (go_at_call 10; (with_reducible refine (pelotonlaw04_awake.calls k  true _ A3.out).mono ?_); rintro e w7 ⟨rfl, hb⟩; have n0_ := Aside0.mk (below_step (by repeat (first | (with_reducible first | exact HB.out | apply below_alloc | apply pw_below_drewN | apply below_drew1) | exact HB.out)) hb); clear HB; have HB := n0_; clear n0_; (try clear hb); (try clear hb2); (try clear hk); (try clear hi)) | (go_at_call 11; (with_reducible refine (matmul_Spans.calls k a0 a1 t143 t144 _ A5.out).mono ?_); rintro e w8 ⟨v145, rfl, ho0, hb⟩; have n0_ := Aside0.mk (Kd.R_lower ho0 (below_size (by repeat (first | (with_reducible first | exact HB.out | apply below_alloc | apply pw_below_drewN | apply below_drew1) | exact HB.out)))); have n1_ := Aside0.mk (below_step (by repeat (first | (with_reducible first | exact HB.out | apply below_alloc | apply pw_below_drewN | apply below_drew1) | exact HB.out)) hb); clear HB; have HO146 := n0_; have HB := n1_; clear n0_ n1_; (try clear hb); (try clear hb2); (try clear hk); (try clear hi); (try clear ho0))); go_upto_region 4 with (first | (go_at_call 10; (with_reducible refine (pelotonlaw04_awake.calls k  true _ A3.out).mono ?_); rintro e w7 ⟨rfl, hb⟩; have n0_ := Aside0.mk (below_step (by repeat (first | (with_reducible first | exact HB.out | apply below_alloc | apply pw_below_drewN | apply below_drew1) | exact HB.out)) hb); clear HB; have HB := n0_; clear n0_; (try clear hb); (try clear hb2); (try clear hk); (try clear hi)) | (go_at_call 11; (with_reducible refine (matmul_Spans.calls k a0 a1 t143 t144 _ A5.out).mono ?_); rintro e w8 ⟨v145, rfl, ho0, hb⟩; have n0_ := Aside0.mk (Kd.R_lower ho0 (below_size (by repeat (first | (with_reducible first | exact HB.out | apply below_alloc | apply pw_below_drewN | apply below_drew1) | exact HB.out)))); have n1_ := Aside0.mk (below_step (by repeat (first | (with_reducible first | exact HB.out | apply below_alloc | apply pw_below_drewN | apply below_drew1) | exact HB.out)) hb); clear HB; have HO146 := n0_; have HB := n1_; clear n0_ n1_; (try clear hb); (try clear hb2); (try clear hk); (try clear hi); (try clear ho0))))
  (try simp only [Act.put, List.setIfInBounds_toArray, List.set_cons_zero, List.set_cons_succ])
  go_cut [30] (fun v30 wc => ∃ (kq : Nat) (x30_5 : Bool), v30 = .bool x30_5 ∧ Aside0 (pelotonlaw04_MatmulSpans.j0 kq a0 a1 t143 t144 x30_5 = some r) ∧ Aside0 (kq ≤ k) ∧ Aside0 (Kd.R (Kd.int .i64) 3 wc w.heap.size (fun _ => True) v145 t143) ∧ Aside0 (Below w.heap.size w wc))
  case first =>
   have H := HC6.out
   clear HC6
   by_cases c9 : a0 < 0
   ·
    rw [if_pos c9] at H
    have c9b0 : decide (a0 < 0) = true := decide_eq_true c9
    clear c9
    (first | rw [c9b0] | (simp only [i64_w, i32_w]; rw [c9b0]) | skip)
    have H' := Aside0.mk H
    clear H
    go_wp2
    repeat (go_quiet (fail); try go_wp2)
    go_meet
    case rel => exact ⟨_, (true), (by first | rfl | (simp; done) | (simp [*]; done)), H', ⟨by first | omega | exact Nat.le_refl _⟩, ⟨by (with_reducible repeat (first | apply Kd.R_alloc | apply Kd.R_drewN | apply Kd.R_drew)); exact HO146.out⟩, ⟨by repeat (first | (with_reducible first | exact HB.out | apply below_alloc | apply pw_below_drewN | apply below_drew1) | exact HB.out)⟩⟩
   ·
    rw [if_neg c9] at H
    have c9b0 : decide (a0 < 0) = false := decide_eq_false c9
    clear c9
    (first | rw [c9b0] | (simp only [i64_w, i32_w]; rw [c9b0]) | skip)
    by_cases c10 : a0 > 1099511627776
    ·
     rw [if_pos c10] at H
     have c10b0 : decide (1099511627776 < a0) = true := decide_eq_true c10
     clear c10
     have H' := Aside0.mk H
     clear H
     go_wp2
     repeat (go_quiet (fail); try go_wp2)
     go_meet
     case rel => exact ⟨_, (true), (by first | rfl | (simp; done) | (simp [*]; done)), H', ⟨by first | omega | exact Nat.le_refl _⟩, ⟨by (with_reducible repeat (first | apply Kd.R_alloc | apply Kd.R_drewN | apply Kd.R_drew)); exact HO146.out⟩, ⟨by repeat (first | (with_reducible first | exact HB.out | apply below_alloc | apply pw_below_drewN | apply below_drew1) | exact HB.out)⟩⟩
    ·
     rw [if_neg c10] at H
     have c10b0 : decide (1099511627776 < a0) = false := decide_eq_false c10
     clear c10
     by_cases c11 : a1 < 1
     ·
      rw [if_pos c11] at H
      have c11b0 : decide (a1 < 1) = true := decide_eq_true c11
      clear c11
      have H' := Aside0.mk H
      clear H
      go_wp2
      repeat (go_quiet (fail); try go_wp2)
      go_meet
      case rel => exact ⟨_, (true), (by first | rfl | (simp; done) | (simp [*]; done)), H', ⟨by first | omega | exact Nat.le_refl _⟩, ⟨by (with_reducible repeat (first | apply Kd.R_alloc | apply Kd.R_drewN | apply Kd.R_drew)); exact HO146.out⟩, ⟨by repeat (first | (with_reducible first | exact HB.out | apply below_alloc | apply pw_below_drewN | apply below_drew1) | exact HB.out)⟩⟩
     ·
      rw [if_neg c11] at H
      have c11b0 : decide (a1 < 1) = false := decide_eq_false c11
      clear c11
      have H' := Aside0.mk H
      clear H
      go_wp2
      repeat (go_quiet (fail); try go_wp2)
      go_meet
      case rel => exact ⟨_, (decide (a1 > 4096)), (by first | rfl | (simp; done) | (simp [*]; done)), H', ⟨by first | omega | exact Nat.le_refl _⟩, ⟨by (with_reducible repeat (first | apply Kd.R_alloc | apply Kd.R_drewN | apply Kd.R_drew)); exact HO146.out⟩, ⟨by repeat (first | (with_reducible first | exact HB.out | apply below_alloc | apply pw_below_drewN | apply below_drew1) | exact HB.out)⟩⟩
  case rest =>
   clear HC6
   try clear c1
   try clear p2
   try clear c3
   try clear c4
   try clear c9
   try clear c9b0
   try clear c10
   try clear c10b0
   try clear c11
   try clear c11b0
   obtain ⟨kq, x30_5, rfl, HA, HJ5, HO_5, HB⟩ := hcut
   cases kq with
   | zero => exact absurd HA.out (by simp [pelotonlaw04_MatmulSpans.j0])
   | succ kj5 =>
    have H := HA.out
    clear HA
    simp only [pelotonlaw04_MatmulSpans.j0] at H
    by_cases c12 : x30_5 = true
    ·
     subst c12
     have H1 : (if t144 = 2 then (some ((t143.length : Int) == 0)) else (some false)) = some r := by rw [if_pos rfl] at H; exact H
     clear H
     have H := H1
     clear H1
     by_cases c13 : t144 = 2
     ·
      rw [if_pos c13] at H
      have c13b0 : (t144 == 2) = true := beq_iff_eq.mpr c13
      have c13b1 : (t144 != 2) = false := bne_eq_false_iff_eq.mpr c13
      clear c13
      obtain rfl := Option.some.inj H
      obtain ⟨Ao14, co14, eo14⟩ := Kd.R_slice HO_5.out
      subst eo14
      go_wp2
      repeat (go_quiet (fail); try go_wp2)
      go_ret
      exact ⟨by first | rfl | (simp [errW_none, errW_some] <;> rfl) | (simp [*, errW_none, errW_some] <;> rfl), by repeat (first | (with_reducible first | exact HB.out | apply below_alloc | apply pw_below_drewN | apply below_drew1) | exact HB.out)⟩
     ·
      rw [if_neg c13] at H
      have c13b0 : (t144 == 2) = false := beq_eq_false_iff_ne.mpr c13
      have c13b1 : (t144 != 2) = true := bne_iff_ne.mpr c13
      obtain rfl := Option.some.inj H
      go_wp2
      repeat (go_quiet (fail); try go_wp2)
      go_ret
      exact ⟨by first | rfl | (simp [errW_none, errW_some] <;> rfl) | (simp [*, errW_none, errW_some] <;> rfl), by repeat (first | (with_reducible first | exact HB.out | apply below_alloc | apply pw_below_drewN | apply below_drew1) | exact HB.out)⟩
    ·
     replace c12 := Bool.eq_false_iff.mpr c12
     subst c12
     have H1 : (if t144 = 0 then (if (t143.length : Int) = (wrap64 (a1 + 1)) then (if 0 < (t143.length : Int) then (if (rd t143 0) = 0 then (if 0 ≤ a1 then (if a1 < (t143.length : Int) then (pelotonlaw04_MatmulSpans.j1 kj5 a0 a1 t143 ((rd t143 a1) != a0)) else (none)) else (none)) else (pelotonlaw04_MatmulSpans.j1 kj5 a0 a1 t143 true)) else (none)) else (pelotonlaw04_MatmulSpans.j1 kj5 a0 a1 t143 true)) else (pelotonlaw04_MatmulSpans.j1 kj5 a0 a1 t143 true)) = some r := by rw [if_neg (show ¬ (false = true) by decide)] at H; exact H
     clear H
     have H := H1
     clear H1
     have HC15 := Aside0.mk H
     clear H
     go_upto_region 6 with (fail)
     repeat (go_quiet (fail); go_upto_region 6 with (fail))
     go_cut [60] (fun v60 wc => ∃ (kq : Nat) (x60_14 : Bool), v60 = .bool x60_14 ∧ Aside0 (pelotonlaw04_MatmulSpans.j1 kq a0 a1 t143 x60_14 = some r) ∧ Aside0 (kq ≤ kj5) ∧ Aside0 (Kd.R (Kd.int .i64) 3 wc w.heap.size (fun _ => True) v145 t143) ∧ Aside0 (Below w.heap.size w wc))
     case first =>
      have H := HC15.out
      clear HC15
      by_cases c16 : t144 = 0
      ·
       rw [if_pos c16] at H
       have c16b0 : (t144 == 0) = true := beq_iff_eq.mpr c16
       have c16b1 : (t144 != 0) = false := bne_eq_false_iff_eq.mpr c16
       clear c16
       (first | rw [c16b0] | (simp only [i64_w, i32_w]; rw [c16b0]) | skip)
       by_cases c17 : (t143.length : Int) = (wrap64 (a1 + 1))
       ·
        rw [if_pos c17] at H
        have c17b0 : ((t143.length : Int) == (wrap64 (a1 + 1))) = true := beq_iff_eq.mpr c17
        have c17b1 : ((t143.length : Int) != (wrap64 (a1 + 1))) = false := bne_eq_false_iff_eq.mpr c17
        clear c17
        by_cases c18 : 0 < (t143.length : Int)
        ·
         rw [if_pos c18] at H
         have c18b0 : decide (0 < (t143.length : Int)) = true := decide_eq_true c18
         have c18b1 : decide (0 < t143.length) = true := decide_eq_true (by omega)
         clear c18
         by_cases c19 : (rd t143 0) = 0
         ·
          rw [if_pos c19] at H
          have c19b0 : ((rd t143 0) == 0) = true := beq_iff_eq.mpr c19
          have c19b1 : ((rd t143 0) != 0) = false := bne_eq_false_iff_eq.mpr c19
          clear c19
          by_cases c20 : 0 ≤ a1
          ·
           rw [if_pos c20] at H
           have c20b0 : decide (0 ≤ a1) = true := decide_eq_true c20
           clear c20
           by_cases c21 : a1 < (t143.length : Int)
           ·
            rw [if_pos c21] at H
            have c21b0 : decide (a1 < (t143.length : Int)) = true := decide_eq_true c21
            clear c21
            have H' := Aside0.mk H
            clear H
            obtain ⟨Ao22, co22, eo22⟩ := Kd.R_slice HO_5.out
            subst eo22
            have p147 : 0 ≤ (0 : Int) := (by omega)
            have q147 : 0 < (t143.length : Int) := of_decide_eq_true (by first | (with_reducible assumption) | assumption)
            obtain ⟨ad147, e147, hx147_0⟩ := Kd.at_int (Kd.R_reads' HO_5.out).2.2 0 p147 q147
            cases e147
            have qi147 : (0 < t143.length) = True := eq_true (by omega)
            (try rw [show ((0 : Int)).toNat = 0 from rfl] at hx147_0)
            (try rw [Addr.add_zero'] at hx147_0)
            replace p147 := eq_true p147
            replace q147 := eq_true q147
            have p148 : 0 ≤ (a1 : Int) := of_decide_eq_true (by first | (with_reducible assumption) | assumption)
            have q148 : a1 < (t143.length : Int) := of_decide_eq_true (by first | (with_reducible assumption) | assumption)
            obtain ⟨ad148, e148, hx148_0⟩ := Kd.at_int (Kd.R_reads' HO_5.out).2.2 a1 p148 q148
            obtain rfl : ad147 = ad148 := (by injection e148)
            replace p148 := eq_true p148
            replace q148 := eq_true q148
            go_wp2
            repeat (go_quiet (fail); try go_wp2)
            go_meet
            case rel => exact ⟨_, (((rd t143 a1) != a0)), (by first | rfl | (simp; done) | (simp [*]; done)), H', ⟨by have := HJ5.out; first | omega | exact Nat.le_refl _⟩, ⟨by (with_reducible repeat (first | apply Kd.R_alloc | apply Kd.R_drewN | apply Kd.R_drew)); exact HO_5.out⟩, ⟨by repeat (first | (with_reducible first | exact HB.out | apply below_alloc | apply pw_below_drewN | apply below_drew1) | exact HB.out)⟩⟩
           ·
            rw [if_neg c21] at H
            exact absurd H (by simp)
          ·
           rw [if_neg c20] at H
           exact absurd H (by simp)
         ·
          rw [if_neg c19] at H
          have c19b0 : ((rd t143 0) == 0) = false := beq_eq_false_iff_ne.mpr c19
          have c19b1 : ((rd t143 0) != 0) = true := bne_iff_ne.mpr c19
          have H' := Aside0.mk H
          clear H
          obtain ⟨Ao23, co23, eo23⟩ := Kd.R_slice HO_5.out
          subst eo23
          have p147 : 0 ≤ (0 : Int) := (by omega)
          have q147 : 0 < (t143.length : Int) := of_decide_eq_true (by first | (with_reducible assumption) | assumption)
          obtain ⟨ad147, e147, hx147_0⟩ := Kd.at_int (Kd.R_reads' HO_5.out).2.2 0 p147 q147
          cases e147
          have qi147 : (0 < t143.length) = True := eq_true (by omega)
          (try rw [show ((0 : Int)).toNat = 0 from rfl] at hx147_0)
          (try rw [Addr.add_zero'] at hx147_0)
          replace p147 := eq_true p147
          replace q147 := eq_true q147
          go_wp2
          repeat (go_quiet (fail); try go_wp2)
          go_meet
          case rel => exact ⟨_, (true), (by first | rfl | (simp; done) | (simp [*]; done)), H', ⟨by have := HJ5.out; first | omega | exact Nat.le_refl _⟩, ⟨by (with_reducible repeat (first | apply Kd.R_alloc | apply Kd.R_drewN | apply Kd.R_drew)); exact HO_5.out⟩, ⟨by repeat (first | (with_reducible first | exact HB.out | apply below_alloc | apply pw_below_drewN | apply below_drew1) | exact HB.out)⟩⟩
        ·
         rw [if_neg c18] at H
         exact absurd H (by simp)
       ·
        rw [if_neg c17] at H
        have c17b0 : ((t143.length : Int) == (wrap64 (a1 + 1))) = false := beq_eq_false_iff_ne.mpr c17
        have c17b1 : ((t143.length : Int) != (wrap64 (a1 + 1))) = true := bne_iff_ne.mpr c17
        have H' := Aside0.mk H
        clear H
        obtain ⟨Ao24, co24, eo24⟩ := Kd.R_slice HO_5.out
        subst eo24
        go_wp2
        repeat (go_quiet (fail); try go_wp2)
        go_meet
        case rel => exact ⟨_, (true), (by first | rfl | (simp; done) | (simp [*]; done)), H', ⟨by have := HJ5.out; first | omega | exact Nat.le_refl _⟩, ⟨by (with_reducible repeat (first | apply Kd.R_alloc | apply Kd.R_drewN | apply Kd.R_drew)); exact HO_5.out⟩, ⟨by repeat (first | (with_reducible first | exact HB.out | apply below_alloc | apply pw_below_drewN | apply below_drew1) | exact HB.out)⟩⟩
      ·
       rw [if_neg c16] at H
       have c16b0 : (t144 == 0) = false := beq_eq_false_iff_ne.mpr c16
       have c16b1 : (t144 != 0) = true := bne_iff_ne.mpr c16
       (first | rw [c16b0] | (simp only [i64_w, i32_w]; rw [c16b0]) | skip)
       have H' := Aside0.mk H
       clear H
       go_wp2
       repeat (go_quiet (fail); try go_wp2)
       go_meet
       case rel => exact ⟨_, (true), (by first | rfl | (simp; done) | (simp [*]; done)), H', ⟨by have := HJ5.out; first | omega | exact Nat.le_refl _⟩, ⟨by (with_reducible repeat (first | apply Kd.R_alloc | apply Kd.R_drewN | apply Kd.R_drew)); exact HO_5.out⟩, ⟨by repeat (first | (with_reducible first | exact HB.out | apply below_alloc | apply pw_below_drewN | apply below_drew1) | exact HB.out)⟩⟩
     case rest =>
      clear HC15
      try clear c1
      try clear p1
      try clear q1
      try clear hx1
      try clear qi1
      try clear c2
      try clear p2
      try clear c3
      try clear c4
      try clear p6
      try clear c9
      try clear c9b0
      try clear c10
      try clear c10b0
      try clear c11
      try clear c11b0
      try clear c12
      try clear c13
      try clear c13b0
      try clear c13b1
      try clear p14
      try clear q14
      try clear hx14
      try clear qi14
      try clear c16
      try clear c16b0
      try clear c16b1
      try clear c17
      try clear c17b0
      try clear c17b1
      try clear c18
      try clear c18b0
      try clear c18b1
      try clear c19
      try clear c19b0
      try clear c19b1
      try clear c20
      try clear c20b0
      try clear c21
      try clear c21b0
      try clear hx147_0
      try clear hx148_0
      try clear p147
      try clear p148
      try clear p2
      try clear q147
      try clear q148
      obtain ⟨kq, x60_14, rfl, HA, HJ14, HO_5, HB⟩ := hcut
      cases kq with
      | zero => exact absurd HA.out (by simp [pelotonlaw04_MatmulSpans.j1])
      | succ kj14 =>
       have H := HA.out
       clear HA
       simp only [pelotonlaw04_MatmulSpans.j1] at H
       by_cases c25 : x60_14 = true
       ·
        subst c25
        have H1 : (some false) = some r := by rw [if_pos rfl] at H; exact H
        clear H
        have H := H1
        clear H1
        obtain rfl := Option.some.inj H
        go_wp2
        repeat (go_quiet (fail); try go_wp2)
        go_ret
        exact ⟨by first | rfl | (simp [errW_none, errW_some] <;> rfl) | (simp [*, errW_none, errW_some] <;> rfl), by repeat (first | (with_reducible first | exact HB.out | apply below_alloc | apply pw_below_drewN | apply below_drew1) | exact HB.out)⟩
       ·
        replace c25 := Bool.eq_false_iff.mpr c25
        subst c25
        have H1 : (pelotonlaw04_MatmulSpans.l0 kj14 a0 a1 t143 0) = some r := by rw [if_neg (show ¬ (false = true) by decide)] at H; exact H
        clear H
        have H := H1
        clear H1
        have H' := Aside0.mk H
        clear H
        go_wp2
        repeat (go_quiet (fail); try go_wp2)
        go_loopg [7] kj14 (fun kq v7 w' => ∃ (x7_3 : Int), v7 = .int .i64 x7_3 ∧ Aside0 (pelotonlaw04_MatmulSpans.l0 kq a0 a1 t143 x7_3 = some r) ∧ Aside0 (kq ≤ kj14) ∧ Aside0 (Kd.R (Kd.int .i64) 3 w' w.heap.size (fun _ => True) v145 t143) ∧ Aside0 (Below w.heap.size w w'))
        case atStart => exact ⟨(0), (by first | rfl | (simp; done) | (simp [*]; done)), H', ⟨Nat.le_refl _⟩, ⟨by (with_reducible repeat (first | apply Kd.R_alloc | apply Kd.R_drewN | apply Kd.R_drew)); exact HO_5.out⟩, ⟨by repeat (first | (with_reducible first | exact HB.out | apply below_alloc | apply pw_below_drewN | apply below_drew1) | exact HB.out)⟩⟩
        case round =>
         clear H'
         try clear c1
         try clear p1
         try clear q1
         try clear hx1
         try clear qi1
         try clear c2
         try clear p2
         try clear c3
         try clear c4
         try clear p6
         try clear c9
         try clear c9b0
         try clear c10
         try clear c10b0
         try clear c11
         try clear c11b0
         try clear c12
         try clear c13
         try clear c13b0
         try clear c13b1
         try clear p14
         try clear q14
         try clear hx14
         try clear qi14
         try clear c16
         try clear c16b0
         try clear c16b1
         try clear c17
         try clear c17b0
         try clear c17b1
         try clear c18
         try clear c18b0
         try clear c18b1
         try clear c19
         try clear c19b0
         try clear c19b1
         try clear c20
         try clear c20b0
         try clear c21
         try clear c21b0
         try clear c25
         try clear hx147_0
         try clear hx148_0
         try clear p1
         try clear p14
         try clear p147
         try clear p148
         try clear p2
         try clear p6
         try clear q1
         try clear q14
         try clear q147
         try clear q148
         obtain ⟨x7_3, rfl, HA, HK3, HO_5, HB⟩ := hrel
         cases gk with
         | zero => exact absurd HA.out (by simp [pelotonlaw04_MatmulSpans.l0])
         | succ k3 =>
          have H := HA.out
          clear HA
          simp only [pelotonlaw04_MatmulSpans.l0] at H
          by_cases c26 : x7_3 < a1
          ·
           rw [if_pos c26] at H
           have c26b0 : decide (x7_3 < a1) = true := decide_eq_true c26
           clear c26
           obtain ⟨ji27, hji27⟩ : ∃ j_ : Int, (wrap64 (x7_3 + 1)) = j_ := ⟨_, rfl⟩
           replace H : (if 0 ≤ (ji27) then (if (ji27) < (t143.length : Int) then (if 0 ≤ x7_3 then (if x7_3 < (t143.length : Int) then (if a1 = 0 then (none) else (if (rd t143 x7_3) = (wrap64 (Int.tdiv (wrap64 (x7_3 * a0)) a1)) then (if (wrap64 ((rd t143 (ji27)) - (rd t143 x7_3))) = (wrap64 (Int.tdiv a0 a1)) then (pelotonlaw04_MatmulSpans.l0 k3 a0 a1 t143 ji27) else (if (wrap64 ((rd t143 (ji27)) - (rd t143 x7_3))) = (wrap64 ((wrap64 (Int.tdiv a0 a1)) + 1)) then (pelotonlaw04_MatmulSpans.l0 k3 a0 a1 t143 ji27) else (some false))) else (some false))) else (none)) else (none)) else (none)) else (none)) = some r := by first | (rw [hji27] at H; exact H) | (simp only [hji27] at H ⊢; exact H)
           have hji27w : (IntKind.i64.wrap (x7_3 + 1)) = ji27 := (i64_w _).trans hji27
           by_cases c28 : 0 ≤ (ji27)
           ·
            rw [if_pos c28] at H
            have c28b0 : decide (0 ≤ (ji27)) = true := decide_eq_true c28
            clear c28
            by_cases c29 : (ji27) < (t143.length : Int)
            ·
             rw [if_pos c29] at H
             have c29b0 : decide ((ji27) < (t143.length : Int)) = true := decide_eq_true c29
             clear c29
             by_cases c30 : 0 ≤ x7_3
             ·
              rw [if_pos c30] at H
              have c30b0 : decide (0 ≤ x7_3) = true := decide_eq_true c30
              clear c30
              by_cases c31 : x7_3 < (t143.length : Int)
              ·
               rw [if_pos c31] at H
               have c31b0 : decide (x7_3 < (t143.length : Int)) = true := decide_eq_true c31
               clear c31
               by_cases c32 : a1 = 0
               ·
                rw [if_pos c32] at H
                exact absurd H (by simp)
               ·
                rw [if_neg c32] at H
                have c32b0 : (a1 == 0) = false := beq_eq_false_iff_ne.mpr c32
                have c32b1 : (a1 != 0) = true := bne_iff_ne.mpr c32
                by_cases c33 : (rd t143 x7_3) = (wrap64 (Int.tdiv (wrap64 (x7_3 * a0)) a1))
                ·
                 rw [if_pos c33] at H
                 have c33b0 : ((rd t143 x7_3) == (wrap64 (Int.tdiv (wrap64 (x7_3 * a0)) a1))) = true := beq_iff_eq.mpr c33
                 have c33b1 : ((rd t143 x7_3) != (wrap64 (Int.tdiv (wrap64 (x7_3 * a0)) a1))) = false := bne_eq_false_iff_eq.mpr c33
                 clear c33
                 by_cases c34 : (wrap64 ((rd t143 (ji27)) - (rd t143 x7_3))) = (wrap64 (Int.tdiv a0 a1))
                 ·
                  rw [if_pos c34] at H
                  have c34b0 : ((wrap64 ((rd t143 (ji27)) - (rd t143 x7_3))) == (wrap64 (Int.tdiv a0 a1))) = true := beq_iff_eq.mpr c34
                  have c34b1 : ((wrap64 ((rd t143 (ji27)) - (rd t143 x7_3))) != (wrap64 (Int.tdiv a0 a1))) = false := bne_eq_false_iff_eq.mpr c34
                  clear c34
                  have H' := Aside0.mk H
                  clear H
                  obtain ⟨Ao35, co35, eo35⟩ := Kd.R_slice HO_5.out
                  subst eo35
                  have p149 : 0 ≤ ((ji27) : Int) := of_decide_eq_true (by first | (with_reducible assumption) | assumption)
                  have q149 : (ji27) < (t143.length : Int) := of_decide_eq_true (by first | (with_reducible assumption) | assumption)
                  obtain ⟨ad149, e149, hx149_0⟩ := Kd.at_int (Kd.R_reads' HO_5.out).2.2 (ji27) p149 q149
                  cases e149
                  replace p149 := eq_true p149
                  replace q149 := eq_true q149
                  have p150 : 0 ≤ (x7_3 : Int) := of_decide_eq_true (by first | (with_reducible assumption) | assumption)
                  have q150 : x7_3 < (t143.length : Int) := of_decide_eq_true (by first | (with_reducible assumption) | assumption)
                  obtain ⟨ad150, e150, hx150_0⟩ := Kd.at_int (Kd.R_reads' HO_5.out).2.2 x7_3 p150 q150
                  obtain rfl : ad149 = ad150 := (by injection e150)
                  replace p150 := eq_true p150
                  replace q150 := eq_true q150
                  have p151 : 0 ≤ (x7_3 : Int) := of_decide_eq_true (by first | (with_reducible assumption) | assumption)
                  have q151 : x7_3 < (t143.length : Int) := of_decide_eq_true (by first | (with_reducible assumption) | assumption)
                  obtain ⟨ad151, e151, hx151_0⟩ := Kd.at_int (Kd.R_reads' HO_5.out).2.2 x7_3 p151 q151
                  obtain rfl : ad149 = ad151 := (by injection e151)
                  replace p151 := eq_true p151
                  replace q151 := eq_true q151
                  go_wp2
                  repeat (go_quiet (fail); try go_wp2)
                  go_roundg k3
                  case measure => have := HJ5.out; have := HJ14.out; have := HK3.out; omega
                  case rel => exact ⟨(ji27), (by first | rfl | (simp; done) | (simp only [← hji27] <;> (first | rfl | simp)) | (simp [*]; done)), H', ⟨by have := HJ5.out; have := HJ14.out; have := HK3.out; omega⟩, ⟨by (with_reducible repeat (first | apply Kd.R_alloc | apply Kd.R_drewN | apply Kd.R_drew)); exact HO_5.out⟩, ⟨by repeat (first | (with_reducible first | exact HB.out | apply below_alloc | apply pw_below_drewN | apply below_drew1) | exact HB.out)⟩⟩
                 ·
                  rw [if_neg c34] at H
                  have c34b0 : ((wrap64 ((rd t143 (ji27)) - (rd t143 x7_3))) == (wrap64 (Int.tdiv a0 a1))) = false := beq_eq_false_iff_ne.mpr c34
                  have c34b1 : ((wrap64 ((rd t143 (ji27)) - (rd t143 x7_3))) != (wrap64 (Int.tdiv a0 a1))) = true := bne_iff_ne.mpr c34
                  by_cases c36 : (wrap64 ((rd t143 (ji27)) - (rd t143 x7_3))) = (wrap64 ((wrap64 (Int.tdiv a0 a1)) + 1))
                  ·
                   rw [if_pos c36] at H
                   have c36b0 : ((wrap64 ((rd t143 (ji27)) - (rd t143 x7_3))) == (wrap64 ((wrap64 (Int.tdiv a0 a1)) + 1))) = true := beq_iff_eq.mpr c36
                   have c36b1 : ((wrap64 ((rd t143 (ji27)) - (rd t143 x7_3))) != (wrap64 ((wrap64 (Int.tdiv a0 a1)) + 1))) = false := bne_eq_false_iff_eq.mpr c36
                   clear c36
                   have H' := Aside0.mk H
                   clear H
                   obtain ⟨Ao37, co37, eo37⟩ := Kd.R_slice HO_5.out
                   subst eo37
                   have p149 : 0 ≤ ((ji27) : Int) := of_decide_eq_true (by first | (with_reducible assumption) | assumption)
                   have q149 : (ji27) < (t143.length : Int) := of_decide_eq_true (by first | (with_reducible assumption) | assumption)
                   obtain ⟨ad149, e149, hx149_0⟩ := Kd.at_int (Kd.R_reads' HO_5.out).2.2 (ji27) p149 q149
                   cases e149
                   replace p149 := eq_true p149
                   replace q149 := eq_true q149
                   have p150 : 0 ≤ (x7_3 : Int) := of_decide_eq_true (by first | (with_reducible assumption) | assumption)
                   have q150 : x7_3 < (t143.length : Int) := of_decide_eq_true (by first | (with_reducible assumption) | assumption)
                   obtain ⟨ad150, e150, hx150_0⟩ := Kd.at_int (Kd.R_reads' HO_5.out).2.2 x7_3 p150 q150
                   obtain rfl : ad149 = ad150 := (by injection e150)
                   replace p150 := eq_true p150
                   replace q150 := eq_true q150
                   have p151 : 0 ≤ (x7_3 : Int) := of_decide_eq_true (by first | (with_reducible assumption) | assumption)
                   have q151 : x7_3 < (t143.length : Int) := of_decide_eq_true (by first | (with_reducible assumption) | assumption)
                   obtain ⟨ad151, e151, hx151_0⟩ := Kd.at_int (Kd.R_reads' HO_5.out).2.2 x7_3 p151 q151
                   obtain rfl : ad149 = ad151 := (by injection e151)
                   replace p151 := eq_true p151
                   replace q151 := eq_true q151
                   go_wp2
                   repeat (go_quiet (fail); try go_wp2)
                   go_roundg k3
                   case measure => have := HJ5.out; have := HJ14.out; have := HK3.out; omega
                   case rel => exact ⟨(ji27), (by first | rfl | (simp; done) | (simp only [← hji27] <;> (first | rfl | simp)) | (simp [*]; done)), H', ⟨by have := HJ5.out; have := HJ14.out; have := HK3.out; omega⟩, ⟨by (with_reducible repeat (first | apply Kd.R_alloc | apply Kd.R_drewN | apply Kd.R_drew)); exact HO_5.out⟩, ⟨by repeat (first | (with_reducible first | exact HB.out | apply below_alloc | apply pw_below_drewN | apply below_drew1) | exact HB.out)⟩⟩
                  ·
                   rw [if_neg c36] at H
                   have c36b0 : ((wrap64 ((rd t143 (ji27)) - (rd t143 x7_3))) == (wrap64 ((wrap64 (Int.tdiv a0 a1)) + 1))) = false := beq_eq_false_iff_ne.mpr c36
                   have c36b1 : ((wrap64 ((rd t143 (ji27)) - (rd t143 x7_3))) != (wrap64 ((wrap64 (Int.tdiv a0 a1)) + 1))) = true := bne_iff_ne.mpr c36
                   obtain rfl := Option.some.inj H
                   obtain ⟨Ao38, co38, eo38⟩ := Kd.R_slice HO_5.out
                   subst eo38
                   have p149 : 0 ≤ ((ji27) : Int) := of_decide_eq_true (by first | (with_reducible assumption) | assumption)
                   have q149 : (ji27) < (t143.length : Int) := of_decide_eq_true (by first | (with_reducible assumption) | assumption)
                   obtain ⟨ad149, e149, hx149_0⟩ := Kd.at_int (Kd.R_reads' HO_5.out).2.2 (ji27) p149 q149
                   cases e149
                   replace p149 := eq_true p149
                   replace q149 := eq_true q149
                   have p150 : 0 ≤ (x7_3 : Int) := of_decide_eq_true (by first | (with_reducible assumption) | assumption)
                   have q150 : x7_3 < (t143.length : Int) := of_decide_eq_true (by first | (with_reducible assumption) | assumption)
                   obtain ⟨ad150, e150, hx150_0⟩ := Kd.at_int (Kd.R_reads' HO_5.out).2.2 x7_3 p150 q150
                   obtain rfl : ad149 = ad150 := (by injection e150)
                   replace p150 := eq_true p150
                   replace q150 := eq_true q150
                   have p151 : 0 ≤ (x7_3 : Int) := of_decide_eq_true (by first | (with_reducible assumption) | assumption)
                   have q151 : x7_3 < (t143.length : Int) := of_decide_eq_true (by first | (with_reducible assumption) | assumption)
                   obtain ⟨ad151, e151, hx151_0⟩ := Kd.at_int (Kd.R_reads' HO_5.out).2.2 x7_3 p151 q151
                   obtain rfl : ad149 = ad151 := (by injection e151)
                   replace p151 := eq_true p151
                   replace q151 := eq_true q151
                   go_wp2
                   repeat (go_quiet (fail); try go_wp2)
                   go_ret
                   exact ⟨by first | rfl | (simp [errW_none, errW_some] <;> rfl) | (simp only [← hji27]; first | rfl | (simp [errW_none, errW_some] <;> rfl)) | (simp [*, errW_none, errW_some] <;> rfl), by repeat (first | (with_reducible first | exact HB.out | apply below_alloc | apply pw_below_drewN | apply below_drew1) | exact HB.out)⟩
                ·
                 rw [if_neg c33] at H
                 have c33b0 : ((rd t143 x7_3) == (wrap64 (Int.tdiv (wrap64 (x7_3 * a0)) a1))) = false := beq_eq_false_iff_ne.mpr c33
                 have c33b1 : ((rd t143 x7_3) != (wrap64 (Int.tdiv (wrap64 (x7_3 * a0)) a1))) = true := bne_iff_ne.mpr c33
                 obtain rfl := Option.some.inj H
                 obtain ⟨Ao39, co39, eo39⟩ := Kd.R_slice HO_5.out
                 subst eo39
                 have p149 : 0 ≤ ((ji27) : Int) := of_decide_eq_true (by first | (with_reducible assumption) | assumption)
                 have q149 : (ji27) < (t143.length : Int) := of_decide_eq_true (by first | (with_reducible assumption) | assumption)
                 obtain ⟨ad149, e149, hx149_0⟩ := Kd.at_int (Kd.R_reads' HO_5.out).2.2 (ji27) p149 q149
                 cases e149
                 replace p149 := eq_true p149
                 replace q149 := eq_true q149
                 have p150 : 0 ≤ (x7_3 : Int) := of_decide_eq_true (by first | (with_reducible assumption) | assumption)
                 have q150 : x7_3 < (t143.length : Int) := of_decide_eq_true (by first | (with_reducible assumption) | assumption)
                 obtain ⟨ad150, e150, hx150_0⟩ := Kd.at_int (Kd.R_reads' HO_5.out).2.2 x7_3 p150 q150
                 obtain rfl : ad149 = ad150 := (by injection e150)
                 replace p150 := eq_true p150
                 replace q150 := eq_true q150
                 have p151 : 0 ≤ (x7_3 : Int) := of_decide_eq_true (by first | (with_reducible assumption) | assumption)
                 have q151 : x7_3 < (t143.length : Int) := of_decide_eq_true (by first | (with_reducible assumption) | assumption)
                 obtain ⟨ad151, e151, hx151_0⟩ := Kd.at_int (Kd.R_reads' HO_5.out).2.2 x7_3 p151 q151
                 obtain rfl : ad149 = ad151 := (by injection e151)
                 replace p151 := eq_true p151
                 replace q151 := eq_true q151
                 go_wp2
                 repeat (go_quiet (fail); try go_wp2)
                 go_ret
                 exact ⟨by first | rfl | (simp [errW_none, errW_some] <;> rfl) | (simp only [← hji27]; first | rfl | (simp [errW_none, errW_some] <;> rfl)) | (simp [*, errW_none, errW_some] <;> rfl), by repeat (first | (with_reducible first | exact HB.out | apply below_alloc | apply pw_below_drewN | apply below_drew1) | exact HB.out)⟩
              ·
               rw [if_neg c31] at H
               exact absurd H (by simp)
             ·
              rw [if_neg c30] at H
              exact absurd H (by simp)
            ·
             rw [if_neg c29] at H
             exact absurd H (by simp)
           ·
            rw [if_neg c28] at H
            exact absurd H (by simp)
          ·
           rw [if_neg c26] at H
           have c26b0 : decide (x7_3 < a1) = false := decide_eq_false c26
           clear c26
           obtain rfl := Option.some.inj H
           go_wp2
           repeat (go_quiet (fail); try go_wp2)
           go_ret
           exact ⟨by first | rfl | (simp [errW_none, errW_some] <;> rfl) | (simp [*, errW_none, errW_some] <;> rfl), by repeat (first | (with_reducible first | exact HB.out | apply below_alloc | apply pw_below_drewN | apply below_drew1) | exact HB.out)⟩
 ·
  replace c4 := Bool.eq_false_iff.mpr c4
  subst c4
  have H1 : (some false) = some r := by rw [if_neg (show ¬ (false = true) by decide)] at H; exact H
  clear H
  have H := H1
  clear H1
  obtain rfl := Option.some.inj H
  go_enter Try.func3, Try.ntmps3
  go_wp2_with (first | (go_at_call 10; (with_reducible refine (pelotonlaw04_awake.calls k  false _ A3.out).mono ?_); rintro e w40 ⟨rfl, hb⟩; have n0_ := Aside0.mk (below_step (by repeat (first | (with_reducible first | exact HB.out | apply below_alloc | apply pw_below_drewN | apply below_drew1) | exact HB.out)) hb); clear HB; have HB := n0_; clear n0_; (try clear hb); (try clear hb2); (try clear hk); (try clear hi)))
  repeat (go_quiet (first | (go_at_call 10; (with_reducible refine (pelotonlaw04_awake.calls k  false _ A3.out).mono ?_); rintro e w40 ⟨rfl, hb⟩; have n0_ := Aside0.mk (below_step (by repeat (first | (with_reducible first | exact HB.out | apply below_alloc | apply pw_below_drewN | apply below_drew1) | exact HB.out)) hb); clear HB; have HB := n0_; clear n0_; (try clear hb); (try clear hb2); (try clear hk); (try clear hi))); try go_wp2_with (first | (go_at_call 10; (with_reducible refine (pelotonlaw04_awake.calls k  false _ A3.out).mono ?_); rintro e w40 ⟨rfl, hb⟩; have n0_ := Aside0.mk (below_step (by repeat (first | (with_reducible first | exact HB.out | apply below_alloc | apply pw_below_drewN | apply below_drew1) | exact HB.out)) hb); clear HB; have HB := n0_; clear n0_; (try clear hb); (try clear hb2); (try clear hk); (try clear hi))))
  go_ret
  exact ⟨by first | rfl | (simp [errW_none, errW_some] <;> rfl) | (simp [*, errW_none, errW_some] <;> rfl), by repeat (first | (with_reducible first | exact HB.out | apply below_alloc | apply pw_below_drewN | apply below_drew1) | exact HB.out)⟩

/-- THE ONE PURE STATEMENT of pelotonlaw04_MatmulSpans. -/
def pelotonlaw04_MatmulSpans.Pure : Prop := ∀ (a0 : Int) (a1 : Int), ((Lit.int .i64 a0).wf = true) → ((Lit.int .i64 a1).wf = true) → ∃ k, pelotonlaw04_MatmulSpans.f k a0 a1 = some true

end Go.Proofs.Ytananmepljeldaa.QMatmulSpans
