-- Written by a program of this session (a turned copy of the print) out of the translation. Lean checks it.
import Derived.Test.YtofoimndhndffaaQFrameSplitsx0
import Derived.Test.YtofoimndhndffaaQFrameSplitsx1
import Derived.Test.YtofoimndhndffaaQFrameSplitsx2
namespace Go.Proofs.Ytofoimndhndffaa.QFrameSplits
open Go.RowKit Go.Proofs.YtofoimndhndffaaW.PrintWords Go.Proofs.YtofoimndhndffaaW.PrintLast Go.Proofs.YtofoimndhndffaaW.PrintMore
attribute [local go_sem] max2_int min2_int max_two min_two max_three min_three max_four min_four   -- for this text's walks alone
open Go.Proofs.YtofoimndhndffaaW.PrintWords renaming below_alloc → b_a, pw_below_drewN → b_n, below_drew1 → b_d, below_set → b_s, blk_drewN → k_n, blk_drew → k_d, blk_alloc → k_a
open List renaming setIfInBounds_toArray → l_1, set_cons_zero → l_2, set_cons_succ → l_3, map_toArray → l_4, map_cons → l_5, map_nil → l_6, length_drop → l_7, length_take → l_8
set_option linter.unusedVariables false
set_option linter.unusedSimpArgs false

/-! ### pelotonlaw14_awake: function 8, by hand -/
def pelotonlaw14_awake.f : Option Bool := some true
def pelotonlaw14_awake.bs : List Int := [80, 76, 1, 5, 0, 0, 0, 2, 97, 98, 32, 116, 191, 232]
theorem pelotonlaw14_awake.pack : frame_Pack.f 5 [97, 98] = some (pelotonlaw14_awake.bs, 0) := by decide +kernel
theorem pelotonlaw14_awake.parse : frame_Parse.f 9 (pelotonlaw14_awake.bs.take 13) = some (0, [], 70) := by decide +kernel
set_option maxHeartbeats 8000000 in
set_option maxRecDepth 100000 in
theorem pelotonlaw14_awake.calls (r : Bool) (w : World) (h : pelotonlaw14_awake.f = some r) :
    Calls Try.prog 8 #[] w fun e w' => e = .returned (.bool r) ∧ Below w.heap.size w w' := by
  obtain rfl := Option.some.inj h
  clear h
  have HB := Aside0.mk (Below.refl w.heap.size w)
  have kc1 := Lib.run_convert_bytes_const (P := Try.prog) w 22 5 #[.int .u8 97, .int .u8 98] 2 2 Try.underlying22 Try.underlying5
  obtain ⟨i0, hi0, _, hsz0, _⟩ := info_parts info5
  have HI := Aside0.mk hi0
  clear hi0 hsz0
  go_enter Try.func8, Try.ntmps8
  go_wp2_with (first | (go_at_call 9; refine (frame_Pack.calls 5 (some ⟨w.heap.size, 0, none⟩) 2 [97, 98] pelotonlaw14_awake.bs 0 _ (C_blk (l := [97, 98]) (by simp) (top_alloc _ _ _ rfl)) (by simp) pelotonlaw14_awake.pack).mono ?_; rintro e w1 ⟨v1, rfl, ho, hb⟩; obtain ⟨A, c, ev⟩ := Kd.R_slice ho; (have ev' : v1 = .slice A 14 c := ev); clear ev; subst ev'; have HR := Kd.R_reads' ho; have hcut10 : ∀ W : World, (Instr.slice 22 (.slice A 14 c) none (some (.int .i64 10)) none).run Try.prog W = .ok (.slice A 10 c) W := cut_to (P := Try.prog) 22 5 .i64 Try.underlying22 HI.out A 14 c 10 (by omega) (by omega) HR.2.1; have hcut13 : ∀ W : World, (Instr.slice 22 (.slice A 14 c) none (some (.int .i64 13)) none).run Try.prog W = .ok (.slice A 13 c) W := cut_to (P := Try.prog) 22 5 .i64 Try.underlying22 HI.out A 14 c 13 (by omega) (by omega) HR.2.1; have hcv : (convert 22 9 (.slice A 10 c)).run Try.prog w1 = .ok (.string ⟨#[80, 76, 1, 5, 0, 0, 0, 2, 97, 98]⟩) w1 := Kd.C_string (P := Try.prog) (A := A) (c := c) Try.underlying22 Try.underlying5 Try.underlying9 (Kd.C_take (m := 10) HR.2.2 (by decide)); have HO1 := Aside0.mk ho; have HB1 := Aside0.mk (below_step (b_a HB.out _) hb); clear ho hb HR kc1) | (go_at_call 11; refine (frame_Parse.calls 9 A c (pelotonlaw14_awake.bs.take 13) 0 [] 70 _ (Kd.C_take (m := 13) (Kd.R_reads' HO1.out).2.2 (by decide)) (Nat.le_trans (show (pelotonlaw14_awake.bs.take 13).length ≤ 14 by decide) (Kd.R_reads' HO1.out).2.1) pelotonlaw14_awake.parse).mono ?_; rintro e w2 ⟨v2, rfl, _, hb⟩; have HB2 := Aside0.mk (below_step HB1.out hb); clear hb))
  go_ret
  exact ⟨rfl, HB2.out⟩
/-! ### pelotonref14_four: function 18 -/
def pelotonref14_four.f (a0 : Int) : Option (List Int) := some (([((Int.tdiv a0 16777216) % 4294967296) % 256, ((Int.tdiv a0 65536) % 4294967296) % 256, ((Int.tdiv a0 256) % 4294967296) % 256, (a0) % 256] : List Int))
set_option maxHeartbeats 60000000 in
set_option maxRecDepth 100000 in
theorem pelotonref14_four.calls (a0 : Int) (r : List Int) (w : World) (h : pelotonref14_four.f a0 = some r) :
  Calls Try.prog 18 #[.int .u32 a0] w fun e w' => ∃ v0_ : Value, e = .returned (v0_) ∧ Kd.R (Kd.int .u8) 5 w' w.heap.size (fun _ => True) v0_ r ∧ Below w.heap.size w w' := by
 have HB := Aside0.mk (Below.refl w.heap.size w)
 have H : (some (([((Int.tdiv a0 16777216) % 4294967296) % 256, ((Int.tdiv a0 65536) % 4294967296) % 256, ((Int.tdiv a0 256) % 4294967296) % 256, (a0) % 256] : List Int))) = some r := h
 clear h
 obtain ⟨y148, hy148⟩ : ∃ y_ : List Int, y_ = (([((Int.tdiv a0 16777216) % 4294967296) % 256, ((Int.tdiv a0 65536) % 4294967296) % 256, ((Int.tdiv a0 256) % 4294967296) % 256, (a0) % 256] : List Int)) := ⟨_, rfl⟩
 replace H : (some y148) = some r := by first | (rw [hy148]; with_reducible exact H) | (have H2_ := (Option.bind_some _ _).symm.trans H; rw [hy148]; with_reducible exact H2_) | (have H2_ := (Option.bind_some _ _).symm.trans H; with_reducible exact H2_) | with_reducible exact H | (rw [hy148]; exact H) | exact H
 have Ny148 := Aside0.mk hy148
 clear hy148
 obtain rfl := Option.some.inj H
 go_enter Try.func18, Try.ntmps18
 go_wp2_with (first | ((with_reducible refine gate_dst (N := 14) rfl ?_); refine Kd.R_lit (Kd.int .u8) _ 5 ?hg (N := 14) ?hd (xs := ([((Int.tdiv a0 16777216) % 4294967296) % 256, ((Int.tdiv a0 65536) % 4294967296) % 256, ((Int.tdiv a0 256) % 4294967296) % 256, (a0) % 256] : List Int)) (inner := [.int .u8 (((Int.tdiv a0 16777216) % 4294967296) % 256), .int .u8 (((Int.tdiv a0 65536) % 4294967296) % 256), .int .u8 (((Int.tdiv a0 256) % 4294967296) % 256), .int .u8 ((a0) % 256)]) (ok := fun _ => True) (okp := fun _ => True) ?hr ?hp (fun _ hk => hk) trivial (Below.refl _ _) (Nat.le_refl _) (by simp) ?_; (case hd => rfl); (case hg => rfl); (case hr => first | (go_simp; done) | (go_simp; rfl)); (case hp => exact (Reps.one (show Kd.M (Kd.int .u8) _ _ _ (((Int.tdiv a0 16777216) % 4294967296) % 256) [.int .u8 (((Int.tdiv a0 16777216) % 4294967296) % 256)] from rfl) (Reps.one (show Kd.M (Kd.int .u8) _ _ _ (((Int.tdiv a0 65536) % 4294967296) % 256) [.int .u8 (((Int.tdiv a0 65536) % 4294967296) % 256)] from rfl) (Reps.one (show Kd.M (Kd.int .u8) _ _ _ (((Int.tdiv a0 256) % 4294967296) % 256) [.int .u8 (((Int.tdiv a0 256) % 4294967296) % 256)] from rfl) (Reps.one (show Kd.M (Kd.int .u8) _ _ _ ((a0) % 256) [.int .u8 ((a0) % 256)] from rfl) (Reps.none _ _)))))); intro v149 w2 ho3 hb hg_ hnew_; clear hg_ hnew_; (first | rw [← Ny148.out] at ho3 | (simp only [Int.reduceToNat] at ho3; rw [← Ny148.out] at ho3)); have HO150 := Aside0.mk (Kd.R_lower ho3 (below_size (bw_ HB))); replace HB := Aside0.mk (below_step (bw_ HB) hb); clear hb ho3))
 go_ret
 exact ⟨_, by first | rfl | (simp [errW_none, errW_some] <;> rfl) | (simp [*, errW_none, errW_some] <;> rfl), by (with_reducible repeat (first | apply Kd.R_alloc | apply Kd.R_drewN | apply Kd.R_drew)); exact HO150.out, by repeat (first | (with_reducible first | exact HB.out | apply b_a | apply b_n | apply b_d) | exact HB.out)⟩

/-! ### pelotonref07_Sum: function 19 -/
mutual
def pelotonref07_Sum.l0 : Nat → List Int → Int → Int → Option (Int)
 | 0, _, _, _ => none
 | k + 1, x0, x3, x4 => if x4 < (x0.length : Int) then (if 0 ≤ x4 then (pelotonref07_Sum.l1 k x0 (Go.bits .xor .u32 x3 ((rd x0 x4) % 4294967296)) x4 0) else (none)) else (some (Go.bits .xor .u32 x3 4294967295))
def pelotonref07_Sum.l1 : Nat → List Int → Int → Int → Int → Option (Int)
 | 0, _, _, _, _ => none
 | k + 1, x0, x3, x4, x5 => if x5 < 8 then (if (Int.tmod x3 2) = 1 then (pelotonref07_Sum.l1 k x0 (Go.bits .xor .u32 ((Int.tdiv x3 2) % 4294967296) 3988292384) x4 (wrap64 (x5 + 1))) else (pelotonref07_Sum.l1 k x0 ((Int.tdiv x3 2) % 4294967296) x4 (wrap64 (x5 + 1)))) else (pelotonref07_Sum.l0 k x0 x3 (wrap64 (x4 + 1)))
end
def pelotonref07_Sum.f (k : Nat) (l0 : List Int) : Option (Int) := pelotonref07_Sum.l0 k l0 4294967295 0
theorem pelotonref07_Sum.mono_l : ∀ k, (∀ y0 y1 y2, LeO (pelotonref07_Sum.l0 k y0 y1 y2) (pelotonref07_Sum.l0 (k + 1) y0 y1 y2)) ∧ (∀ y0 y1 y2 y3, LeO (pelotonref07_Sum.l1 k y0 y1 y2 y3) (pelotonref07_Sum.l1 (k + 1) y0 y1 y2 y3))
 | 0 => ⟨fun _ _ _ r h => by simp [pelotonref07_Sum.l0] at h, fun _ _ _ _ r h => by simp [pelotonref07_Sum.l1] at h⟩
 | k + 1 => by
  obtain ⟨ih0, ih1⟩ := pelotonref07_Sum.mono_l k
  refine ⟨?_, ?_⟩
  ·
   intro y0 y1 y2
   unfold pelotonref07_Sum.l0
   repeat' first
   | (with_reducible exact ih0 _ _ _)
   | (with_reducible exact ih1 _ _ _ _)
   | (with_reducible exact LeO.refl _)
   | (with_reducible exact LeO.none _)
   | (with_reducible refine LeO.ite ?_ ?_)
   | (with_reducible refine LeO.bind ?_ (fun _ => ?_))
   | exact ih0 _ _ _
   | exact ih1 _ _ _ _
   | exact LeO.none _
   | refine LeO.ite ?_ ?_
   | refine LeO.bind ?_ (fun _ => ?_)
  ·
   intro y0 y1 y2 y3
   unfold pelotonref07_Sum.l1
   repeat' first
   | (with_reducible exact ih0 _ _ _)
   | (with_reducible exact ih1 _ _ _ _)
   | (with_reducible exact LeO.refl _)
   | (with_reducible exact LeO.none _)
   | (with_reducible refine LeO.ite ?_ ?_)
   | (with_reducible refine LeO.bind ?_ (fun _ => ?_))
   | exact ih0 _ _ _
   | exact ih1 _ _ _ _
   | exact LeO.none _
   | refine LeO.ite ?_ ?_
   | refine LeO.bind ?_ (fun _ => ?_)
theorem pelotonref07_Sum.mono : ∀ a0 k, LeO (pelotonref07_Sum.f k a0) (pelotonref07_Sum.f (k + 1) a0) := by
 intro a0 k
 obtain ⟨ih0, ih1⟩ := pelotonref07_Sum.mono_l k
 unfold pelotonref07_Sum.f
 repeat' first
   | (with_reducible exact ih0 _ _ _)
   | (with_reducible exact ih1 _ _ _ _)
   | (with_reducible exact LeO.refl _)
   | (with_reducible exact LeO.none _)
   | (with_reducible refine LeO.ite ?_ ?_)
   | (with_reducible refine LeO.bind ?_ (fun _ => ?_))
   | exact ih0 _ _ _
   | exact ih1 _ _ _ _
   | exact LeO.none _
   | refine LeO.ite ?_ ?_
   | refine LeO.bind ?_ (fun _ => ?_)
set_option maxHeartbeats 60000000 in
set_option maxRecDepth 100000 in
theorem pelotonref07_Sum.calls (k : Nat) (A0 : Option Addr) (c0 : Nat) (l0 : List Int) (r : Int) (w : World) (hr0 : Kd.C (Kd.int .u8) w A0 l0.length l0) (hc0 : l0.length ≤ c0) (h : pelotonref07_Sum.f k l0 = some r) :
  Calls Try.prog 19 #[.slice A0 l0.length c0] w fun e w' => e = .returned (.int .u32 r) ∧ Drawn0 w w' := by
 have HR0 := Aside0.mk hr0
 have HC0 := Aside0.mk hc0
 clear hr0 hc0
 have H : (pelotonref07_Sum.l0 k l0 4294967295 0) = some r := h
 clear h
 have H' := Aside0.mk H
 clear H
 go_enter Try.func19, Try.ntmps19
 go_wp2
 go_loopg [3, 4] k (fun kq v3 v4 w' => ∃ (x3_1 : Int) (x4_1 : Int), v3 = .int .u32 x3_1 ∧ v4 = .int .i64 x4_1 ∧ Aside0 (pelotonref07_Sum.l0 kq l0 x3_1 x4_1 = some r) ∧ Aside0 (kq ≤ k) ∧ Drawn0 w w')
 case atStart => exact ⟨(4294967295), (0), (by first | rfl | (simp; done) | (simp [*]; done)), (by first | rfl | (simp; done) | (simp [*]; done)), H', ⟨Nat.le_refl _⟩, by repeat (first | exact Drawn0.refl _ | apply Drawn0.step)⟩
 case round =>
  clear H'
  try clear c1
  obtain ⟨x3_1, x4_1, rfl, rfl, HA, HK1, ⟨m1, rfl⟩⟩ := hrel
  cases gk with
  | zero => exact absurd HA.out (by simp [pelotonref07_Sum.l0])
  | succ k1 =>
   have H := HA.out
   clear HA
   simp only [pelotonref07_Sum.l0] at H
   by_cases c2 : x4_1 < (l0.length : Int)
   rotate_left
   ·
    rw [if_neg c2] at H
    have c2b0 : decide (x4_1 < (l0.length : Int)) = false := decide_eq_false c2
    clear c2
    obtain rfl := Option.some.inj H
    go_wp2
    go_ret
    exact ⟨by first | rfl | (simp; done) | (simp [*]; done), by repeat (first | exact Drawn0.refl _ | apply Drawn0.step)⟩

   rw [if_pos c2] at H
   have c2b0 : decide (x4_1 < (l0.length : Int)) = true := decide_eq_true c2
   clear c2
   by_cases c3 : 0 ≤ x4_1
   rotate_left
   ·
    rw [if_neg c3] at H
    exact absurd H (by simp)
   rw [if_pos c3] at H
   have c3b0 : decide (0 ≤ x4_1) = true := decide_eq_true c3
   clear c3
   have H' := Aside0.mk H
   clear H
   have p151 : 0 ≤ (x4_1 : Int) := of_decide_eq_true (by first | (with_reducible assumption) | assumption)
   have q151 : x4_1 < (l0.length : Int) := of_decide_eq_true (by first | (with_reducible assumption) | assumption)
   obtain ⟨ad151, e151, hx151_0⟩ := Kd.at_int HR0.out x4_1 p151 q151
   cases e151
   replace p151 := eq_true p151
   replace q151 := eq_true q151
   go_wp2
   go_loopg [3, 5] k1 (fun kq v3 v5 w' => ∃ (x3_2 : Int) (x5_2 : Int), v3 = .int .u32 x3_2 ∧ v5 = .int .i64 x5_2 ∧ Aside0 (pelotonref07_Sum.l1 kq l0 x3_2 x4_1 x5_2 = some r) ∧ Aside0 (kq ≤ k1) ∧ Drawn0 w w')
   case atStart => exact ⟨(Go.bits .xor .u32 x3_1 ((rd l0 x4_1) % 4294967296)), (0), (by first | rfl | (simp; done) | (simp [*]; done)), (by first | rfl | (simp; done) | (simp [*]; done)), H', ⟨Nat.le_refl _⟩, by repeat (first | exact Drawn0.refl _ | apply Drawn0.step)⟩
   case round =>
    clear H'
    try clear c1
    try clear p1
    try clear q1
    try clear hx1
    try clear c2
    try clear c2b0
    try clear p2
    try clear c3
    try clear c3b0
    try clear hx151_0
    try clear p151
    try clear q151
    obtain ⟨x3_2, x5_2, rfl, rfl, HA, HK2, ⟨m2, rfl⟩⟩ := hrel
    cases gk with
    | zero => exact absurd HA.out (by simp [pelotonref07_Sum.l1])
    | succ k2 =>
     have H := HA.out
     clear HA
     simp only [pelotonref07_Sum.l1] at H
     by_cases c4 : x5_2 < 8
     rotate_left
     ·
      rw [if_neg c4] at H
      have c4b0 : decide (x5_2 < 8) = false := decide_eq_false c4
      clear c4
      have H' := Aside0.mk H
      clear H
      go_wp2
      go_roundg k2
      case measure => have := HK1.out; have := HK2.out; omega
      case rel => exact ⟨(x3_2), (wrap64 (x4_1 + 1)), (by first | rfl | (simp; done) | (simp [*]; done)), (by first | rfl | (simp; done) | (simp [*]; done)), H', ⟨by have := HK1.out; have := HK2.out; omega⟩, by repeat (first | exact Drawn0.refl _ | apply Drawn0.step)⟩
     rw [if_pos c4] at H
     have c4b0 : decide (x5_2 < 8) = true := decide_eq_true c4
     clear c4
     by_cases c5 : (Int.tmod x3_2 2) = 1
     rotate_left
     ·
      rw [if_neg c5] at H
      have c5b0 : ((Int.tmod x3_2 2) == 1) = false := beq_eq_false_iff_ne.mpr c5
      have c5b1 : ((Int.tmod x3_2 2) != 1) = true := bne_iff_ne.mpr c5
      have H' := Aside0.mk H
      clear H
      go_wp2
      go_roundg k2
      case measure => have := HK1.out; have := HK2.out; omega
      case rel => exact ⟨((Int.tdiv x3_2 2) % 4294967296), (wrap64 (x5_2 + 1)), (by first | rfl | (simp; done) | (simp [*]; done)), (by first | rfl | (simp; done) | (simp [*]; done)), H', ⟨by have := HK1.out; have := HK2.out; omega⟩, by repeat (first | exact Drawn0.refl _ | apply Drawn0.step)⟩
     rw [if_pos c5] at H
     have c5b0 : ((Int.tmod x3_2 2) == 1) = true := beq_iff_eq.mpr c5
     have c5b1 : ((Int.tmod x3_2 2) != 1) = false := bne_eq_false_iff_eq.mpr c5
     clear c5
     have H' := Aside0.mk H
     clear H
     go_wp2
     go_roundg k2
     case measure => have := HK1.out; have := HK2.out; omega
     case rel => exact ⟨(Go.bits .xor .u32 ((Int.tdiv x3_2 2) % 4294967296) 3988292384), (wrap64 (x5_2 + 1)), (by first | rfl | (simp; done) | (simp [*]; done)), (by first | rfl | (simp; done) | (simp [*]; done)), H', ⟨by have := HK1.out; have := HK2.out; omega⟩, by repeat (first | exact Drawn0.refl _ | apply Drawn0.step)⟩
/-! ### pelotonref14_Pack: function 10 -/
def pelotonref14_Pack.f (k : Nat) (a0 : Int) (l1 : List Int) : Option (List Int) := (some (([80, 76, 1, a0] : List Int) : List Int)).bind fun y152 => ((pelotonref14_four.f (((l1.length : Int)) % 4294967296)).bind fun t155 => (if y152.length + t155.length < 140737488355328 then ((some (y152 ++ t155 : List Int)).bind fun y158 => (if y158.length + l1.length < 140737488355328 then ((some (y158 ++ l1 : List Int)).bind fun y161 => ((pelotonref07_Sum.f k y161).bind fun t164 => ((pelotonref14_four.f t164).bind fun t165 => (if y161.length + t165.length < 140737488355328 then (some (y161 ++ t165)) else (none))))) else (none))) else (none)))
theorem pelotonref14_Pack.mono : ∀ a0 a1 k, LeO (pelotonref14_Pack.f k a0 a1) (pelotonref14_Pack.f (k + 1) a0 a1) := by
 intro a0 a1 k
 unfold pelotonref14_Pack.f
 repeat' first
   | (with_reducible exact pelotonref07_Sum.mono _ _)
   | (with_reducible exact LeO.refl _)
   | (with_reducible exact LeO.none _)
   | (with_reducible refine LeO.ite ?_ ?_)
   | (with_reducible refine LeO.bind ?_ (fun _ => ?_))
   | exact pelotonref07_Sum.mono _ _
   | exact LeO.none _
   | refine LeO.ite ?_ ?_
   | refine LeO.bind ?_ (fun _ => ?_)
set_option maxHeartbeats 60000000 in
set_option maxRecDepth 100000 in
theorem pelotonref14_Pack.calls (k : Nat) (a0 : Int) (A1 : Option Addr) (c1 : Nat) (l1 : List Int) (r : List Int) (w : World) (hr1 : Kd.C (Kd.int .u8) w A1 l1.length l1) (hc1 : l1.length ≤ c1) (h : pelotonref14_Pack.f k a0 l1 = some r) :
  Calls Try.prog 10 #[.int .u8 a0, .slice A1 l1.length c1] w fun e w' => ∃ v0_ : Value, e = .returned (v0_) ∧ Kd.R (Kd.int .u8) 5 w' w.heap.size (fun _ => True) v0_ r ∧ Below w.heap.size w w' := by
 have HR1 := Aside0.mk hr1
 have HC1 := Aside0.mk hc1
 clear hr1 hc1
 have HB := Aside0.mk (Below.refl w.heap.size w)
 have H : ((some (([80, 76, 1, a0] : List Int) : List Int)).bind fun y152 => ((pelotonref14_four.f (((l1.length : Int)) % 4294967296)).bind fun t155 => (if y152.length + t155.length < 140737488355328 then ((some (y152 ++ t155 : List Int)).bind fun y158 => (if y158.length + l1.length < 140737488355328 then ((some (y158 ++ l1 : List Int)).bind fun y161 => ((pelotonref07_Sum.f k y161).bind fun t164 => ((pelotonref14_four.f t164).bind fun t165 => (if y161.length + t165.length < 140737488355328 then (some (y161 ++ t165)) else (none))))) else (none))) else (none)))) = some r := h
 clear h
 obtain ⟨y152, hy152⟩ : ∃ y_ : List Int, y_ = (([80, 76, 1, a0] : List Int)) := ⟨_, rfl⟩
 replace H : ((pelotonref14_four.f (((l1.length : Int)) % 4294967296)).bind fun t155 => (if y152.length + t155.length < 140737488355328 then ((some (y152 ++ t155 : List Int)).bind fun y158 => (if y158.length + l1.length < 140737488355328 then ((some (y158 ++ l1 : List Int)).bind fun y161 => ((pelotonref07_Sum.f k y161).bind fun t164 => ((pelotonref14_four.f t164).bind fun t165 => (if y161.length + t165.length < 140737488355328 then (some (y161 ++ t165)) else (none))))) else (none))) else (none))) = some r := by first | (rw [hy152]; with_reducible exact H) | (have H2_ := (Option.bind_some _ _).symm.trans H; rw [hy152]; with_reducible exact H2_) | (have H2_ := (Option.bind_some _ _).symm.trans H; with_reducible exact H2_) | with_reducible exact H | (rw [hy152]; exact H) | exact H
 have Ny152 := Aside0.mk hy152
 clear hy152
 replace H := Option.bind_eq_some_iff.mp H
 obtain ⟨t155, A30, H⟩ := H
 replace H : (if y152.length + t155.length < 140737488355328 then ((some (y152 ++ t155 : List Int)).bind fun y158 => (if y158.length + l1.length < 140737488355328 then ((some (y158 ++ l1 : List Int)).bind fun y161 => ((pelotonref07_Sum.f k y161).bind fun t164 => ((pelotonref14_four.f t164).bind fun t165 => (if y161.length + t165.length < 140737488355328 then (some (y161 ++ t165)) else (none))))) else (none))) else (none)) = some r := H
 have A3 := Aside0.mk A30
 clear A30
 by_cases c4 : y152.length + t155.length < 140737488355328
 rotate_left
 ·
  rw [if_neg c4] at H
  exact absurd H (by simp)

 rw [if_pos c4] at H
 have LMc4 := Aside0.mk c4
 clear c4
 obtain ⟨y158, hy158⟩ : ∃ y_ : List Int, y_ = (y152 ++ t155) := ⟨_, rfl⟩
 replace H : (if y158.length + l1.length < 140737488355328 then ((some (y158 ++ l1 : List Int)).bind fun y161 => ((pelotonref07_Sum.f k y161).bind fun t164 => ((pelotonref14_four.f t164).bind fun t165 => (if y161.length + t165.length < 140737488355328 then (some (y161 ++ t165)) else (none))))) else (none)) = some r := by first | (rw [hy158]; with_reducible exact H) | (have H2_ := (Option.bind_some _ _).symm.trans H; rw [hy158]; with_reducible exact H2_) | (have H2_ := (Option.bind_some _ _).symm.trans H; with_reducible exact H2_) | with_reducible exact H | (rw [hy158]; exact H) | exact H
 have Ny158 := Aside0.mk hy158
 clear hy158
 by_cases c5 : y158.length + l1.length < 140737488355328
 rotate_left
 ·
  rw [if_neg c5] at H
  exact absurd H (by simp)
 rw [if_pos c5] at H
 have LMc5 := Aside0.mk c5
 clear c5
 obtain ⟨y161, hy161⟩ : ∃ y_ : List Int, y_ = (y158 ++ l1) := ⟨_, rfl⟩
 replace H : ((pelotonref07_Sum.f k y161).bind fun t164 => ((pelotonref14_four.f t164).bind fun t165 => (if y161.length + t165.length < 140737488355328 then (some (y161 ++ t165)) else (none)))) = some r := by first | (rw [hy161]; with_reducible exact H) | (have H2_ := (Option.bind_some _ _).symm.trans H; rw [hy161]; with_reducible exact H2_) | (have H2_ := (Option.bind_some _ _).symm.trans H; with_reducible exact H2_) | with_reducible exact H | (rw [hy161]; exact H) | exact H
 have Ny161 := Aside0.mk hy161
 clear hy161
 replace H := Option.bind_eq_some_iff.mp H
 obtain ⟨t164, A60, H⟩ := H
 replace H : ((pelotonref14_four.f t164).bind fun t165 => (if y161.length + t165.length < 140737488355328 then (some (y161 ++ t165)) else (none))) = some r := H
 have A6 := Aside0.mk A60
 clear A60
 replace H := Option.bind_eq_some_iff.mp H
 obtain ⟨t165, A70, H⟩ := H
 replace H : (if y161.length + t165.length < 140737488355328 then (some (y161 ++ t165)) else (none)) = some r := H
 have A7 := Aside0.mk A70
 clear A70
 by_cases c8 : y161.length + t165.length < 140737488355328
 rotate_left
 ·
  rw [if_neg c8] at H
  exact absurd H (by simp)
 rw [if_pos c8] at H
 have LMc8 := Aside0.mk c8
 clear c8
 obtain ⟨y168, hy168⟩ : ∃ y_ : List Int, y_ = (y161 ++ t165) := ⟨_, rfl⟩
 replace H : (some y168) = some r := by first | (rw [hy168]; with_reducible exact H) | (have H2_ := (Option.bind_some _ _).symm.trans H; rw [hy168]; with_reducible exact H2_) | (have H2_ := (Option.bind_some _ _).symm.trans H; with_reducible exact H2_) | with_reducible exact H | (rw [hy168]; exact H) | exact H
 have Ny168 := Aside0.mk hy168
 clear hy168
 obtain rfl := Option.some.inj H
 go_enter Try.func10, Try.ntmps10
 go_wp2_with (first | ((with_reducible refine gate_dst (N := 7) rfl ?_); refine Kd.R_lit (Kd.int .u8) _ 5 ?hg (N := 7) ?hd (xs := ([80, 76, 1, a0] : List Int)) (inner := [.int .u8 80, .int .u8 76, .int .u8 1, .int .u8 a0]) (ok := fun _ => True) (okp := fun _ => True) ?hr ?hp (fun _ hk => hk) trivial (Below.refl _ _) (Nat.le_refl _) (by simp) ?_; (case hd => rfl); (case hg => rfl); (case hr => first | (go_simp; done) | (go_simp; rfl)); (case hp => exact (Reps.one (show Kd.M (Kd.int .u8) _ _ _ 80 [.int .u8 80] from rfl) (Reps.one (show Kd.M (Kd.int .u8) _ _ _ 76 [.int .u8 76] from rfl) (Reps.one (show Kd.M (Kd.int .u8) _ _ _ 1 [.int .u8 1] from rfl) (Reps.one (show Kd.M (Kd.int .u8) _ _ _ a0 [.int .u8 a0] from rfl) (Reps.none _ _)))))); intro v153 w9 ho10 hb hg_ hnew_; clear hg_ hnew_; (first | rw [← Ny152.out] at ho10 | (simp only [Int.reduceToNat] at ho10; rw [← Ny152.out] at ho10)); have HO154 := Aside0.mk (Kd.R_lower ho10 (below_size (bw_ HB))); replace HB := Aside0.mk (below_step (bw_ HB) hb); clear hb ho10) | ((with_reducible refine gate_callee (f := 18) rfl ?_); refine goesL_ (some 11) rfl rfl Try.func18 (by kernel_rfl) rfl #[.int .u32 (((l1.length : Int)) % 4294967296)] rfl (by (try simp only [l_4, l_5, l_6]); first | done | rfl | (simp only [l_7, l_8]; rfl)) ?_; (with_reducible refine (pelotonref14_four.calls (((l1.length : Int)) % 4294967296) t155 _ A3.out).mono ?_); rintro e w11 ⟨v156, rfl, ho0, hb⟩; (try clear A3); refine ⟨_, rfl, ?_⟩; have HO157 := Aside0.mk (Kd.R_lower (Kd.R_new' ho0 (Kd.R_lt (tR_ HO154))) (below_size (bw_ HB))); replace HO154 := Aside0.mk (Kd.R_elder' (tR_ HO154) (Kd.R_base ho0) hb); replace HB := Aside0.mk (below_step (bw_ HB) hb); (try clear hb); (try clear hb2); (try clear hk); (try clear hi); (try clear ho0); obtain ⟨Ao13, co13, eo13⟩ := Kd.R_slice HO157.out; subst eo13) | ((with_reducible refine gate_builtin (b := .append) (xs := #[.tmp 7, .tmp 11]) rfl ?_); at_builtin; refine Kd.R_append_rows (Kd.int .u8) (w0 := w) w.heap.size rfl (.tmp 7) (.tmp 11) 22 5 (.int .u8 0) 1 rfl Try.underlying22 info5 rfl (by decide) (by omega) v153 y152 t155 _ _ _ (fun k_ => some k_ ≠ (.slice Ao13 t155.length co13 : Value).ownBlock) (fun _ => False) rfl rfl ?aO ?aR (fun _ _ h => h) (fun _ h => h.elim) ?aF ?aB ?aS ?aL ?_; (case aR => repeat (first | exact (Kd.R_reads' HO157.out).2.2 | (with_reducible refine Kd.C_alloc ?_ _) | (with_reducible refine Kd.C_drewN ?_ _) | (with_reducible refine Kd.C_drew ?_))); (case aB => exact (bw_ HB)); (case aF => exact (fun k_ hk => Kd.fresh' (Kd.R_lt (tR_ HO157)) k_ hk)); (case aO => exact (by (with_reducible repeat (first | apply Kd.R_alloc | apply Kd.R_drewN | apply Kd.R_drew)); exact Kd.R_mono HO154.out (fun _ hk => hk.2))); (case aS => exact (below_size (bw_ HB))); (case aL => have := LMc4.out; omega); intro v159 w12 ho hb hg hat; rw [← Ny158.out] at ho; have n0_ := Aside0.mk (Kd.R_after (ok := (fun _ => True)) (tR_ HO157) hg hat); have n1_ := Aside0.mk (hb); have n2_ := Aside0.mk (ho); clear HO157; clear HB; clear HO154; have HO157 := n0_; have HB := n1_; have HO160 := n2_; clear n0_ n1_ n2_; clear ho hb hg hat) | ((with_reducible refine gate_builtin (b := .append) (xs := #[.tmp 13, .tmp 14]) rfl ?_); at_builtin; refine Kd.R_append_rows (Kd.int .u8) (w0 := w) w.heap.size rfl (.tmp 13) (.tmp 14) 22 5 (.int .u8 0) 1 rfl Try.underlying22 info5 rfl (by decide) (by omega) v159 y158 l1 _ _ _ (fun k_ => some k_ ≠ (.slice Ao13 t155.length co13 : Value).ownBlock) (fun _ => False) rfl rfl ?aO ?aR (fun _ _ h => h) (fun _ h => h.elim) ?aF ?aB ?aS ?aL ?_; (case aR => repeat (first | exact (Kd.C_below HR1.out HB.out) | (with_reducible refine Kd.C_alloc ?_ _) | (with_reducible refine Kd.C_drewN ?_ _) | (with_reducible refine Kd.C_drew ?_))); (case aB => exact (bw_ HB)); (case aF => exact (fun k_ hk => Kd.fresh' (Kd.R_lt (tR_ HO157)) k_ hk)); (case aO => exact (tR_ HO160)); (case aS => exact (below_size (bw_ HB))); (case aL => have := LMc5.out; omega); intro v162 w14 ho hb hg hat; rw [← Ny161.out] at ho; have n0_ := Aside0.mk (Kd.R_after (ok := (fun _ => True)) (tR_ HO157) hg hat); have n1_ := Aside0.mk (hb); have n2_ := Aside0.mk (ho); clear HO157; clear HB; clear HO160; have HO157 := n0_; have HB := n1_; have HO163 := n2_; clear n0_ n1_ n2_; clear ho hb hg hat; obtain ⟨Ao15, co15, eo15⟩ := Kd.R_slice HO163.out; subst eo15) | ((with_reducible refine gate_callee (f := 19) rfl ?_); refine goesL_ (some 18) rfl rfl Try.func19 (by kernel_rfl) rfl #[.slice Ao15 y161.length co15] rfl (by (try simp only [l_4, l_5, l_6]); first | done | rfl | (simp only [l_7, l_8]; rfl)) ?_; (with_reducible refine (pelotonref07_Sum.calls k _ _ y161 t164 _ ?side1 ?side2 A6.out).mono ?_); (case side1 => repeat (first | exact (Kd.R_reads' HO163.out).2.2 | (with_reducible refine Kd.C_alloc ?_ _) | (with_reducible refine Kd.C_drewN ?_ _) | (with_reducible refine Kd.C_drew ?_))); (case side2 => exact (Kd.R_reads' HO163.out).2.1); rintro e w' ⟨rfl, ⟨nd, rfl⟩⟩; refine ⟨_, rfl, ?_⟩) | ((with_reducible refine gate_callee (f := 18) rfl ?_); refine goesL_ (some 19) rfl rfl Try.func18 (by kernel_rfl) rfl #[.int .u32 t164] rfl (by (try simp only [l_4, l_5, l_6]); first | done | rfl | (simp only [l_7, l_8]; rfl)) ?_; (with_reducible refine (pelotonref14_four.calls t164 t165 _ A7.out).mono ?_); rintro e w16 ⟨v166, rfl, ho0, hb⟩; (try clear A7); refine ⟨_, rfl, ?_⟩; have HO167 := Aside0.mk (Kd.R_lower (Kd.R_new' (Kd.R_new' ho0 (Kd.R_lt (tR_ HO157))) (Kd.R_lt (tR_ HO163))) (below_size (bw_ HB))); replace HO157 := Aside0.mk (Kd.R_elder' (tR_ HO157) (Kd.R_base ho0) hb); replace HO163 := Aside0.mk (Kd.R_elder' (tR_ HO163) (Kd.R_base ho0) hb); replace HB := Aside0.mk (below_step (bw_ HB) hb); (try clear hb); (try clear hb2); (try clear hk); (try clear hi); (try clear ho0); obtain ⟨Ao18, co18, eo18⟩ := Kd.R_slice HO167.out; subst eo18) | ((with_reducible refine gate_builtin (b := .append) (xs := #[.tmp 16, .tmp 19]) rfl ?_); at_builtin; refine Kd.R_append_rows (Kd.int .u8) (w0 := w) w.heap.size rfl (.tmp 16) (.tmp 19) 22 5 (.int .u8 0) 1 rfl Try.underlying22 info5 rfl (by decide) (by omega) (.slice Ao15 y161.length co15) y161 t165 _ _ _ (fun k_ => some k_ ≠ (.slice Ao13 t155.length co13 : Value).ownBlock ∧ some k_ ≠ (.slice Ao18 t165.length co18 : Value).ownBlock) (fun _ => False) rfl rfl ?aO ?aR (fun _ _ h => h) (fun _ h => h.elim) ?aF ?aB ?aS ?aL ?_; (case aR => repeat (first | exact (Kd.R_reads' HO167.out).2.2 | (with_reducible refine Kd.C_alloc ?_ _) | (with_reducible refine Kd.C_drewN ?_ _) | (with_reducible refine Kd.C_drew ?_))); (case aB => exact (bw_ HB)); (case aF => exact (fun k_ hk => ⟨Kd.fresh' (Kd.R_lt (tR_ HO157)) k_ hk, Kd.fresh' (Kd.R_lt (tR_ HO167)) k_ hk⟩)); (case aO => exact (tR_ HO163)); (case aS => exact (below_size (bw_ HB))); (case aL => have := LMc8.out; omega); intro v169 w17 ho hb hg hat; rw [← Ny168.out] at ho; have n0_ := Aside0.mk (Kd.R_after (ok := (fun k_ => some k_ ≠ (.slice Ao18 t165.length co18 : Value).ownBlock)) (by (with_reducible repeat (first | apply Kd.R_alloc | apply Kd.R_drewN | apply Kd.R_drew)); exact Kd.R_mono HO157.out (fun _ hk => ⟨hk.2, hk.1.2⟩)) hg hat); have n1_ := Aside0.mk (Kd.R_after (ok := (fun k_ => some k_ ≠ (.slice Ao13 t155.length co13 : Value).ownBlock)) (by (with_reducible repeat (first | apply Kd.R_alloc | apply Kd.R_drewN | apply Kd.R_drew)); exact Kd.R_mono HO167.out (fun _ hk => ⟨hk.1.2, hk.2⟩)) hg hat); have n2_ := Aside0.mk (hb); have n3_ := Aside0.mk (ho); clear HO157; clear HO167; clear HB; clear HO163; have HO157 := n0_; have HO167 := n1_; have HB := n2_; have HO170 := n3_; clear n0_ n1_ n2_ n3_; clear ho hb hg hat))
 go_ret
 exact ⟨_, by first | rfl | (simp [errW_none, errW_some] <;> rfl) | (simp [*, errW_none, errW_some] <;> rfl), by (with_reducible repeat (first | apply Kd.R_alloc | apply Kd.R_drewN | apply Kd.R_drew)); exact Kd.R_mono HO170.out (fun _ hk => trivial), by repeat (first | (with_reducible first | exact HB.out | apply b_a | apply b_n | apply b_d) | exact HB.out)⟩
-- NOT PRINTED: function 25 (bytealg_MakeNoZero)

-- NOT PRINTED: function 24 (bytes_Join)

/-! ### frame_Join: function 13, by hand -/
def frame_Join.ren : Go.Shelf.Ren := ⟨fun k => if k = 14 then 24 else 25, fun k => if k = 26 then 36 else k, fun k => k⟩
theorem frame_Join.lays : SlLaysJ.n14 Try.prog frame_Join.ren where
  mixed := by kernel_rfl
  f14 := by kernel_rfl
  f15 := by kernel_rfl
  t0 := by kernel_rfl
  a0 := fun _ => by kernel_rfl
  z0 := fun _ => by kernel_rfl
  v0 := fun _ => by kernel_rfl
  t3 := by kernel_rfl
  a3 := fun _ => by kernel_rfl
  z3 := fun _ => by kernel_rfl
  v3 := fun _ => by kernel_rfl
  t4 := by kernel_rfl
  a4 := fun _ => by kernel_rfl
  z4 := fun _ => by kernel_rfl
  v4 := fun _ => by kernel_rfl
  t9 := by kernel_rfl
  a9 := fun _ => by kernel_rfl
  z9 := fun _ => by kernel_rfl
  v9 := fun _ => by kernel_rfl
  t20 := by kernel_rfl
  a20 := fun _ => by kernel_rfl
  z20 := fun _ => by kernel_rfl
  v20 := fun _ => by kernel_rfl
  t22 := by kernel_rfl
  a22 := fun _ => by kernel_rfl
  z22 := fun _ => by kernel_rfl
  v22 := fun _ => by kernel_rfl
  t26 := by kernel_rfl
  a26 := fun _ => by kernel_rfl
  z26 := fun _ => by kernel_rfl
  v26 := fun _ => by kernel_rfl
  t5 := by kernel_rfl
  z5 := fun _ => by kernel_rfl
  i5 := by kernel_rfl
def frame_Join.f (ls : List (List Int)) : Option (List Int) :=
  if (∀ l ∈ ls, l ≠ [] ∧ ∀ x ∈ l, 0 ≤ x ∧ x < 256) ∧ ls.length ≤ 140737488355328 ∧ ls.flatten.length ≤ 140737488355328 then some ls.flatten else none
/-- a slice that lies at its block's head, with room that may be written: its block may be greater -/
def JR (w : World) (base : Nat) (v : Value) (xs : List Int) : Prop :=
  ∃ (g cap : Nat), v = .slice (some ⟨g, 0, none⟩) xs.length cap ∧ (base ≤ g ∧ g < w.heap.size) ∧ xs.length ≤ cap ∧ cap ≤ maxLen ∧ (∀ (i : Nat) x, xs[i]? = some x → w.cell? ⟨g, i, none⟩ = some (.int .u8 x)) ∧ ∀ i, i < cap → (w.cell? ⟨g, i, none⟩).isSome = true ∧ w.frozen? ⟨g, i, none⟩ = false
theorem b_get {xs : List Int} (h : ∀ x ∈ xs, 0 ≤ x ∧ x < 256) {i : Nat} {y : UInt8} (hy : (Go.Lib.bytesOf xs)[i]? = some y) : xs[i]? = some (y.toNat : Int) := by
  unfold Go.Lib.bytesOf at hy
  rw [List.getElem?_map] at hy
  cases hx : xs[i]? with
  | none => rw [hx] at hy; cases hy
  | some x =>
    rw [hx] at hy
    simp only [Option.map_some, Option.some.injEq] at hy
    obtain ⟨h0, h1⟩ := h x (List.mem_of_getElem? hx)
    subst hy
    congr 1
    rw [UInt8.toNat_ofNat']
    omega
theorem b_len (xs : List Int) : (Go.Lib.bytesOf xs).length = xs.length := by simp [Go.Lib.bytesOf]
theorem b_at {xs : List Int} {i : Nat} {x : Int} (h : xs[i]? = some x) : (Go.Lib.bytesOf xs)[i]? = some (UInt8.ofNat x.toNat) := by
  unfold Go.Lib.bytesOf
  rw [List.getElem?_map, h]
  rfl
theorem b_inj {xs ys : List Int} (hx : ∀ x ∈ xs, 0 ≤ x ∧ x < 256) (hy : ∀ x ∈ ys, 0 ≤ x ∧ x < 256) (h : Go.Lib.bytesOf xs = Go.Lib.bytesOf ys) : xs = ys := by
  apply List.ext_getElem?
  intro i
  cases e : (Go.Lib.bytesOf xs)[i]? with
  | none =>
    have e2 := e
    rw [h] at e2
    rw [List.getElem?_eq_none_iff, b_len] at e e2
    rw [List.getElem?_eq_none e, List.getElem?_eq_none e2]
  | some y => rw [b_get hx e, b_get hy (h ▸ e)]
theorem b_flat (ls : List (List Int)) : (ls.map Go.Lib.bytesOf).flatten = Go.Lib.bytesOf ls.flatten := by
  induction ls with
  | nil => rfl
  | cons l r ih => simp [Go.Lib.bytesOf] at ih ⊢; exact ih
theorem b_lens (ls : List (List Int)) : Go.Lib.lens (ls.map Go.Lib.bytesOf) = ls.flatten.length := by
  induction ls with
  | nil => rfl
  | cons l r ih =>
    unfold Go.Lib.lens at ih ⊢
    simp only [List.map_cons, List.sum_cons, List.flatten_cons, List.length_append, b_len]
    omega
theorem join_empty (ls : List (List UInt8)) : Go.Lib.join ls [] = ls.flatten := by
  cases ls with
  | nil => rfl
  | cons l r => rw [Go.Lib.join_cons, Go.Lib.joinTail]; simp
theorem JR_fresh {w : World} {base : Nat} {v : Value} {xs : List Int} (hx0 : xs ≠ []) (hx : ∀ x ∈ xs, 0 ≤ x ∧ x < 256) (h : Go.Lib.FreshBytes base w v (Go.Lib.bytesOf xs)) : JR w base v xs := by
  obtain ⟨g, cap, zs, rfl, h1, h2, h3, h4, h5, h6, h7, h8⟩ := h
  rw [b_len] at h2 h6 ⊢
  have e := b_inj (fun x hm => h5 x (List.mem_of_mem_take hm)) hx h6
  have hpos : 0 < xs.length := List.length_pos_iff.2 hx0
  refine ⟨g, cap, rfl, ⟨h1, World.block_lt_of_cell? w _ (h7 0 (by omega))⟩, h2, h3, fun i x hix => ?_, fun i hi => ⟨by rw [h7 i hi]; rfl, h8 i hi⟩⟩
  have hi : i < xs.length := (List.getElem?_eq_some_iff.1 hix).1
  rw [h7 i (by omega)]
  rw [← e, List.getElem?_take, if_pos hi] at hix
  rw [List.getD_eq_getElem?_getD, hix]
  rfl
theorem list_choice {α : Type} {P : Nat → α → Prop} : ∀ n : Nat, (∀ j, j < n → ∃ v, P j v) → ∃ vs : List α, vs.length = n ∧ ∀ j v, vs[j]? = some v → P j v
  | 0, _ => ⟨[], rfl, fun j v h => by simp at h⟩
  | n + 1, h => by
    obtain ⟨vs, hl, hv⟩ := list_choice n (fun j hj => h j (by omega))
    obtain ⟨v, hp⟩ := h n (by omega)
    refine ⟨vs ++ [v], by simp [hl], fun j u hu => ?_⟩
    rcases Nat.lt_or_ge j vs.length with hj | hj
    · rw [List.getElem?_append_left hj] at hu
      exact hv j u hu
    · have hj' : j = vs.length := by
        have := (List.getElem?_eq_some_iff.1 hu).1
        rw [List.length_append, List.length_singleton] at this
        omega
      subst hj'
      have : v = u := by simpa using hu
      subst this
      rw [hl]
      exact hp
theorem frame_Join.parts {w : World} {b o : Nat} {ls : List (List Int)} (hr : Kd.C (Kd.slice 5 (Kd.int .u8)) w (some ⟨b, o, none⟩) ls.length ls) (hx : ∀ l ∈ ls, ∀ x ∈ l, 0 ≤ x ∧ x < 256) : ∃ vs, Go.Lib.PartsAt w ⟨b, o, none⟩ vs (ls.map Go.Lib.bytesOf) ∧ ∀ (j : Nat) (v : Value) (l : List Int), vs[j]? = some v → ls[j]? = some l → ∃ (A : Option Addr) (c : Nat), v = .slice A l.length c ∧ Kd.C (Kd.int .u8) w A l.length l := by
  have hz : ∀ j, j < ls.length → ∃ v, w.cell? ((⟨b, o, none⟩ : Addr).add j) = some v ∧ ∀ l, ls[j]? = some l → ∃ A c, v = .slice A l.length c ∧ Kd.C (Kd.int .u8) w A l.length l := by
    intro j hj
    obtain ⟨ad, e, hc⟩ := hr.2.2 (by omega)
    injection e with e
    subst e
    obtain ⟨c, h1, ⟨A, c', rfl, h2, h3⟩, h4⟩ := hc j _ (List.getElem?_eq_getElem hj)
    refine ⟨.slice A ls[j].length c', ?_, fun l hl => ?_⟩
    · have := h4 0 _ rfl
      simpa [Kd.slice] using this
    · rw [List.getElem?_eq_getElem hj] at hl
      injection hl with hl
      subst hl
      exact ⟨A, c', rfl, h3⟩
  obtain ⟨vs, hl, hv⟩ := list_choice ls.length hz
  refine ⟨vs, ⟨by simp [hl], fun i v hi => (hv i v hi).1, fun i v l hi hli => ?_⟩, fun j v l hj hl => (hv j v hj).2 l hl⟩
  rw [List.getElem?_map] at hli
  cases hq : ls[i]? with
  | none => rw [hq] at hli; cases hli
  | some q =>
    rw [hq] at hli
    injection hli with hli
    subst hli
    obtain ⟨A, c, rfl, hC⟩ := (hv i v hi).2 q hq
    refine ⟨A, c, by rw [b_len], fun hA => ?_, fun a ha j y hy => ?_⟩
    · have h0 : q.length = 0 := by
        rcases Nat.eq_zero_or_pos q.length with h0 | h0
        · exact h0
        · obtain ⟨ad, e, _⟩ := hC.2.2 h0
          rw [hA] at e; cases e
      rw [List.eq_nil_of_length_eq_zero h0]; rfl
    · have hy' := b_get (hx q (List.mem_of_getElem? hq)) hy
      have hj : j < q.length := (List.getElem?_eq_some_iff.1 hy').1
      obtain ⟨ad, e, hc⟩ := hC.2.2 (by omega)
      rw [ha] at e
      injection e with e
      subst e
      obtain ⟨cs, h1, h2, h3⟩ := hc j _ hy'
      have h2' : cs = [Value.int .u8 (y.toNat : Int)] := h2
      subst h2'
      have := h3 0 _ rfl
      simpa [Kd.int, Kd.scalar] using this
theorem frame_Join.callsB (A0 : Option Addr) (c0 : Nat) (ls : List (List Int)) (r : List Int) (w : World) (hr : Kd.C (Kd.slice 5 (Kd.int .u8)) w A0 ls.length ls) (hc : ls.length ≤ c0) (hA : ls = [] ∨ ∃ b o, A0 = some ⟨b, o, none⟩) (h : frame_Join.f ls = some r) :
    Calls Try.prog 24 #[.slice A0 ls.length c0, .slice none 0 0] w fun e w' => ∃ v, e = .returned v ∧ JR w' w.heap.size v r ∧ Below w.heap.size w w' := by
  unfold frame_Join.f at h
  by_cases hg : (∀ l ∈ ls, l ≠ [] ∧ ∀ x ∈ l, 0 ≤ x ∧ x < 256) ∧ ls.length ≤ 140737488355328 ∧ ls.flatten.length ≤ 140737488355328
  · rw [if_pos hg] at h
    obtain rfl := Option.some.inj h
    obtain ⟨hx, hn, hm⟩ := hg
    have hfl : ∀ x ∈ ls.flatten, 0 ≤ x ∧ x < 256 := fun x hm => by
      obtain ⟨l, hl, hxl⟩ := List.mem_flatten.1 hm
      exact (hx l hl).2 x hxl
    rcases hA with rfl | ⟨b, o, rfl⟩
    · refine (Any.bytes_Join_none frame_Join.lays A0 c0 (.slice none 0 0) w).mono ?_
      rintro e w' ⟨rfl, rfl⟩
      refine ⟨_, rfl, ⟨w.heap.size, 0, rfl, ⟨Nat.le_refl _, by simp⟩, Nat.le_refl _, by simp [maxLen], fun i x hi => by simp at hi, fun i hi => absurd hi (by omega)⟩, below_alloc (Below.refl _ _) _⟩
    · obtain ⟨vs, hP, hV⟩ := frame_Join.parts hr (fun l hl => (hx l hl).2)
      rcases Nat.lt_or_ge ls.length 2 with h2 | h2
      · match ls, hr, hc, hx, hn, hm, hfl, hP, hV, h2 with
        | [], _, _, _, _, _, _, _, _, _ =>
          refine (Any.bytes_Join_none frame_Join.lays _ c0 (.slice none 0 0) w).mono ?_
          rintro e w' ⟨rfl, rfl⟩
          refine ⟨_, rfl, ⟨w.heap.size, 0, rfl, ⟨Nat.le_refl _, by simp⟩, Nat.le_refl _, by simp [maxLen], fun i x hi => by simp at hi, fun i hi => absurd hi (by omega)⟩, below_alloc (Below.refl _ _) _⟩
        | [l], _, _, hx, _, hm, hfl, hP, hV, _ =>
          obtain ⟨hl0, hlx⟩ := hx l (by simp)
          have hv0 : ∃ v, vs[0]? = some v := ⟨_, List.getElem?_eq_getElem (by rw [hP.1]; simp)⟩
          obtain ⟨v, hv⟩ := hv0
          obtain ⟨A, c, rfl, hC⟩ := hV 0 v l hv rfl
          have hpos : 0 < l.length := List.length_pos_iff.2 hl0
          obtain ⟨ad, rfl, _⟩ := hC.2.2 hpos
          obtain ⟨p, cap, e, _, hcells⟩ := hP.2.2 0 _ (Go.Lib.bytesOf l) hv rfl
          injection e with e1 e2 e3
          subst e1
          refine (Any.bytes_Join_one frame_Join.lays b o c0 ad c (Go.Lib.bytesOf l) (.slice none 0 0) w ?_ (fun i x hi => hcells ad rfl i x hi) (by rw [b_len]; exact hpos) (by rw [b_len]; simpa using hm)).mono ?_
          · have := hP.2.1 0 _ hv
            rw [b_len]
            rw [show (⟨b, o, none⟩ : Addr).add 0 = ⟨b, o, none⟩ from by unfold Addr.add; simp] at this
            exact this
          · rintro e w' ⟨v', rfl, hf, hb⟩
            refine ⟨v', rfl, ?_, hb⟩
            have : [l].flatten = l := by simp
            rw [this]
            exact JR_fresh hl0 hlx hf
        | _ :: _ :: _, _, _, _, _, _, _, _, _, h2 => simp at h2; omega
      · have hne : ls.flatten ≠ [] := by
          match ls, hx, h2 with
          | l :: r, hx, _ =>
            intro e
            rw [List.flatten_cons] at e
            exact (hx l (by simp)).1 (List.append_eq_nil_iff.1 e).1
        refine (Any.bytes_Join_many frame_Join.lays b o ls.length c0 vs (ls.map Go.Lib.bytesOf) (.slice none 0 0) [] w (by simp) h2 hP hc ⟨none, 0, rfl, fun _ => rfl, fun a ha => by cases ha⟩ hn (by rw [b_lens]; simpa using hm)).mono ?_
        rintro e w' ⟨v', rfl, hf, hb⟩
        refine ⟨v', rfl, ?_, hb⟩
        rw [join_empty, b_flat] at hf
        exact JR_fresh hne hfl hf
  · rw [if_neg hg] at h; cases h
theorem frame_Join.callsJ (A0 : Option Addr) (c0 : Nat) (ls : List (List Int)) (r : List Int) (w : World) (hr : Kd.C (Kd.slice 5 (Kd.int .u8)) w A0 ls.length ls) (hc : ls.length ≤ c0) (hA : ls = [] ∨ ∃ b o, A0 = some ⟨b, o, none⟩) (h : frame_Join.f ls = some r) :
    Calls Try.prog 13 #[.slice A0 ls.length c0] w fun e w' => ∃ v, e = .returned v ∧ JR w' w.heap.size v r ∧ Below w.heap.size w w' := by
  have HJ := Aside0.mk (frame_Join.callsB A0 c0 ls r w hr hc hA h)
  clear hr hc hA h
  go_enter Try.func13, Try.ntmps13
  go_wp2_with (go_at_call 24; refine (HJ.out).mono ?_; rintro e w' ⟨v, rfl, hj, hb⟩; have HX := Aside0.mk (And.intro hj hb); clear hj hb HJ)
  go_ret
  exact ⟨_, rfl, HX.out.1, HX.out.2⟩
theorem JR_below {w w1 : World} {base : Nat} {v : Value} {xs : List Int} (h : JR w base v xs) (hb : Below w.heap.size w w1) : JR w1 base v xs := by
  obtain ⟨g, cap, e, h1, h2, h3, h4, h5⟩ := h
  refine ⟨g, cap, e, ⟨h1.1, Nat.lt_of_lt_of_le h1.2 hb.size⟩, h2, h3, fun i x hi => pw_cell_below hb (h4 i x hi), fun i hi => ?_⟩
  obtain ⟨hs, hf⟩ := h5 i hi
  obtain ⟨u, hu⟩ := Option.isSome_iff_exists.1 hs
  have hlt : g < w.heap.size := World.block_lt_of_cell? w _ hu
  exact ⟨by rw [pw_cell_below hb hu]; rfl, (hb.frozen (p := ⟨g, i, none⟩) hlt).trans hf⟩
theorem JR_alloc {w : World} {base : Nat} {v : Value} {xs : List Int} (h : JR w base v xs) (o : Obj) : JR (w.alloc o) base v xs := JR_below h (below_alloc (Below.refl _ _) o)
theorem JR_drew {w : World} {base : Nat} {v : Value} {xs : List Int} (h : JR w base v xs) : JR w.drew base v xs := JR_below h (below_drew (Below.refl _ _))
theorem JR_drewN {w : World} {base : Nat} {v : Value} {xs : List Int} (h : JR w base v xs) (m : Nat) : JR (w.drewN m) base v xs := JR_below h (pw_below_drewN (Below.refl _ _) m)
theorem JR_lower {w : World} {base base' : Nat} {v : Value} {xs : List Int} (h : JR w base v xs) (hb : base' ≤ base) : JR w base' v xs := by
  obtain ⟨g, cap, e, h1, h2⟩ := h
  exact ⟨g, cap, e, ⟨Nat.le_trans hb h1.1, h1.2⟩, h2⟩
theorem JR_base {w : World} {base : Nat} {v : Value} {xs : List Int} (h : JR w base v xs) : ∀ k, v.ownBlock = some k → base ≤ k := by
  obtain ⟨g, cap, rfl, h1, h2⟩ := h
  intro k hk
  have : g = k := by simpa [Value.ownBlock] using hk
  have := h1.1
  omega
theorem tJR_ {w w1 : World} {base : Nat} {v : Value} {xs : List Int} (h : Aside0 (JR w base v xs)) (f : JR w base v xs → JR w1 base v xs := by (intro h_; (with_reducible repeat (first | apply JR_alloc | apply JR_drewN | apply JR_drew)); exact h_)) : JR w1 base v xs := f h.out
/-- a slice of bytes in a block of the call's own (which may be greater): it reads so as long as that block stays -/
def JX (W : World) (base : Nat) (ok : Nat → Prop) (v : Value) (xs : List Int) : Prop :=
  Kd.V (Kd.int .u8) 5 W base (fun k => some k = v.ownBlock) v xs ∧ ∀ k, v.ownBlock = some k → ok k ∧ base ≤ k ∧ k < W.heap.size
section
variable {W W1 : World} {base : Nat} {ok ok' : Nat → Prop} {v u : Value} {xs : List Int}
theorem JX_move (h : JX W base ok v xs) (hs : W.heap.size ≤ W1.heap.size) (hm : ∀ k, v.ownBlock = some k → k < W.heap.size → W1.heap[k]? = W.heap[k]?) : JX W1 base ok v xs :=
  ⟨Kd.V_step h.1 (fun k hk hlt => hm k hk.symm hlt), fun k hk => ⟨(h.2 k hk).1, (h.2 k hk).2.1, Nat.lt_of_lt_of_le (h.2 k hk).2.2 hs⟩⟩
theorem JX_mono (h : JX W base ok v xs) (hok : ∀ k, ok k → ok' k) : JX W base ok' v xs := ⟨h.1, fun k hk => ⟨hok k (h.2 k hk).1, (h.2 k hk).2⟩⟩
theorem JX_below (h : JX W base ok v xs) (hb : Below W.heap.size W W1) : JX W1 base ok v xs := JX_move h hb.size (fun k _ hlt => hb.block k hlt)
theorem JX_alloc (h : JX W base ok v xs) (o : Obj) : JX (W.alloc o) base ok v xs := JX_below h (below_alloc (Below.refl _ _) o)
theorem JX_drew (h : JX W base ok v xs) : JX W.drew base ok v xs := JX_below h (below_drew (Below.refl _ _))
theorem JX_drewN (h : JX W base ok v xs) (m : Nat) : JX (W.drewN m) base ok v xs := JX_below h (pw_below_drewN (Below.refl _ _) m)
theorem JX_lt (h : JX W base ok v xs) : ∀ k, v.ownBlock = some k → k < W.heap.size := fun k hk => (h.2 k hk).2.2
theorem JX_elder' (h : JX W base ok v xs) (hbase : ∀ k, u.ownBlock = some k → W.heap.size ≤ k) (hb : Below W.heap.size W W1) : JX W1 base (fun k => ok k ∧ some k ≠ u.ownBlock) v xs :=
  ⟨(JX_below h hb).1, fun k hk => ⟨⟨(h.2 k hk).1, fun e => by have := hbase k e.symm; have := (h.2 k hk).2.2; omega⟩, ((JX_below h hb).2 k hk).2⟩⟩
theorem JX_slice (h : JX W base ok v xs) : ∃ A c, v = .slice A xs.length c := Kd.V_slice h.1
theorem JX_reads' {A : Option Addr} {n c : Nat} (h : JX W base ok (.slice A n c) xs) : n = xs.length ∧ n ≤ c ∧ Kd.C (Kd.int .u8) W A xs.length xs := Kd.V_reads' h.1
theorem tJ_ (h : Aside0 (JX W base ok v xs)) (f : JX W base ok v xs → JX W1 base ok v xs := by (intro h_; (with_reducible repeat (first | apply JX_alloc | apply JX_drewN | apply JX_drew)); exact h_)) : JX W1 base ok v xs := f h.out
end
theorem S_head {α : Type} {d : Kd α} {e : Nat} {W : World} {base : Nat} {ok : Nat → Prop} {A : Option Addr} {n c : Nat} {xs : List α} (h : Kd.S d e W base ok (.slice A n c) xs) : xs = [] ∨ ∃ b o, A = some ⟨b, o, none⟩ := by
  rcases Nat.eq_zero_or_pos xs.length with h0 | h0
  · exact .inl (List.eq_nil_of_length_eq_zero h0)
  · obtain ⟨g, cap, e, _⟩ := Kd.R_form (Kd.S_R h) h0
    injection e with e
    exact .inr ⟨g, 0, e⟩
/-- append(j, ys...) to such a slice -/
theorem JR_append {P : Program} {ops : Array Oper} {rest : List Oper} {o : Oper} {a : Act} {Q : Exit → Act → World → Prop} {w0 W : World} (base : Nat) (hgd : o.guard = none) (s x : Operand) (t : TypeId) (e : TypeId)
    (ho : o.op = .call { callee := .builtin .append, args := #[s, x], argTypes := #[t, t] }) (ht : P.underlying t = some (.slice e)) (hinfo : (P.info? e).map (fun i => (i.zero, i.size, i.bytes)) = some (some (.int .u8 0), 1, 1))
    (v : Value) (xs ys : List Int) (A : Option Addr) (c : Nat) (hs : a.eval s = v) (hx : a.eval x = .slice A ys.length c) (HO : JR W base v xs) (HR : (Kd.int .u8).C W A ys.length ys) (HB : Below base w0 W) (hbase : base ≤ W.heap.size) (hl : xs.length + ys.length ≤ 140737488355328)
    (h : ∀ (v1 : Value) (w1 : World), JX w1 base (fun _ => True) v1 (xs ++ ys) → Below base w0 w1 → W.grownBy w1 v.ownBlock → (v1.ownBlock = v.ownBlock ∨ ∃ b, v1.ownBlock = some b ∧ W.heap.size ≤ b) → wpList P ops Q rest (a.put o.dst v1) w1) : wpList P ops Q (o :: rest) a W := by
  obtain ⟨g, cap, rfl, ⟨hg, hgl⟩, hc, hm, hcells, hroom⟩ := HO
  obtain ⟨i0, hi, hzz⟩ := Option.map_eq_some_iff.1 hinfo
  simp only [Prod.mk.injEq] at hzz
  obtain ⟨hz0, hz1, hz2⟩ := hzz
  have hR : ReadsInt W .u8 A ys.length ys := Kd.reads_of_C (enc := Value.int .u8) (d := (0 : Int)) (h1 := fun _ => rfl) HR
  have hsrc : Src P i0.size t (.slice A ys.length c) ys.length (nums .u8 ys) W := by
    rcases A with _ | ad
    · have h0 : ys.length = 0 := by
        rcases Nat.eq_zero_or_pos ys.length with h0 | h0
        · exact h0
        · obtain ⟨ad, e, _⟩ := hR.2.2 h0
          cases e
      rw [List.eq_nil_of_length_eq_zero h0]
      exact Src.ofNil W ht c
    · refine Src.ofSlice W ht ad ys.length c (nums .u8 ys) (by rw [hz1, Nat.mul_one, nums_length]) (fun j u hu => ?_) (fun u hu => ?_)
      · have hj : j < ys.length := by
          have := (List.getElem?_eq_some_iff.1 hu).1
          rwa [nums_length] at this
        obtain ⟨ad', e', hcc⟩ := hR.2.2 (by omega)
        injection e' with e'
        subst e'
        rw [hcc j hj]
        unfold nums at hu
        rw [List.getElem?_map, List.getElem?_eq_getElem hj] at hu
        rw [List.getD_eq_getElem?_getD, List.getElem?_eq_getElem hj]
        exact hu
      · unfold nums at hu
        obtain ⟨q, _, rfl⟩ := List.mem_map.1 hu
        rfl
  have hlen : (xs ++ ys).length = xs.length + ys.length := List.length_append
  have hmax : (xs ++ ys).length ≤ 9223372036854775807 := by rw [hlen]; omega
  have hrun : ∃ (g1 : Nat) (cr : Nat) (w1 : World), (Builtin.append_ #[t, t] o.type #[.slice (some ⟨g, 0, none⟩) xs.length cap, .slice A ys.length c]).run P W = .ok (.slice (some ⟨g1, 0, none⟩) (xs ++ ys).length cr) w1 ∧ (xs ++ ys).length ≤ cr ∧ (∀ i, (h : i < (xs ++ ys).length) → w1.cell? ⟨g1, i, none⟩ = some (.int .u8 (xs ++ ys)[i])) ∧ Below base w0 w1 ∧ W.grownBy w1 (some g) ∧ (g1 = g ∨ W.heap.size ≤ g1) ∧ base ≤ g1 ∧ g1 < w1.heap.size := by
    by_cases hfit : xs.length + ys.length ≤ cap
    · have hoff : ∀ j, j < (nums .u8 ys).length → 0 + xs.length * i0.size + j = xs.length + j ∧ xs.length + j < cap := fun j hj => by
        rw [nums_length] at hj
        rw [hz1, Nat.mul_one, Nat.zero_add]
        exact ⟨rfl, by omega⟩
      have h1 := run_append_room_src W t t o.type e i0 ht hi g 0 xs.length cap _ ys.length (nums .u8 ys) hsrc hfit (fun j hj => by rw [(hoff j hj).1]; exact (hroom _ (hoff j hj).2).1) (fun j hj => by rw [(hoff j hj).1]; exact (hroom _ (hoff j hj).2).2)
      rw [hz1, Nat.mul_one, Nat.zero_add] at h1
      have hsame := setCells_same g (nums .u8 ys) xs.length W
      refine ⟨_, _, _, by rw [hlen]; exact h1, by rw [hlen]; exact hfit, fun j hj => ?_, ?_, ⟨hsame.1, hsame.2.1, hsame.2.2.1, Nat.le_of_eq hsame.2.2.2.symm, fun k hk hne => setCells_far (fun e => hne (by rw [e])) _ _ _⟩, .inl rfl, hg, by rw [hsame.2.2.2]; exact hgl⟩
      · rcases Nat.lt_or_ge j xs.length with hjx | hjx
        · rw [World.cell?_setCells_out g (nums .u8 ys) xs.length W ⟨g, j, none⟩ (fun _ _ => .inl hjx)]
          rw [hcells j _ (List.getElem?_eq_getElem hjx), List.getElem_append_left hjx]
        · have hj' : j - xs.length < (nums .u8 ys).length := by rw [nums_length]; omega
          have := World.cell?_setCells_in g (nums .u8 ys) xs.length W (fun q hq => (hroom _ (hoff q hq).2).1) (j - xs.length) hj'
          rw [show xs.length + (j - xs.length) = j by omega] at this
          rw [this, List.getElem_append_right hjx]
          simp [nums]
      · exact HB.trans ⟨(setCells_same g _ _ W).1, (setCells_same g _ _ W).2.1, (setCells_same g _ _ W).2.2.1, Nat.le_of_eq (setCells_same g _ _ W).2.2.2.symm, fun k hk => setCells_far (by omega) _ _ _⟩
    · have hold : (Builtin.firstCells i0.size xs.length (.slice (some ⟨g, 0, none⟩) xs.length cap)).run P W.drew = .ok (nums .u8 xs).toArray W.drew :=
        run_firstCells_some W.drew i0.size xs.length ⟨g, 0, none⟩ xs.length cap (nums .u8 xs) (by rw [hz1, Nat.mul_one, nums_length]) (fun j u hu => by
          unfold nums at hu
          rw [List.getElem?_map] at hu
          cases hq : xs[j]? with
          | none => rw [hq] at hu; cases hu
          | some q =>
            rw [hq] at hu
            injection hu with hu
            subst hu
            rw [add_plain]
            exact hcells j q hq)
      have hcap : Builtin.nextslicecap (xs.length + ys.length) cap * i0.bytes ≤ 281474976710656 := by
        rw [hz2, Nat.mul_one]
        have := nextslicecap_le (need := xs.length + ys.length) (old := cap) (by omega)
        omega
      have h1 := run_append_grow_src W t t o.type e i0 (.int .u8 0) ht hi hz0 (some ⟨g, 0, none⟩) xs.length cap (nums .u8 xs) hold _ ys.length (nums .u8 ys) hsrc (by omega) (by omega) hcap
      rw [← hlen] at h1
      refine ⟨_, _, _, h1, by rw [hlen]; exact grownCap_ge _ _ _ _, fun j hj => ?_, (below_drew HB).alloc hbase _, ⟨rfl, rfl, rfl, by simp, fun k hk _ => Below.heap_alloc W.drew _ k hk⟩, .inr (Nat.le_refl _), hbase, by simp⟩
      have hh := heap_alloc_new W.drew (.cells ((nums .u8 xs ++ nums .u8 ys).toArray ++ Builtin.zeroCells (Value.int .u8 0).cells (grownCap W (xs ++ ys).length cap e - (xs ++ ys).length)) e)
      rw [show W.heap.size = W.drew.heap.size from rfl, cell_of_row _ _ _ _ _ _ hh]
      rw [← nums_append, Array.getElem?_append_left (by simpa [nums] using hj)]
      rw [List.getElem?_toArray]
      unfold nums
      rw [List.getElem?_map, List.getElem?_eq_getElem hj]
      rfl
  obtain ⟨g1, cr, w1, hr, h1, h2, h3, h4, h5, h6, h7⟩ := hrun
  have hX : JX w1 base (fun _ => True) (.slice (some ⟨g1, 0, none⟩) (xs ++ ys).length cr) (xs ++ ys) := by
    refine ⟨⟨_, _, rfl, h1, fun W' hW => ?_⟩, fun k hk => ?_⟩
    · refine Kd.C_of_reads (d := (0 : Int)) ⟨rfl, hmax, fun _ => ⟨_, rfl, fun j hj => ?_⟩⟩
      have hb := hW g1 (by simp [Value.ownBlock]) h7
      rw [add_plain, List.getD_eq_getElem?_getD, List.getElem?_eq_getElem hj]
      exact (World.cell?_of_block (a := ⟨g1, j, none⟩) hb).trans (h2 j hj)
    · have : g1 = k := by simpa [Value.ownBlock] using hk
      subst this
      exact ⟨trivial, h6, h7⟩
  refine wpList_plain hgd fun K hK => ?_
  unfold Oper.wp execOp
  simp only [ho, resolve, invoke, builtin, Sem.run_bind, Sem.run_pure, Result.andThen_ok, List.map_toArray, List.map_cons, List.map_nil, hs, hx, hr]
  refine hK _ _ (h _ w1 hX h3 (by simpa [Value.ownBlock] using h4) ?_)
  rcases h5 with rfl | h5
  · exact .inl rfl
  · exact .inr ⟨g1, by simp [Value.ownBlock], h5⟩
end Go.Proofs.Ytofoimndhndffaa.QFrameSplits
