-- Written by a program of this session (a turned copy of the print) out of the translation. Lean checks it.
import Derived.Test.YtnkphgiodpledaaQMsgBackx0
import Derived.Test.YtnkphgiodpledaaQMsgBackx1
namespace Go.Proofs.Ytnkphgiodpledaa.QMsgBack
open Go.RowKit Go.Proofs.YtnkphgiodpledaaW.PrintWords Go.Proofs.YtnkphgiodpledaaW.PrintLast Go.Proofs.YtnkphgiodpledaaW.PrintMore
attribute [local go_sem] max2_int min2_int max_two min_two max_three min_three max_four min_four   -- for this text's walks alone
open Go.Proofs.YtnkphgiodpledaaW.PrintWords renaming below_alloc → b_a, pw_below_drewN → b_n, below_drew1 → b_d, below_set → b_s, blk_drewN → k_n, blk_drew → k_d, blk_alloc → k_a
open List renaming setIfInBounds_toArray → l_1, set_cons_zero → l_2, set_cons_succ → l_3, map_toArray → l_4, map_cons → l_5, map_nil → l_6, length_drop → l_7, length_take → l_8
set_option linter.unusedVariables false
set_option linter.unusedSimpArgs false

/-! ### slices_Equal_int32_int32: function 27 -/
def slices_Equal_int32_int32.l0 : Nat → List Int → List Int → Int → Int → Option (Bool)
 | 0, _, _, _, _ => none
 | k + 1, x0, x1, x12, x13 => if x13 < x12 then (if 0 ≤ x13 then (if x13 < (x0.length : Int) then (if x13 < (x1.length : Int) then (if (rd x0 x13) = (rd x1 x13) then (slices_Equal_int32_int32.l0 k x0 x1 x12 (wrap64 (x13 + 1))) else (some false)) else (none)) else (none)) else (none)) else (some true)
def slices_Equal_int32_int32.f (k : Nat) (l0 : List Int) (l1 : List Int) : Option (Bool) := if (l0.length : Int) = (l1.length : Int) then (slices_Equal_int32_int32.l0 k l0 l1 (l0.length : Int) 0) else (some false)
theorem slices_Equal_int32_int32.mono_l : ∀ k, (∀ y0 y1 y2 y3, LeO (slices_Equal_int32_int32.l0 k y0 y1 y2 y3) (slices_Equal_int32_int32.l0 (k + 1) y0 y1 y2 y3))
 | 0 => fun _ _ _ _ r h => by simp [slices_Equal_int32_int32.l0] at h
 | k + 1 => by
  have ih0 := slices_Equal_int32_int32.mono_l k
  ·
   intro y0 y1 y2 y3
   unfold slices_Equal_int32_int32.l0
   repeat' first
   | (with_reducible exact ih0 _ _ _ _)
   | (with_reducible exact LeO.refl _)
   | (with_reducible exact LeO.none _)
   | (with_reducible refine LeO.ite ?_ ?_)
   | (with_reducible refine LeO.bind ?_ (fun _ => ?_))
   | exact ih0 _ _ _ _
   | exact LeO.none _
   | refine LeO.ite ?_ ?_
   | refine LeO.bind ?_ (fun _ => ?_)
theorem slices_Equal_int32_int32.mono : ∀ a0 a1 k, LeO (slices_Equal_int32_int32.f k a0 a1) (slices_Equal_int32_int32.f (k + 1) a0 a1) := by
 intro a0 a1 k
 have ih0 := slices_Equal_int32_int32.mono_l k
 unfold slices_Equal_int32_int32.f
 repeat' first
   | (with_reducible exact ih0 _ _ _ _)
   | (with_reducible exact LeO.refl _)
   | (with_reducible exact LeO.none _)
   | (with_reducible refine LeO.ite ?_ ?_)
   | (with_reducible refine LeO.bind ?_ (fun _ => ?_))
   | exact ih0 _ _ _ _
   | exact LeO.none _
   | refine LeO.ite ?_ ?_
   | refine LeO.bind ?_ (fun _ => ?_)
set_option maxHeartbeats 60000000 in
set_option maxRecDepth 100000 in
theorem slices_Equal_int32_int32.calls (k : Nat) (A0 : Option Addr) (c0 : Nat) (l0 : List Int) (A1 : Option Addr) (c1 : Nat) (l1 : List Int) (r : Bool) (w : World) (hr0 : Kd.C (Kd.int .i32) w A0 l0.length l0) (hc0 : l0.length ≤ c0) (hr1 : Kd.C (Kd.int .i32) w A1 l1.length l1) (hc1 : l1.length ≤ c1) (h : slices_Equal_int32_int32.f k l0 l1 = some r) :
  Calls Try.prog 27 #[.slice A0 l0.length c0, .slice A1 l1.length c1] w fun e w' => e = .returned (.bool r) ∧ Drawn0 w w' := by
 have HR0 := Aside0.mk hr0
 have HC0 := Aside0.mk hc0
 clear hr0 hc0
 have HR1 := Aside0.mk hr1
 have HC1 := Aside0.mk hc1
 clear hr1 hc1
 have H : (if (l0.length : Int) = (l1.length : Int) then (slices_Equal_int32_int32.l0 k l0 l1 (l0.length : Int) 0) else (some false)) = some r := h
 clear h
 by_cases c3 : (l0.length : Int) = (l1.length : Int)
 rotate_left
 ·
  rw [if_neg c3] at H
  have c3b0 : ((l0.length : Int) == (l1.length : Int)) = false := beq_eq_false_iff_ne.mpr c3
  have c3b1 : ((l0.length : Int) != (l1.length : Int)) = true := bne_iff_ne.mpr c3
  have c3b2 : (l0.length == l1.length) = false := by first | simpa using c3 | (simp at c3 ⊢; omega)
  obtain rfl := Option.some.inj H
  go_enter Try.func27, Try.ntmps27
  go_wp2
  repeat (go_quiet (fail); try go_wp2)
  go_ret
  exact ⟨by first | rfl | (simp; done) | (simp [*]; done), by repeat (first | exact Drawn0.refl _ | apply Drawn0.step)⟩

 rw [if_pos c3] at H
 have c3b0 : ((l0.length : Int) == (l1.length : Int)) = true := beq_iff_eq.mpr c3
 have c3b1 : ((l0.length : Int) != (l1.length : Int)) = false := bne_eq_false_iff_eq.mpr c3
 have c3b2 : (l0.length == l1.length) = true := by first | simpa using c3 | (simp at c3 ⊢; omega)
 clear c3
 have H' := Aside0.mk H
 clear H
 go_enter Try.func27, Try.ntmps27
 go_wp2
 repeat (go_quiet (fail); try go_wp2)
 go_loopg [13] k (fun kq v13 w' => ∃ (x13_1 : Int), v13 = .int .i64 x13_1 ∧ Aside0 (slices_Equal_int32_int32.l0 kq l0 l1 (l0.length : Int) x13_1 = some r) ∧ Aside0 (kq ≤ k) ∧ Drawn0 w w')
 case atStart => exact ⟨(0), (by first | rfl | (simp; done) | (simp [*]; done)), H', ⟨Nat.le_refl _⟩, by repeat (first | exact Drawn0.refl _ | apply Drawn0.step)⟩
 case round =>
  clear H'
  try clear c1
  try clear c2
  try clear p2
  try clear c3
  try clear c3b0
  try clear c3b1
  try clear c3b2
  obtain ⟨x13_1, rfl, HA, HK1, ⟨m1, rfl⟩⟩ := hrel
  cases gk with
  | zero => exact absurd HA.out (by simp [slices_Equal_int32_int32.l0])
  | succ k1 =>
   have H := HA.out
   clear HA
   simp only [slices_Equal_int32_int32.l0] at H
   by_cases c4 : x13_1 < (l0.length : Int)
   rotate_left
   ·
    rw [if_neg c4] at H
    have c4b0 : decide (x13_1 < (l0.length : Int)) = false := decide_eq_false c4
    clear c4
    obtain rfl := Option.some.inj H
    go_wp2
    repeat (go_quiet (fail); try go_wp2)
    go_ret
    exact ⟨by first | rfl | (simp; done) | (simp [*]; done), by repeat (first | exact Drawn0.refl _ | apply Drawn0.step)⟩
   rw [if_pos c4] at H
   have c4b0 : decide (x13_1 < (l0.length : Int)) = true := decide_eq_true c4
   clear c4
   by_cases c5 : 0 ≤ x13_1
   rotate_left
   ·
    rw [if_neg c5] at H
    exact absurd H (by simp)
   rw [if_pos c5] at H
   have c5b0 : decide (0 ≤ x13_1) = true := decide_eq_true c5
   clear c5
   by_cases c6 : x13_1 < (l0.length : Int)
   rotate_left
   ·
    rw [if_neg c6] at H
    exact absurd H (by simp)
   rw [if_pos c6] at H
   have c6b0 : decide (x13_1 < (l0.length : Int)) = true := decide_eq_true c6
   clear c6
   by_cases c7 : x13_1 < (l1.length : Int)
   rotate_left
   ·
    rw [if_neg c7] at H
    exact absurd H (by simp)
   rw [if_pos c7] at H
   have c7b0 : decide (x13_1 < (l1.length : Int)) = true := decide_eq_true c7
   clear c7
   by_cases c8 : (rd l0 x13_1) = (rd l1 x13_1)
   rotate_left
   ·
    rw [if_neg c8] at H
    have c8b0 : ((rd l0 x13_1) == (rd l1 x13_1)) = false := beq_eq_false_iff_ne.mpr c8
    have c8b1 : ((rd l0 x13_1) != (rd l1 x13_1)) = true := bne_iff_ne.mpr c8
    obtain rfl := Option.some.inj H
    have p168 : 0 ≤ (x13_1 : Int) := of_decide_eq_true (by first | (with_reducible assumption) | assumption)
    have q168 : x13_1 < (l0.length : Int) := of_decide_eq_true (by first | (with_reducible assumption) | assumption)
    obtain ⟨ad168, e168, hx168_0⟩ := Kd.at_int HR0.out x13_1 p168 q168
    cases e168
    replace p168 := eq_true p168
    replace q168 := eq_true q168
    have p169 : 0 ≤ (x13_1 : Int) := of_decide_eq_true (by first | (with_reducible assumption) | assumption)
    have q169 : x13_1 < (l1.length : Int) := of_decide_eq_true (by first | (with_reducible assumption) | assumption)
    obtain ⟨ad169, e169, hx169_0⟩ := Kd.at_int HR1.out x13_1 p169 q169
    cases e169
    replace p169 := eq_true p169
    replace q169 := eq_true q169
    go_wp2
    repeat (go_quiet (fail); try go_wp2)
    go_ret
    exact ⟨by first | rfl | (simp; done) | (simp [*]; done), by repeat (first | exact Drawn0.refl _ | apply Drawn0.step)⟩
   rw [if_pos c8] at H
   have c8b0 : ((rd l0 x13_1) == (rd l1 x13_1)) = true := beq_iff_eq.mpr c8
   have c8b1 : ((rd l0 x13_1) != (rd l1 x13_1)) = false := bne_eq_false_iff_eq.mpr c8
   clear c8
   have H' := Aside0.mk H
   clear H
   have p168 : 0 ≤ (x13_1 : Int) := of_decide_eq_true (by first | (with_reducible assumption) | assumption)
   have q168 : x13_1 < (l0.length : Int) := of_decide_eq_true (by first | (with_reducible assumption) | assumption)
   obtain ⟨ad168, e168, hx168_0⟩ := Kd.at_int HR0.out x13_1 p168 q168
   cases e168
   replace p168 := eq_true p168
   replace q168 := eq_true q168
   have p169 : 0 ≤ (x13_1 : Int) := of_decide_eq_true (by first | (with_reducible assumption) | assumption)
   have q169 : x13_1 < (l1.length : Int) := of_decide_eq_true (by first | (with_reducible assumption) | assumption)
   obtain ⟨ad169, e169, hx169_0⟩ := Kd.at_int HR1.out x13_1 p169 q169
   cases e169
   replace p169 := eq_true p169
   replace q169 := eq_true q169
   go_wp2
   repeat (go_quiet (fail); try go_wp2)
   go_roundg k1
   case measure => have := HK1.out; omega
   case rel => exact ⟨(wrap64 (x13_1 + 1)), (by first | rfl | (simp; done) | (simp [*]; done)), H', ⟨by have := HK1.out; omega⟩, by repeat (first | exact Drawn0.refl _ | apply Drawn0.step)⟩
/-! ### msg_Same: function 14, by hand -/
def msg_Same.nums (N M : Int → Int) : Nat → Int → Bool
  | 0, _ => true
  | m + 1, i => if N i = M i then msg_Same.nums N M m (i + 1) else false
def msg_Same.f (k : Nat) (a0_0 a0_1 a0_2 a0_3 a0_4 a0_5 a0_6 a0_7 : Int) (l0_8 : List Int) (a1_0 a1_1 a1_2 a1_3 a1_4 a1_5 a1_6 a1_7 : Int) (l1_8 : List Int) : Option Bool :=
  if msg_Same.nums (msg_num a0_1 a0_2 a0_3 a0_4 a0_5 a0_6 a0_7) (msg_num a1_1 a1_2 a1_3 a1_4 a1_5 a1_6 a1_7) 7 0 = true then (if a0_0 = a1_0 then slices_Equal_int32_int32.f k l0_8 l1_8 else some false) else some false
theorem msg_Same.mono : ∀ a0_0 a0_1 a0_2 a0_3 a0_4 a0_5 a0_6 a0_7 l0_8 a1_0 a1_1 a1_2 a1_3 a1_4 a1_5 a1_6 a1_7 l1_8 k, LeO (msg_Same.f k a0_0 a0_1 a0_2 a0_3 a0_4 a0_5 a0_6 a0_7 l0_8 a1_0 a1_1 a1_2 a1_3 a1_4 a1_5 a1_6 a1_7 l1_8) (msg_Same.f (k + 1) a0_0 a0_1 a0_2 a0_3 a0_4 a0_5 a0_6 a0_7 l0_8 a1_0 a1_1 a1_2 a1_3 a1_4 a1_5 a1_6 a1_7 l1_8) := by
  intro a0_0 a0_1 a0_2 a0_3 a0_4 a0_5 a0_6 a0_7 l0_8 a1_0 a1_1 a1_2 a1_3 a1_4 a1_5 a1_6 a1_7 l1_8 k
  unfold msg_Same.f
  exact LeO.ite (LeO.ite (slices_Equal_int32_int32.mono _ _ _) (LeO.refl _)) (LeO.refl _)
def msg_Same.St (w W : World) (g2 g3 g5 g6 : Nat) (sa sb : Array Value) : Prop :=
  Below w.heap.size w W ∧ W.heap[g2]? = some (.cells sa 24 (0, 0)) ∧ W.heap[g3]? = some (.cells sb 24 (0, 0)) ∧ W.heap[g5]? = some (.cells #[.pointer (some ⟨g2, 1, none⟩), .pointer (some ⟨g2, 2, none⟩), .pointer (some ⟨g2, 3, none⟩), .pointer (some ⟨g2, 4, none⟩), .pointer (some ⟨g2, 5, none⟩), .pointer (some ⟨g2, 6, none⟩), .pointer (some ⟨g2, 7, none⟩)] 50 (0, 0)) ∧ W.heap[g6]? = some (.cells #[.pointer (some ⟨g3, 1, none⟩), .pointer (some ⟨g3, 2, none⟩), .pointer (some ⟨g3, 3, none⟩), .pointer (some ⟨g3, 4, none⟩), .pointer (some ⟨g3, 5, none⟩), .pointer (some ⟨g3, 6, none⟩), .pointer (some ⟨g3, 7, none⟩)] 50 (0, 0))
theorem msg_Same.St.below {w W W' : World} {g2 g3 g5 g6 : Nat} {sa sb : Array Value} (H : msg_Same.St w W g2 g3 g5 g6 sa sb) (hb : Below W.heap.size W W') : msg_Same.St w W' g2 g3 g5 g6 sa sb :=
  ⟨below_step H.1 hb, blk_below H.2.1 hb, blk_below H.2.2.1 hb, blk_below H.2.2.2.1 hb, blk_below H.2.2.2.2 hb⟩
theorem msg_Same.ptr {w : World} {g h t : Nat} (hb : w.heap[g]? = some (.cells #[.pointer (some ⟨h, 1, none⟩), .pointer (some ⟨h, 2, none⟩), .pointer (some ⟨h, 3, none⟩), .pointer (some ⟨h, 4, none⟩), .pointer (some ⟨h, 5, none⟩), .pointer (some ⟨h, 6, none⟩), .pointer (some ⟨h, 7, none⟩)] t (0, 0))) (i : Int) (h0 : 0 ≤ i) (h1 : i < 7) : w.cell? ⟨g, i.toNat, none⟩ = some (.pointer (some ⟨h, (i + 1).toNat, none⟩)) := by
  have hi : i = 0 ∨ i = 1 ∨ i = 2 ∨ i = 3 ∨ i = 4 ∨ i = 5 ∨ i = 6 := by omega
  rcases hi with rfl | rfl | rfl | rfl | rfl | rfl | rfl
  · exact (blk_cell hb 0).trans rfl
  · exact (blk_cell hb 1).trans rfl
  · exact (blk_cell hb 2).trans rfl
  · exact (blk_cell hb 3).trans rfl
  · exact (blk_cell hb 4).trans rfl
  · exact (blk_cell hb 5).trans rfl
  · exact (blk_cell hb 6).trans rfl
set_option maxHeartbeats 8000000 in
set_option maxRecDepth 100000 in
theorem msg_Same.calls (k : Nat) (a0_0 a0_1 a0_2 a0_3 a0_4 a0_5 a0_6 a0_7 : Int) (A0_8 : Option Addr) (c0_8 : Nat) (l0_8 : List Int) (a1_0 a1_1 a1_2 a1_3 a1_4 a1_5 a1_6 a1_7 : Int) (A1_8 : Option Addr) (c1_8 : Nat) (l1_8 : List Int) (r : Bool) (w : World) (hr0_8 : Kd.C (Kd.int .i32) w A0_8 l0_8.length l0_8) (hc0_8 : l0_8.length ≤ c0_8) (hr1_8 : Kd.C (Kd.int .i32) w A1_8 l1_8.length l1_8) (hc1_8 : l1_8.length ≤ c1_8) (h : msg_Same.f k a0_0 a0_1 a0_2 a0_3 a0_4 a0_5 a0_6 a0_7 l0_8 a1_0 a1_1 a1_2 a1_3 a1_4 a1_5 a1_6 a1_7 l1_8 = some r) :
    Calls Try.prog 14 #[.agg #[.int .i64 a0_0, .int .i64 a0_1, .int .i64 a0_2, .int .i64 a0_3, .int .i64 a0_4, .int .i64 a0_5, .int .i64 a0_6, .int .i64 a0_7, .slice A0_8 l0_8.length c0_8], .agg #[.int .i64 a1_0, .int .i64 a1_1, .int .i64 a1_2, .int .i64 a1_3, .int .i64 a1_4, .int .i64 a1_5, .int .i64 a1_6, .int .i64 a1_7, .slice A1_8 l1_8.length c1_8]] w fun e w' => e = .returned (.bool r) ∧ Below w.heap.size w w' := by
  have hu24 := Try.underlying24
  have hu50 := Try.underlying50
  have HRA := Aside0.mk hr0_8
  have HCA := Aside0.mk hc0_8
  have HRB := Aside0.mk hr1_8
  have HCB := Aside0.mk hc1_8
  clear hr0_8 hc0_8 hr1_8 hc1_8
  unfold msg_Same.f at h
  have HH := Aside0.mk h
  clear h
  go_enter Try.func14, Try.ntmps14
  go_upto_region 1 with (first | ((with_reducible refine gate_dst (N := 2) rfl ?_); refine box_event ?hg (N := 2) ?hd (cs := #[.int .i64 a0_0, .int .i64 a0_1, .int .i64 a0_2, .int .i64 a0_3, .int .i64 a0_4, .int .i64 a0_5, .int .i64 a0_6, .int .i64 a0_7, .slice A0_8 l0_8.length c0_8]) (t := 24) ?hr ?_; (case hd => rfl); (case hg => rfl); (case hr => first | (go_simp; done) | (go_simp; rfl)); intro g2 hg_ wb2 hbox hbb; have HB := Aside0.mk hbb; have K2 := Aside0.mk hbox; clear hg_ hbox hbb) | ((with_reducible refine gate_dst (N := 3) rfl ?_); refine box_event ?hg (N := 3) ?hd (cs := #[.int .i64 a1_0, .int .i64 a1_1, .int .i64 a1_2, .int .i64 a1_3, .int .i64 a1_4, .int .i64 a1_5, .int .i64 a1_6, .int .i64 a1_7, .slice A1_8 l1_8.length c1_8]) (t := 24) ?hr ?_; (case hd => rfl); (case hg => rfl); (case hr => first | (go_simp; done) | (go_simp; rfl)); intro g3 hg_ wb3 hbox hbb; replace K2 := Aside0.mk (blk_below K2.out hbb); replace HB := Aside0.mk (below_step HB.out hbb); have K3 := Aside0.mk hbox; clear hg_ hbox hbb))
  go_upto_region 2 with (first | (go_at_call 24; (with_reducible refine (msg_nums.good g2 _).mono ?_); rintro e wn ⟨rfl, hb⟩; replace HB := Aside0.mk (below_step HB.out hb); replace K2 := Aside0.mk (blk_below K2.out hb); replace K3 := Aside0.mk (blk_below K3.out hb); clear hb) | (go_at_call 24; (with_reducible refine (msg_nums.good g3 _).mono ?_); rintro e wn ⟨rfl, hb⟩; replace HB := Aside0.mk (below_step HB.out hb); replace K2 := Aside0.mk (blk_below K2.out hb); replace K3 := Aside0.mk (blk_below K3.out hb); clear hb) | ((with_reducible refine gate_dst (N := 5) rfl ?_); refine box_event ?hg (N := 5) ?hd (cs := #[.pointer none, .pointer none, .pointer none, .pointer none, .pointer none, .pointer none, .pointer none]) (t := 50) ?hr ?_; (case hd => rfl); (case hg => rfl); (case hr => first | (go_simp; done) | (go_simp; rfl)); intro g5 hg_ wb5 hbox hbb; have G5 := Aside0.mk (show w.heap.size ≤ g5 ∧ g2 ≠ g5 ∧ g3 ≠ g5 from ⟨by rw [hg_]; exact below_size HB.out, by have := blk_lt K2.out; omega, by have := blk_lt K3.out; omega⟩); replace K2 := Aside0.mk (blk_below K2.out hbb); replace K3 := Aside0.mk (blk_below K3.out hbb); replace HB := Aside0.mk (below_step HB.out hbb); have K5 := Aside0.mk hbox; clear hg_ hbox hbb) | ((with_reducible refine gate_dst (N := 6) rfl ?_); refine box_event ?hg (N := 6) ?hd (cs := #[.pointer none, .pointer none, .pointer none, .pointer none, .pointer none, .pointer none, .pointer none]) (t := 50) ?hr ?_; (case hd => rfl); (case hg => rfl); (case hr => first | (go_simp; done) | (go_simp; rfl)); intro g6 hg_ wb6 hbox hbb; have G6 := Aside0.mk (show w.heap.size ≤ g6 ∧ g2 ≠ g6 ∧ g3 ≠ g6 ∧ g5 ≠ g6 from ⟨by rw [hg_]; exact below_size HB.out, by have := blk_lt K2.out; omega, by have := blk_lt K3.out; omega, by have := blk_lt K5.out; omega⟩); replace K2 := Aside0.mk (blk_below K2.out hbb); replace K3 := Aside0.mk (blk_below K3.out hbb); replace K5 := Aside0.mk (blk_below K5.out hbb); replace HB := Aside0.mk (below_step HB.out hbb); have K6 := Aside0.mk hbox; (with_reducible refine gate_store_ rfl ?_); refine stA_ rfl rfl rfl rfl rfl K5.out rfl (by kernel_rfl) (by simp [Value.oneCell']) ?_; intro W' hW1 hW2 hW3 hW4; replace K2 := Aside0.mk ((hW2 _ G5.out.2.1).trans K2.out); replace K3 := Aside0.mk ((hW2 _ G5.out.2.2).trans K3.out); replace K6 := Aside0.mk ((hW2 _ (Ne.symm G6.out.2.2.2)).trans K6.out); replace HB := Aside0.mk (hW4 w G5.out.1 HB.out); replace K5 := Aside0.mk hW1; clear hW1 hW2 hW3 hW4; (with_reducible refine gate_store_ rfl ?_); refine stA_ rfl rfl rfl rfl rfl K6.out rfl (by kernel_rfl) (by simp [Value.oneCell']) ?_; intro W2 hW1 hW2 hW3 hW4; have ST := Aside0.mk (show msg_Same.St w W2 g2 g3 g5 g6 #[.int .i64 a0_0, .int .i64 a0_1, .int .i64 a0_2, .int .i64 a0_3, .int .i64 a0_4, .int .i64 a0_5, .int .i64 a0_6, .int .i64 a0_7, .slice A0_8 l0_8.length c0_8] #[.int .i64 a1_0, .int .i64 a1_1, .int .i64 a1_2, .int .i64 a1_3, .int .i64 a1_4, .int .i64 a1_5, .int .i64 a1_6, .int .i64 a1_7, .slice A1_8 l1_8.length c1_8] from ⟨hW4 w G6.out.1 HB.out, (hW2 _ G6.out.2.1).trans K2.out, (hW2 _ G6.out.2.2.1).trans K3.out, (hW2 _ G6.out.2.2.2).trans K5.out, hW1⟩); clear hW1 hW2 hW3 hW4 HB K2 K3 K5 K6; clear hg_ hbox hbb))
  go_wp2
  go_loopg [10] 7 (fun m v10 W => ∃ i : Int, v10 = .int .i64 i ∧ 0 ≤ i ∧ Aside0 (i + m = 7) ∧ Aside0 ((if msg_Same.nums (msg_num a0_1 a0_2 a0_3 a0_4 a0_5 a0_6 a0_7) (msg_num a1_1 a1_2 a1_3 a1_4 a1_5 a1_6 a1_7) m i = true then (if a0_0 = a1_0 then slices_Equal_int32_int32.f k l0_8 l1_8 else some false) else some false) = some r) ∧ Aside0 (msg_Same.St w W g2 g3 g5 g6 #[.int .i64 a0_0, .int .i64 a0_1, .int .i64 a0_2, .int .i64 a0_3, .int .i64 a0_4, .int .i64 a0_5, .int .i64 a0_6, .int .i64 a0_7, .slice A0_8 l0_8.length c0_8] #[.int .i64 a1_0, .int .i64 a1_1, .int .i64 a1_2, .int .i64 a1_3, .int .i64 a1_4, .int .i64 a1_5, .int .i64 a1_6, .int .i64 a1_7, .slice A1_8 l1_8.length c1_8]))
  case atStart => exact ⟨0, rfl, by omega, ⟨by omega⟩, HH, ST⟩
  case round =>
    clear HH ST
    obtain ⟨i, rfl, hi0, HI, HH, ST⟩ := hrel
    cases gk with
    | zero =>
      have q : decide (i < 7) = false := decide_eq_false (by have := HI.out; omega)
      have h : (if a0_0 = a1_0 then slices_Equal_int32_int32.f k l0_8 l1_8 else some false) = some r := HH.out
      clear HH
      obtain ⟨x0, x8, xs_⟩ := msg_wrong.cells ST.out.2.1
      obtain ⟨y0, y8, ys_⟩ := msg_wrong.cells ST.out.2.2.1
      clear xs_ ys_
      by_cases c : a0_0 = a1_0
      · rw [if_pos c] at h
        have HE := Aside0.mk h
        clear h
        have p1 : decide (a0_0 = a1_0) = true := decide_eq_true c
        subst c
        go_wp2_with (first | (go_at_call 27; (refine (slices_Equal_int32_int32.calls k _ _ _ _ _ _ _ _ (Kd.C_below HRA.out ST.out.1) HCA.out (Kd.C_below HRB.out ST.out.1) HCB.out HE.out).mono ?_); rintro e we ⟨rfl, hd⟩; replace ST := Aside0.mk (ST.out.below hd.below); clear hd))
        all_goals (go_ret; exact ⟨rfl, ST.out.1⟩)
      · rw [if_neg c] at h
        obtain rfl := Option.some.inj h
        clear h
        have p1 : decide (a0_0 = a1_0) = false := decide_eq_false c
        have p2 : (a0_0 == a1_0) = false := beq_eq_false_iff_ne.2 c
        go_wp2
        go_ret
        exact ⟨rfl, ST.out.1⟩
    | succ m =>
      have q : decide (i < 7) = true := decide_eq_true (by have := HI.out; omega)
      have q0 : decide (0 ≤ i) = true := decide_eq_true hi0
      have HQ := Aside0.mk (of_decide_eq_true q)
      have p8 : (0 ≤ i) = True := eq_true hi0
      have p7 : (i < 7) = True := eq_true HQ.out
      have hw : IntKind.i64.wrap (i + 1) = i + 1 := by rw [i64_w]; have := HI.out; unfold wrap64; omega
      obtain ⟨x, hX⟩ : ∃ x, (msg_num a0_1 a0_2 a0_3 a0_4 a0_5 a0_6 a0_7) i = x := ⟨_, rfl⟩
      obtain ⟨y, hY⟩ : ∃ y, (msg_num a1_1 a1_2 a1_3 a1_4 a1_5 a1_6 a1_7) i = y := ⟨_, rfl⟩
      have h := HH.out
      unfold msg_Same.nums at h
      rw [hX, hY] at h
      have z1 := (msg_wrong.cells ST.out.2.1).2.2 i hi0 HQ.out
      have z2 := (msg_wrong.cells ST.out.2.2.1).2.2 i hi0 HQ.out
      rw [hX] at z1
      rw [hY] at z2
      have z3 := msg_Same.ptr ST.out.2.2.2.1 i hi0 HQ.out
      have z4 := msg_Same.ptr ST.out.2.2.2.2 i hi0 HQ.out
      clear hX hY HH
      by_cases c : x = y
      · rw [if_pos c] at h
        replace HH := Aside0.mk h
        clear h
        have p1 : decide (x = y) = true := decide_eq_true c
        subst c
        go_wp2
        go_quiet (fail)
        go_wp2
        go_roundg m
        case measure => omega
        case rel => exact ⟨i + 1, by first | rfl | rw [hw], by omega, ⟨by have := HI.out; omega⟩, HH, by first | exact ST | exact ⟨ST.out.below (pw_below_drewN (Below.refl _ _) _)⟩ | exact ⟨ST.out.below (b_d (Below.refl _ _))⟩⟩
      · rw [if_neg c, if_neg (by simp)] at h
        obtain rfl := Option.some.inj h
        clear h
        have p1 : decide (x = y) = false := decide_eq_false c
        have p2 : (x == y) = false := beq_eq_false_iff_ne.2 c
        have p3 : (x != y) = true := bne_iff_ne.2 c
        go_wp2
        go_quiet (fail)
        go_wp2
        go_ret
        first | exact ⟨rfl, ST.out.1⟩ | exact ⟨rfl, below_step ST.out.1 (pw_below_drewN (Below.refl _ _) _)⟩ | exact ⟨rfl, below_step ST.out.1 (b_d (Below.refl _ _))⟩
/-! ### frame_word: function 38 -/
def frame_word.f (l0 : List Int) : Option (Int) := if 0 < (l0.length : Int) then (if 1 < (l0.length : Int) then (if 2 < (l0.length : Int) then (if 3 < (l0.length : Int) then (some (Go.bits .or .u32 (Go.bits .or .u32 (Go.bits .or .u32 ((((rd l0 0) % 4294967296) * 16777216) % 4294967296) ((((rd l0 1) % 4294967296) * 65536) % 4294967296)) ((((rd l0 2) % 4294967296) * 256) % 4294967296)) ((rd l0 3) % 4294967296))) else (none)) else (none)) else (none)) else (none)
set_option maxHeartbeats 60000000 in
set_option maxRecDepth 100000 in
theorem frame_word.calls (A0 : Option Addr) (c0 : Nat) (l0 : List Int) (r : Int) (w : World) (hr0 : Kd.C (Kd.int .u8) w A0 l0.length l0) (hc0 : l0.length ≤ c0) (h : frame_word.f l0 = some r) :
  Calls Try.prog 38 #[.slice A0 l0.length c0] w fun e w' => e = .returned (.int .u32 r) ∧ Drawn0 w w' := by
 have HR0 := Aside0.mk hr0
 have HC0 := Aside0.mk hc0
 clear hr0 hc0
 have H : (if 0 < (l0.length : Int) then (if 1 < (l0.length : Int) then (if 2 < (l0.length : Int) then (if 3 < (l0.length : Int) then (some (Go.bits .or .u32 (Go.bits .or .u32 (Go.bits .or .u32 ((((rd l0 0) % 4294967296) * 16777216) % 4294967296) ((((rd l0 1) % 4294967296) * 65536) % 4294967296)) ((((rd l0 2) % 4294967296) * 256) % 4294967296)) ((rd l0 3) % 4294967296))) else (none)) else (none)) else (none)) else (none)) = some r := h
 clear h
 by_cases c2 : 0 < (l0.length : Int)
 rotate_left
 ·
  rw [if_neg c2] at H
  exact absurd H (by simp)

 rw [if_pos c2] at H
 have c2b0 : decide (0 < (l0.length : Int)) = true := decide_eq_true c2
 have c2b1 : decide (0 < l0.length) = true := decide_eq_true (by omega)
 clear c2
 by_cases c3 : 1 < (l0.length : Int)
 rotate_left
 ·
  rw [if_neg c3] at H
  exact absurd H (by simp)
 rw [if_pos c3] at H
 have c3b0 : decide (1 < (l0.length : Int)) = true := decide_eq_true c3
 have c3b1 : decide (1 < l0.length) = true := decide_eq_true (by omega)
 clear c3
 by_cases c4 : 2 < (l0.length : Int)
 rotate_left
 ·
  rw [if_neg c4] at H
  exact absurd H (by simp)
 rw [if_pos c4] at H
 have c4b0 : decide (2 < (l0.length : Int)) = true := decide_eq_true c4
 have c4b1 : decide (2 < l0.length) = true := decide_eq_true (by omega)
 clear c4
 by_cases c5 : 3 < (l0.length : Int)
 rotate_left
 ·
  rw [if_neg c5] at H
  exact absurd H (by simp)
 rw [if_pos c5] at H
 have c5b0 : decide (3 < (l0.length : Int)) = true := decide_eq_true c5
 have c5b1 : decide (3 < l0.length) = true := decide_eq_true (by omega)
 clear c5
 obtain rfl := Option.some.inj H
 have p170 : 0 ≤ (0 : Int) := (by omega)
 have q170 : 0 < (l0.length : Int) := of_decide_eq_true (by first | (with_reducible assumption) | assumption)
 obtain ⟨ad170, e170, hx170_0⟩ := Kd.at_int HR0.out 0 p170 q170
 cases e170
 have qi170 : (0 < l0.length) = True := eq_true (by omega)
 (try rw [show ((0 : Int)).toNat = 0 from rfl] at hx170_0)
 (try rw [Addr.add_zero'] at hx170_0)
 replace p170 := eq_true p170
 replace q170 := eq_true q170
 have p171 : 0 ≤ (1 : Int) := (by omega)
 have q171 : 1 < (l0.length : Int) := of_decide_eq_true (by first | (with_reducible assumption) | assumption)
 obtain ⟨ad171, e171, hx171_0⟩ := Kd.at_int HR0.out 1 p171 q171
 obtain rfl : ad170 = ad171 := (by injection e171)
 (try simp only [show (1 : Int).toNat = 1 from rfl, Nat.reduceMul, Nat.reduceEqDiff, Go.Addr.add, ↓reduceIte] at hx171_0)
 have qi171 : (1 < l0.length) = True := eq_true (by omega)
 (try rw [show ((1 : Int)).toNat = 1 from rfl] at hx171_0)
 replace p171 := eq_true p171
 replace q171 := eq_true q171
 have p172 : 0 ≤ (2 : Int) := (by omega)
 have q172 : 2 < (l0.length : Int) := of_decide_eq_true (by first | (with_reducible assumption) | assumption)
 obtain ⟨ad172, e172, hx172_0⟩ := Kd.at_int HR0.out 2 p172 q172
 obtain rfl : ad170 = ad172 := (by injection e172)
 (try simp only [show (2 : Int).toNat = 2 from rfl, Nat.reduceMul, Nat.reduceEqDiff, Go.Addr.add, ↓reduceIte] at hx172_0)
 have qi172 : (2 < l0.length) = True := eq_true (by omega)
 (try rw [show ((2 : Int)).toNat = 2 from rfl] at hx172_0)
 replace p172 := eq_true p172
 replace q172 := eq_true q172
 have p173 : 0 ≤ (3 : Int) := (by omega)
 have q173 : 3 < (l0.length : Int) := of_decide_eq_true (by first | (with_reducible assumption) | assumption)
 obtain ⟨ad173, e173, hx173_0⟩ := Kd.at_int HR0.out 3 p173 q173
 obtain rfl : ad170 = ad173 := (by injection e173)
 (try simp only [show (3 : Int).toNat = 3 from rfl, Nat.reduceMul, Nat.reduceEqDiff, Go.Addr.add, ↓reduceIte] at hx173_0)
 have qi173 : (3 < l0.length) = True := eq_true (by omega)
 (try rw [show ((3 : Int)).toNat = 3 from rfl] at hx173_0)
 replace p173 := eq_true p173
 replace q173 := eq_true q173
 go_enter Try.func38, Try.ntmps38
 go_wp2
 repeat (go_quiet (fail); try go_wp2)
 go_ret
 exact ⟨by first | rfl | (simp; done) | (simp [*]; done), by repeat (first | exact Drawn0.refl _ | apply Drawn0.step)⟩
/-! ### frame_size: function 37 -/
def frame_size.j0 : Nat → List Int → Bool → Option (Int × Int)
 | 0, _, _ => none
 | k + 1, x0, x9 => if x9 = true then (some (0, 71)) else (if 2 < (x0.length : Int) then (if (rd x0 2) = 1 then (if 4 ≤ (x0.length : Int) then ((frame_word.f (x0.drop 4)).bind fun t178 => (if t178 > 1048576 then (some (0, 140)) else (some (wrap64 (12 + (wrap64 (t178))), 0)))) else (none)) else (some (0, 141))) else (none))
def frame_size.f (k : Nat) (l0 : List Int) : Option (Int × Int) := if (l0.length : Int) < 12 then (some (0, 70)) else (if 0 < (l0.length : Int) then (if (rd l0 0) = 80 then (if 1 < (l0.length : Int) then (frame_size.j0 k l0 ((rd l0 1) != 76)) else (none)) else (frame_size.j0 k l0 true)) else (none))
theorem frame_size.mono_l : ∀ k, (∀ y0 y1, LeO (frame_size.j0 k y0 y1) (frame_size.j0 (k + 1) y0 y1))
 | 0 => fun _ _ r h => by simp [frame_size.j0] at h
 | k + 1 => by
  have ih0 := frame_size.mono_l k
  ·
   intro y0 y1
   unfold frame_size.j0
   repeat' first
   | (with_reducible exact ih0 _ _)
   | (with_reducible exact LeO.refl _)
   | (with_reducible exact LeO.none _)
   | (with_reducible refine LeO.ite ?_ ?_)
   | (with_reducible refine LeO.bind ?_ (fun _ => ?_))
   | exact ih0 _ _
   | exact LeO.none _
   | refine LeO.ite ?_ ?_
   | refine LeO.bind ?_ (fun _ => ?_)
theorem frame_size.mono : ∀ a0 k, LeO (frame_size.f k a0) (frame_size.f (k + 1) a0) := by
 intro a0 k
 have ih0 := frame_size.mono_l k
 unfold frame_size.f
 repeat' first
   | (with_reducible exact ih0 _ _)
   | (with_reducible exact LeO.refl _)
   | (with_reducible exact LeO.none _)
   | (with_reducible refine LeO.ite ?_ ?_)
   | (with_reducible refine LeO.bind ?_ (fun _ => ?_))
   | exact ih0 _ _
   | exact LeO.none _
   | refine LeO.ite ?_ ?_
   | refine LeO.bind ?_ (fun _ => ?_)
set_option maxHeartbeats 60000000 in
set_option maxRecDepth 100000 in
theorem frame_size.calls (k : Nat) (A0 : Option Addr) (c0 : Nat) (l0 : List Int) (r1 : Int) (r2 : Int) (w : World) (hr0 : Kd.C (Kd.int .u8) w A0 l0.length l0) (hc0 : l0.length ≤ c0) (h : frame_size.f k l0 = some (r1, r2)) :
  Calls Try.prog 37 #[.slice A0 l0.length c0] w fun e w' => e = .returned (.tuple #[.int .i64 r1, .int .i64 r2]) ∧ Drawn0 w w' := by
 have HR0 := Aside0.mk hr0
 have HC0 := Aside0.mk hc0
 clear hr0 hc0
 have H : (if (l0.length : Int) < 12 then (some (0, 70)) else (if 0 < (l0.length : Int) then (if (rd l0 0) = 80 then (if 1 < (l0.length : Int) then (frame_size.j0 k l0 ((rd l0 1) != 76)) else (none)) else (frame_size.j0 k l0 true)) else (none))) = some (r1, r2) := h
 clear h
 by_cases c2 : (l0.length : Int) < 12
 ·
  rw [if_pos c2] at H
  have c2b0 : decide ((l0.length : Int) < 12) = true := decide_eq_true c2
  have c2b1 : decide (l0.length < 12) = true := decide_eq_true (by omega)
  clear c2
  simp only [Option.some.injEq, Prod.mk.injEq] at H
  obtain ⟨rfl, rfl⟩ := H
  go_enter Try.func37, Try.ntmps37
  go_wp2
  go_ret2
  exact ⟨by first | rfl | (simp; done) | (simp [*]; done), by repeat (first | exact Drawn0.refl _ | apply Drawn0.step)⟩
 rw [if_neg c2] at H
 have c2b0 : decide ((l0.length : Int) < 12) = false := decide_eq_false c2
 have c2b1 : decide (l0.length < 12) = false := decide_eq_false (by omega)
 clear c2
 have HC3 := Aside0.mk H
 clear H
 go_enter Try.func37, Try.ntmps37
 go_upto_region 3 with (fail)
 go_cut [9] (fun v9 wc => ∃ (kq : Nat) (x9_2 : Bool), v9 = .bool x9_2 ∧ Aside0 (frame_size.j0 kq l0 x9_2 = some (r1, r2)) ∧ Aside0 (kq ≤ k) ∧ Drawn0 w wc)
 case first =>
  have H := HC3.out
  clear HC3
  by_cases c4 : 0 < (l0.length : Int)
  rotate_left
  ·
   rw [if_neg c4] at H
   exact absurd H (by simp)
  rw [if_pos c4] at H
  have c4b0 : decide (0 < (l0.length : Int)) = true := decide_eq_true c4
  have c4b1 : decide (0 < l0.length) = true := decide_eq_true (by omega)
  clear c4
  (first | rw [c4b0] | (simp only [i64_w, i32_w]; rw [c4b0]) | skip)
  by_cases c5 : (rd l0 0) = 80
  rotate_left
  ·
   rw [if_neg c5] at H
   have c5b0 : ((rd l0 0) == 80) = false := beq_eq_false_iff_ne.mpr c5
   have c5b1 : ((rd l0 0) != 80) = true := bne_iff_ne.mpr c5
   have H' := Aside0.mk H
   clear H
   have p174 : 0 ≤ (0 : Int) := (by omega)
   have q174 : 0 < (l0.length : Int) := of_decide_eq_true (by first | (with_reducible assumption) | assumption)
   obtain ⟨ad174, e174, hx174_0⟩ := Kd.at_int HR0.out 0 p174 q174
   cases e174
   have qi174 : (0 < l0.length) = True := eq_true (by omega)
   (try rw [show ((0 : Int)).toNat = 0 from rfl] at hx174_0)
   (try rw [Addr.add_zero'] at hx174_0)
   replace p174 := eq_true p174
   replace q174 := eq_true q174
   go_wp2
   go_meet
   case rel => exact ⟨_, (true), (by first | rfl | (simp; done) | (simp [*]; done)), H', ⟨by first | exact Nat.le_refl _ | omega⟩, by repeat (first | exact Drawn0.refl _ | apply Drawn0.step)⟩
  rw [if_pos c5] at H
  have c5b0 : ((rd l0 0) == 80) = true := beq_iff_eq.mpr c5
  have c5b1 : ((rd l0 0) != 80) = false := bne_eq_false_iff_eq.mpr c5
  clear c5
  by_cases c6 : 1 < (l0.length : Int)
  rotate_left
  ·
   rw [if_neg c6] at H
   exact absurd H (by simp)
  rw [if_pos c6] at H
  have c6b0 : decide (1 < (l0.length : Int)) = true := decide_eq_true c6
  have c6b1 : decide (1 < l0.length) = true := decide_eq_true (by omega)
  clear c6
  have H' := Aside0.mk H
  clear H
  have p174 : 0 ≤ (0 : Int) := (by omega)
  have q174 : 0 < (l0.length : Int) := of_decide_eq_true (by first | (with_reducible assumption) | assumption)
  obtain ⟨ad174, e174, hx174_0⟩ := Kd.at_int HR0.out 0 p174 q174
  cases e174
  have qi174 : (0 < l0.length) = True := eq_true (by omega)
  (try rw [show ((0 : Int)).toNat = 0 from rfl] at hx174_0)
  (try rw [Addr.add_zero'] at hx174_0)
  replace p174 := eq_true p174
  replace q174 := eq_true q174
  have p175 : 0 ≤ (1 : Int) := (by omega)
  have q175 : 1 < (l0.length : Int) := of_decide_eq_true (by first | (with_reducible assumption) | assumption)
  obtain ⟨ad175, e175, hx175_0⟩ := Kd.at_int HR0.out 1 p175 q175
  obtain rfl : ad174 = ad175 := (by injection e175)
  (try simp only [show (1 : Int).toNat = 1 from rfl, Nat.reduceMul, Nat.reduceEqDiff, Go.Addr.add, ↓reduceIte] at hx175_0)
  have qi175 : (1 < l0.length) = True := eq_true (by omega)
  (try rw [show ((1 : Int)).toNat = 1 from rfl] at hx175_0)
  replace p175 := eq_true p175
  replace q175 := eq_true q175
  go_wp2
  go_meet
  case rel => exact ⟨_, (((rd l0 1) != 76)), (by first | rfl | (simp; done) | (simp [*]; done)), H', ⟨by first | exact Nat.le_refl _ | omega⟩, by repeat (first | exact Drawn0.refl _ | apply Drawn0.step)⟩
 case rest => as_aux_lemma =>
  clear HC3
  try clear p1
  try clear q1
  try clear hx1
  try clear qi1
  try clear c2
  try clear c2b0
  try clear c2b1
  try clear p2
  try clear c3
  try clear c4
  try clear c4b0
  try clear c4b1
  try clear c5
  try clear c5b0
  try clear c5b1
  try clear c6
  try clear c6b0
  try clear c6b1
  try clear hx174_0
  try clear hx175_0
  try clear p174
  try clear p175
  try clear q174
  try clear q175
  obtain ⟨kq, x9_2, rfl, HA, HJ2, ⟨mc2, rfl⟩⟩ := hcut
  cases kq with
  | zero => exact absurd HA.out (by simp [frame_size.j0])
  | succ kj2 =>
   have H := HA.out
   clear HA
   simp only [frame_size.j0] at H
   by_cases c7 : x9_2 = true
   ·
    subst c7
    have H1 : (some (0, 71)) = some (r1, r2) := by rw [if_pos rfl] at H; exact H
    clear H
    have H := H1
    clear H1
    simp only [Option.some.injEq, Prod.mk.injEq] at H
    obtain ⟨rfl, rfl⟩ := H
    go_wp2
    go_ret2
    exact ⟨by first | rfl | (simp; done) | (simp [*]; done), by repeat (first | exact Drawn0.refl _ | apply Drawn0.step)⟩
   replace c7 := Bool.eq_false_iff.mpr c7
   subst c7
   have H1 : (if 2 < (l0.length : Int) then (if (rd l0 2) = 1 then (if 4 ≤ (l0.length : Int) then ((frame_word.f (l0.drop 4)).bind fun t178 => (if t178 > 1048576 then (some (0, 140)) else (some (wrap64 (12 + (wrap64 (t178))), 0)))) else (none)) else (some (0, 141))) else (none)) = some (r1, r2) := by rw [if_neg (show ¬ (false = true) by decide)] at H; exact H
   clear H
   have H := H1
   clear H1
   by_cases c8 : 2 < (l0.length : Int)
   rotate_left
   ·
    rw [if_neg c8] at H
    exact absurd H (by simp)

   rw [if_pos c8] at H
   have c8b0 : decide (2 < (l0.length : Int)) = true := decide_eq_true c8
   have c8b1 : decide (2 < l0.length) = true := decide_eq_true (by omega)
   clear c8
   by_cases c9 : (rd l0 2) = 1
   rotate_left
   ·
    rw [if_neg c9] at H
    have c9b0 : ((rd l0 2) == 1) = false := beq_eq_false_iff_ne.mpr c9
    have c9b1 : ((rd l0 2) != 1) = true := bne_iff_ne.mpr c9
    simp only [Option.some.injEq, Prod.mk.injEq] at H
    obtain ⟨rfl, rfl⟩ := H
    have p176 : 0 ≤ (2 : Int) := (by omega)
    have q176 : 2 < (l0.length : Int) := of_decide_eq_true (by first | (with_reducible assumption) | assumption)
    obtain ⟨ad176, e176, hx176_0⟩ := Kd.at_int HR0.out 2 p176 q176
    cases e176
    (try simp only [show (2 : Int).toNat = 2 from rfl, Nat.reduceMul, Nat.reduceEqDiff, Go.Addr.add, ↓reduceIte] at hx176_0)
    have qi176 : (2 < l0.length) = True := eq_true (by omega)
    (try rw [show ((2 : Int)).toNat = 2 from rfl] at hx176_0)
    replace p176 := eq_true p176
    replace q176 := eq_true q176
    go_wp2
    go_ret2
    exact ⟨by first | rfl | (simp; done) | (simp [*]; done), by repeat (first | exact Drawn0.refl _ | apply Drawn0.step)⟩
   rw [if_pos c9] at H
   have c9b0 : ((rd l0 2) == 1) = true := beq_iff_eq.mpr c9
   have c9b1 : ((rd l0 2) != 1) = false := bne_eq_false_iff_eq.mpr c9
   clear c9
   by_cases c10 : 4 ≤ (l0.length : Int)
   rotate_left
   ·
    rw [if_neg c10] at H
    exact absurd H (by simp)
   rw [if_pos c10] at H
   have c10b0 := eq_true c10
   have c10b1 : decide (4 ≤ (l0.length : Int)) = true := decide_eq_true c10
   clear c10
   replace H := Option.bind_eq_some_iff.mp H
   obtain ⟨t178, A110, H⟩ := H
   replace H : (if t178 > 1048576 then (some (0, 140)) else (some (wrap64 (12 + (wrap64 (t178))), 0))) = some (r1, r2) := H
   have A11 := Aside0.mk A110
   clear A110
   by_cases c12 : t178 > 1048576
   ·
    rw [if_pos c12] at H
    have c12b0 : decide (1048576 < t178) = true := decide_eq_true c12
    clear c12
    simp only [Option.some.injEq, Prod.mk.injEq] at H
    obtain ⟨rfl, rfl⟩ := H
    have p176 : 0 ≤ (2 : Int) := (by omega)
    have q176 : 2 < (l0.length : Int) := of_decide_eq_true (by first | (with_reducible assumption) | assumption)
    obtain ⟨ad176, e176, hx176_0⟩ := Kd.at_int HR0.out 2 p176 q176
    cases e176
    (try simp only [show (2 : Int).toNat = 2 from rfl, Nat.reduceMul, Nat.reduceEqDiff, Go.Addr.add, ↓reduceIte] at hx176_0)
    have qi176 : (2 < l0.length) = True := eq_true (by omega)
    (try rw [show ((2 : Int)).toNat = 2 from rfl] at hx176_0)
    replace p176 := eq_true p176
    replace q176 := eq_true q176
    obtain ⟨i013, hi013, _, hsz13, _⟩ := info_parts info5
    obtain ⟨A13, hcut13, hA13, hC13⟩ := print_drop_of (P := Try.prog) (Value.int .u8) 0 29 5 .i64 Try.underlying29 hi013 hsz13 (some ad176) c0 l0 4 (by omega) (of_decide_eq_true (by first | (with_reducible assumption) | assumption)) HC0.out
    have HR177 := Aside0.mk (Kd.C_of_reads (h1 := fun _ => rfl) (hA13 _ (Kd.reads_of_C HR0.out)))
    have HC177 := Aside0.mk hC13
    clear hA13 hC13 hi013 hsz13
    go_wp2_with (first | ((with_reducible refine gate_callee (f := 38) rfl ?_); refine goesL_ (some 27) rfl rfl Try.func38 (by kernel_rfl) rfl #[.slice A13 (l0.drop 4).length (c0 - 4)] rfl (by (try simp only [l_4, l_5, l_6]); first | done | (rw [show (l0.drop 4).length = (l0.length - 4) from l_7] <;> rfl) | rfl | (simp only [l_7, l_8]; rfl)) ?_; (with_reducible refine (frame_word.calls _ _ (l0.drop 4) t178 _ ?side1 ?side2 A11.out).mono ?_); (case side1 => repeat (first | exact HR177.out | (with_reducible refine Kd.C_alloc ?_ _) | (with_reducible refine Kd.C_drewN ?_ _) | (with_reducible refine Kd.C_drew ?_))); (case side2 => exact HC177.out); rintro e w' ⟨rfl, ⟨nd, rfl⟩⟩; refine ⟨_, rfl, ?_⟩))
    go_ret2
    exact ⟨by first | rfl | (simp; done) | (simp [*]; done), by repeat (first | exact Drawn0.refl _ | apply Drawn0.step)⟩
   rw [if_neg c12] at H
   have c12b0 : decide (1048576 < t178) = false := decide_eq_false c12
   clear c12
   simp only [Option.some.injEq, Prod.mk.injEq] at H
   obtain ⟨rfl, rfl⟩ := H
   have p176 : 0 ≤ (2 : Int) := (by omega)
   have q176 : 2 < (l0.length : Int) := of_decide_eq_true (by first | (with_reducible assumption) | assumption)
   obtain ⟨ad176, e176, hx176_0⟩ := Kd.at_int HR0.out 2 p176 q176
   cases e176
   (try simp only [show (2 : Int).toNat = 2 from rfl, Nat.reduceMul, Nat.reduceEqDiff, Go.Addr.add, ↓reduceIte] at hx176_0)
   have qi176 : (2 < l0.length) = True := eq_true (by omega)
   (try rw [show ((2 : Int)).toNat = 2 from rfl] at hx176_0)
   replace p176 := eq_true p176
   replace q176 := eq_true q176
   obtain ⟨i014, hi014, _, hsz14, _⟩ := info_parts info5
   obtain ⟨A14, hcut14, hA14, hC14⟩ := print_drop_of (P := Try.prog) (Value.int .u8) 0 29 5 .i64 Try.underlying29 hi014 hsz14 (some ad176) c0 l0 4 (by omega) (of_decide_eq_true (by first | (with_reducible assumption) | assumption)) HC0.out
   have HR177 := Aside0.mk (Kd.C_of_reads (h1 := fun _ => rfl) (hA14 _ (Kd.reads_of_C HR0.out)))
   have HC177 := Aside0.mk hC14
   clear hA14 hC14 hi014 hsz14
   go_wp2_with (first | ((with_reducible refine gate_callee (f := 38) rfl ?_); refine goesL_ (some 27) rfl rfl Try.func38 (by kernel_rfl) rfl #[.slice A14 (l0.drop 4).length (c0 - 4)] rfl (by (try simp only [l_4, l_5, l_6]); first | done | (rw [show (l0.drop 4).length = (l0.length - 4) from l_7] <;> rfl) | rfl | (simp only [l_7, l_8]; rfl)) ?_; (with_reducible refine (frame_word.calls _ _ (l0.drop 4) t178 _ ?side1 ?side2 A11.out).mono ?_); (case side1 => repeat (first | exact HR177.out | (with_reducible refine Kd.C_alloc ?_ _) | (with_reducible refine Kd.C_drewN ?_ _) | (with_reducible refine Kd.C_drew ?_))); (case side2 => exact HC177.out); rintro e w' ⟨rfl, ⟨nd, rfl⟩⟩; refine ⟨_, rfl, ?_⟩))
   go_ret2
   exact ⟨by first | rfl | (simp; done) | (simp [*]; done), by repeat (first | exact Drawn0.refl _ | apply Drawn0.step)⟩
/-! ### bytes_Clone: function 39 -/
def bytes_Clone.f (l0 : List Int) : Option (List Int) := (some (([] : List Int) : List Int)).bind fun y179 => (if y179.length + l0.length < 140737488355328 then (some (y179 ++ l0)) else (none))
set_option maxHeartbeats 60000000 in
set_option maxRecDepth 100000 in
theorem bytes_Clone.calls_some (b0 : Addr) (c0 : Nat) (l0 : List Int) (r : List Int) (w : World) (hr0 : Kd.C (Kd.int .u8) w (some b0) l0.length l0) (hc0 : l0.length ≤ c0) (h : bytes_Clone.f l0 = some r) :
  Calls Try.prog 39 #[.slice (some b0) l0.length c0] w fun e w' => ∃ v0_ : Value, e = .returned (v0_) ∧ Kd.R (Kd.int .u8) 5 w' w.heap.size (fun _ => True) v0_ r ∧ Below w.heap.size w w' := by
 have hq_ : ∀ W : World, (binOp .eql 29 (.slice (some b0) l0.length c0) (.slice none 0 0)).run Try.prog W = .ok (.bool false) W := fun W => Go.Lib.run_eql_slice_nil W 29 5 (some b0) l0.length c0 0 0 Try.underlying29
 have HR0 := Aside0.mk hr0
 have HC0 := Aside0.mk hc0
 clear hr0 hc0
 have HB := Aside0.mk (Below.refl w.heap.size w)
 have H : ((some (([] : List Int) : List Int)).bind fun y179 => (if y179.length + l0.length < 140737488355328 then (some (y179 ++ l0)) else (none))) = some r := h
 clear h
 obtain ⟨y179, hy179⟩ : ∃ y_ : List Int, y_ = (([] : List Int)) := ⟨_, rfl⟩
 replace H : (if y179.length + l0.length < 140737488355328 then (some (y179 ++ l0)) else (none)) = some r := by first | (rw [hy179]; with_reducible exact H) | (have H2_ := (Option.bind_some _ _).symm.trans H; rw [hy179]; with_reducible exact H2_) | (have H2_ := (Option.bind_some _ _).symm.trans H; with_reducible exact H2_) | with_reducible exact H | (rw [hy179]; exact H) | exact H
 have Ny179 := Aside0.mk hy179
 clear hy179
 by_cases c2 : y179.length + l0.length < 140737488355328
 rotate_left
 ·
  rw [if_neg c2] at H
  exact absurd H (by simp)

 rw [if_pos c2] at H
 have LMc2 := Aside0.mk c2
 clear c2
 obtain ⟨y182, hy182⟩ : ∃ y_ : List Int, y_ = (y179 ++ l0) := ⟨_, rfl⟩
 replace H : (some y182) = some r := by first | (rw [hy182]; with_reducible exact H) | (have H2_ := (Option.bind_some _ _).symm.trans H; rw [hy182]; with_reducible exact H2_) | (have H2_ := (Option.bind_some _ _).symm.trans H; with_reducible exact H2_) | with_reducible exact H | (rw [hy182]; exact H) | exact H
 have Ny182 := Aside0.mk hy182
 clear hy182
 obtain rfl := Option.some.inj H
 go_enter Try.func39, Try.ntmps39
 go_wp2_with (first | ((with_reducible refine gate_dst (N := 5) rfl ?_); refine Kd.R_lit (Kd.int .u8) _ 5 ?hg (N := 5) ?hd (xs := ([] : List Int)) (inner := []) (ok := fun _ => True) (okp := fun _ => True) ?hr ?hp (fun _ hk => hk) trivial (Below.refl _ _) (Nat.le_refl _) (by simp) ?_; (case hd => rfl); (case hg => rfl); (case hr => first | (go_simp; done) | (go_simp; rfl)); (case hp => exact (Reps.none _ _)); intro v180 w3 ho4 hb hg_ hnew_; clear hg_ hnew_; (first | rw [← Ny179.out] at ho4 | (simp only [Int.reduceToNat] at ho4; rw [← Ny179.out] at ho4)); have HO181 := Aside0.mk (Kd.R_lower ho4 (below_size (bw_ HB))); replace HB := Aside0.mk (below_step (bw_ HB) hb); clear hb ho4) | ((with_reducible refine gate_builtin (b := .append) (xs := #[.tmp 5, .tmp 6]) rfl ?_); at_builtin; refine Kd.R_append_rows (Kd.int .u8) (w0 := w) w.heap.size rfl (.tmp 5) (.tmp 6) 29 5 (.int .u8 0) 1 rfl Try.underlying29 info5 rfl (by decide) (by omega) v180 y179 l0 _ _ _ (fun _ => True) (fun _ => False) rfl rfl ?aO ?aR (fun _ _ h => h) (fun _ h => h.elim) ?aF ?aB ?aS ?aL ?_; (case aR => repeat (first | exact (Kd.C_below HR0.out HB.out) | (with_reducible refine Kd.C_alloc ?_ _) | (with_reducible refine Kd.C_drewN ?_ _) | (with_reducible refine Kd.C_drew ?_))); (case aB => exact (bw_ HB)); (case aF => exact (fun _ _ => trivial)); (case aO => exact (tR_ HO181)); (case aS => exact (below_size (bw_ HB))); (case aL => have := LMc2.out; omega); intro v183 w5 ho hb hg hat; rw [← Ny182.out] at ho; have n0_ := Aside0.mk (hb); have n1_ := Aside0.mk (ho); clear HB; clear HO181; have HB := n0_; have HO184 := n1_; clear n0_ n1_; clear ho hb hg hat))
 go_ret
 exact ⟨_, by first | rfl | (simp [errW_none, errW_some] <;> rfl) | (simp [*, errW_none, errW_some] <;> rfl), by (with_reducible repeat (first | apply Kd.R_alloc | apply Kd.R_drewN | apply Kd.R_drew)); exact HO184.out, by repeat (first | (with_reducible first | exact HB.out | apply b_a | apply b_n | apply b_d) | exact HB.out)⟩
set_option maxHeartbeats 8000000 in
set_option maxRecDepth 100000 in
theorem bytes_Clone.calls (A0 : Option Addr) (c0 : Nat) (l0 : List Int) (r : List Int) (w : World) (hr0 : Kd.C (Kd.int .u8) w A0 l0.length l0) (hc0 : l0.length ≤ c0) (h : bytes_Clone.f l0 = some r) :
  Calls Try.prog 39 #[.slice A0 l0.length c0] w fun e w' => ∃ v0_ : Value, e = .returned (v0_) ∧ Kd.R (Kd.int .u8) 5 w' w.heap.size (fun _ => True) v0_ r ∧ Below w.heap.size w w' := by
 cases A0 with
 | some b0 => exact bytes_Clone.calls_some b0 c0 l0 r w hr0 hc0 h
 | none =>
  have hz : l0 = [] := by
   rcases Nat.eq_zero_or_pos l0.length with h0 | h0
   ·
    exact List.length_eq_zero_iff.1 h0
   ·
    obtain ⟨ad, e_, _⟩ := hr0.2.2 h0
    cases e_
  subst hz
  have hr_ : r = [] := by
   have h2 := h
   simp [bytes_Clone.f] at h2
   exact h2
  subst hr_
  clear h hr0
  have hq_ : ∀ (W : World) (m : Nat), (binOp .eql 29 (.slice none m c0) (.slice none 0 0)).run Try.prog W = .ok (.bool true) W := fun W m => Go.Lib.run_eql_slice_nil W 29 5 none m c0 0 0 Try.underlying29
  go_enter Try.func39, Try.ntmps39
  go_wp2
  go_ret
  exact ⟨.slice none 0 0, rfl, Kd.R_nil _ _ _ _ _, Below.refl _ _⟩

end Go.Proofs.Ytnkphgiodpledaa.QMsgBack
