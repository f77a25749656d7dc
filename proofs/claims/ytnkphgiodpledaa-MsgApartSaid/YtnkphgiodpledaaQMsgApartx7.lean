-- Written by a program of this session (a turned copy of the print) out of the translation. Lean checks it.
import Derived.Test.YtnkphgiodpledaaQMsgApartx0
import Derived.Test.YtnkphgiodpledaaQMsgApartx1
namespace Go.Proofs.Ytnkphgiodpledaa.QMsgApart
open Go.RowKit Go.Proofs.YtnkphgiodpledaaW.PrintWords Go.Proofs.YtnkphgiodpledaaW.PrintLast Go.Proofs.YtnkphgiodpledaaW.PrintMore
attribute [local go_sem] max2_int min2_int max_two min_two max_three min_three max_four min_four   -- for this text's walks alone
open Go.Proofs.YtnkphgiodpledaaW.PrintWords renaming below_alloc → b_a, pw_below_drewN → b_n, below_drew1 → b_d, below_set → b_s, blk_drewN → k_n, blk_drew → k_d, blk_alloc → k_a
open List renaming setIfInBounds_toArray → l_1, set_cons_zero → l_2, set_cons_succ → l_3, map_toArray → l_4, map_cons → l_5, map_nil → l_6, length_drop → l_7, length_take → l_8
set_option linter.unusedVariables false
set_option linter.unusedSimpArgs false

/-! ### slices_Equal_int32_int32: function 27 -/
def slices_Equal_int32_int32.l0 : Nat → List Int → List Int → Int → Int → Option (Bool)
 | 0, _, _, _, _ => none
 | k + 1, x0, x1, x12, x13 => if x13 < x12 then (if 0 ≤ x13 then (if x13 < (x0.length : Int) then (if x13 < (x1.length : Int) then (if (rd x0 x13) = (rd x1 x13) then (slices_Equal_int32_int32.l0 k x0 x1 x12 (wrap64 (x13 + 1))) else (some false)) else (none)) else (none)) else (none)) else (some true)
def slices_Equal_int32_int32.f (k : Nat) (l0 : List Int) (l1 : List Int) : Option (Bool) := if (l0.length : Int) = (l1.length : Int) then (slices_Equal_int32_int32.l0 k l0 l1 (l0.length : Int) 0) else (some false)
theorem slices_Equal_int32_int32.mono_l : ∀ k, (∀ y0 y1 y2 y3, LeO (slices_Equal_int32_int32.l0 k y0 y1 y2 y3) (slices_Equal_int32_int32.l0 (k + 1) y0 y1 y2 y3))
 | 0 => fun _ _ _ _ r h => by simp [slices_Equal_int32_int32.l0] at h
 | k + 1 => by
  have ih0 := slices_Equal_int32_int32.mono_l k
  ·
   intro y0 y1 y2 y3
   unfold slices_Equal_int32_int32.l0
   repeat' first
   | (with_reducible exact ih0 _ _ _ _)
   | (with_reducible exact LeO.refl _)
   | (with_reducible exact LeO.none _)
   | (with_reducible refine LeO.ite ?_ ?_)
   | (with_reducible refine LeO.bind ?_ (fun _ => ?_))
   | exact ih0 _ _ _ _
   | exact LeO.none _
   | refine LeO.ite ?_ ?_
   | refine LeO.bind ?_ (fun _ => ?_)
theorem slices_Equal_int32_int32.mono : ∀ a0 a1 k, LeO (slices_Equal_int32_int32.f k a0 a1) (slices_Equal_int32_int32.f (k + 1) a0 a1) := by
 intro a0 a1 k
 have ih0 := slices_Equal_int32_int32.mono_l k
 unfold slices_Equal_int32_int32.f
 repeat' first
   | (with_reducible exact ih0 _ _ _ _)
   | (with_reducible exact LeO.refl _)
   | (with_reducible exact LeO.none _)
   | (with_reducible refine LeO.ite ?_ ?_)
   | (with_reducible refine LeO.bind ?_ (fun _ => ?_))
   | exact ih0 _ _ _ _
   | exact LeO.none _
   | refine LeO.ite ?_ ?_
   | refine LeO.bind ?_ (fun _ => ?_)
set_option maxHeartbeats 60000000 in
set_option maxRecDepth 100000 in
theorem slices_Equal_int32_int32.calls (k : Nat) (A0 : Option Addr) (c0 : Nat) (l0 : List Int) (A1 : Option Addr) (c1 : Nat) (l1 : List Int) (r : Bool) (w : World) (hr0 : Kd.C (Kd.int .i32) w A0 l0.length l0) (hc0 : l0.length ≤ c0) (hr1 : Kd.C (Kd.int .i32) w A1 l1.length l1) (hc1 : l1.length ≤ c1) (h : slices_Equal_int32_int32.f k l0 l1 = some r) :
  Calls Try.prog 27 #[.slice A0 l0.length c0, .slice A1 l1.length c1] w fun e w' => e = .returned (.bool r) ∧ Drawn0 w w' := by
 have HR0 := Aside0.mk hr0
 have HC0 := Aside0.mk hc0
 clear hr0 hc0
 have HR1 := Aside0.mk hr1
 have HC1 := Aside0.mk hc1
 clear hr1 hc1
 have H : (if (l0.length : Int) = (l1.length : Int) then (slices_Equal_int32_int32.l0 k l0 l1 (l0.length : Int) 0) else (some false)) = some r := h
 clear h
 by_cases c3 : (l0.length : Int) = (l1.length : Int)
 rotate_left
 ·
  rw [if_neg c3] at H
  have c3b0 : ((l0.length : Int) == (l1.length : Int)) = false := beq_eq_false_iff_ne.mpr c3
  have c3b1 : ((l0.length : Int) != (l1.length : Int)) = true := bne_iff_ne.mpr c3
  have c3b2 : (l0.length == l1.length) = false := by first | simpa using c3 | (simp at c3 ⊢; omega)
  obtain rfl := Option.some.inj H
  go_enter Try.func27, Try.ntmps27
  go_wp2
  repeat (go_quiet (fail); try go_wp2)
  go_ret
  exact ⟨by first | rfl | (simp; done) | (simp [*]; done), by repeat (first | exact Drawn0.refl _ | apply Drawn0.step)⟩

 rw [if_pos c3] at H
 have c3b0 : ((l0.length : Int) == (l1.length : Int)) = true := beq_iff_eq.mpr c3
 have c3b1 : ((l0.length : Int) != (l1.length : Int)) = false := bne_eq_false_iff_eq.mpr c3
 have c3b2 : (l0.length == l1.length) = true := by first | simpa using c3 | (simp at c3 ⊢; omega)
 clear c3
 have H' := Aside0.mk H
 clear H
 go_enter Try.func27, Try.ntmps27
 go_wp2
 repeat (go_quiet (fail); try go_wp2)
 go_loopg [13] k (fun kq v13 w' => ∃ (x13_1 : Int), v13 = .int .i64 x13_1 ∧ Aside0 (slices_Equal_int32_int32.l0 kq l0 l1 (l0.length : Int) x13_1 = some r) ∧ Aside0 (kq ≤ k) ∧ Drawn0 w w')
 case atStart => exact ⟨(0), (by first | rfl | (simp; done) | (simp [*]; done)), H', ⟨Nat.le_refl _⟩, by repeat (first | exact Drawn0.refl _ | apply Drawn0.step)⟩
 case round =>
  clear H'
  try clear c1
  try clear c2
  try clear p2
  try clear c3
  try clear c3b0
  try clear c3b1
  try clear c3b2
  obtain ⟨x13_1, rfl, HA, HK1, ⟨m1, rfl⟩⟩ := hrel
  cases gk with
  | zero => exact absurd HA.out (by simp [slices_Equal_int32_int32.l0])
  | succ k1 =>
   have H := HA.out
   clear HA
   simp only [slices_Equal_int32_int32.l0] at H
   by_cases c4 : x13_1 < (l0.length : Int)
   rotate_left
   ·
    rw [if_neg c4] at H
    have c4b0 : decide (x13_1 < (l0.length : Int)) = false := decide_eq_false c4
    clear c4
    obtain rfl := Option.some.inj H
    go_wp2
    repeat (go_quiet (fail); try go_wp2)
    go_ret
    exact ⟨by first | rfl | (simp; done) | (simp [*]; done), by repeat (first | exact Drawn0.refl _ | apply Drawn0.step)⟩
   rw [if_pos c4] at H
   have c4b0 : decide (x13_1 < (l0.length : Int)) = true := decide_eq_true c4
   clear c4
   by_cases c5 : 0 ≤ x13_1
   rotate_left
   ·
    rw [if_neg c5] at H
    exact absurd H (by simp)
   rw [if_pos c5] at H
   have c5b0 : decide (0 ≤ x13_1) = true := decide_eq_true c5
   clear c5
   by_cases c6 : x13_1 < (l0.length : Int)
   rotate_left
   ·
    rw [if_neg c6] at H
    exact absurd H (by simp)
   rw [if_pos c6] at H
   have c6b0 : decide (x13_1 < (l0.length : Int)) = true := decide_eq_true c6
   clear c6
   by_cases c7 : x13_1 < (l1.length : Int)
   rotate_left
   ·
    rw [if_neg c7] at H
    exact absurd H (by simp)
   rw [if_pos c7] at H
   have c7b0 : decide (x13_1 < (l1.length : Int)) = true := decide_eq_true c7
   clear c7
   by_cases c8 : (rd l0 x13_1) = (rd l1 x13_1)
   rotate_left
   ·
    rw [if_neg c8] at H
    have c8b0 : ((rd l0 x13_1) == (rd l1 x13_1)) = false := beq_eq_false_iff_ne.mpr c8
    have c8b1 : ((rd l0 x13_1) != (rd l1 x13_1)) = true := bne_iff_ne.mpr c8
    obtain rfl := Option.some.inj H
    have p168 : 0 ≤ (x13_1 : Int) := of_decide_eq_true (by first | (with_reducible assumption) | assumption)
    have q168 : x13_1 < (l0.length : Int) := of_decide_eq_true (by first | (with_reducible assumption) | assumption)
    obtain ⟨ad168, e168, hx168_0⟩ := Kd.at_int HR0.out x13_1 p168 q168
    cases e168
    replace p168 := eq_true p168
    replace q168 := eq_true q168
    have p169 : 0 ≤ (x13_1 : Int) := of_decide_eq_true (by first | (with_reducible assumption) | assumption)
    have q169 : x13_1 < (l1.length : Int) := of_decide_eq_true (by first | (with_reducible assumption) | assumption)
    obtain ⟨ad169, e169, hx169_0⟩ := Kd.at_int HR1.out x13_1 p169 q169
    cases e169
    replace p169 := eq_true p169
    replace q169 := eq_true q169
    go_wp2
    repeat (go_quiet (fail); try go_wp2)
    go_ret
    exact ⟨by first | rfl | (simp; done) | (simp [*]; done), by repeat (first | exact Drawn0.refl _ | apply Drawn0.step)⟩
   rw [if_pos c8] at H
   have c8b0 : ((rd l0 x13_1) == (rd l1 x13_1)) = true := beq_iff_eq.mpr c8
   have c8b1 : ((rd l0 x13_1) != (rd l1 x13_1)) = false := bne_eq_false_iff_eq.mpr c8
   clear c8
   have H' := Aside0.mk H
   clear H
   have p168 : 0 ≤ (x13_1 : Int) := of_decide_eq_true (by first | (with_reducible assumption) | assumption)
   have q168 : x13_1 < (l0.length : Int) := of_decide_eq_true (by first | (with_reducible assumption) | assumption)
   obtain ⟨ad168, e168, hx168_0⟩ := Kd.at_int HR0.out x13_1 p168 q168
   cases e168
   replace p168 := eq_true p168
   replace q168 := eq_true q168
   have p169 : 0 ≤ (x13_1 : Int) := of_decide_eq_true (by first | (with_reducible assumption) | assumption)
   have q169 : x13_1 < (l1.length : Int) := of_decide_eq_true (by first | (with_reducible assumption) | assumption)
   obtain ⟨ad169, e169, hx169_0⟩ := Kd.at_int HR1.out x13_1 p169 q169
   cases e169
   replace p169 := eq_true p169
   replace q169 := eq_true q169
   go_wp2
   repeat (go_quiet (fail); try go_wp2)
   go_roundg k1
   case measure => have := HK1.out; omega
   case rel => exact ⟨(wrap64 (x13_1 + 1)), (by first | rfl | (simp; done) | (simp [*]; done)), H', ⟨by have := HK1.out; omega⟩, by repeat (first | exact Drawn0.refl _ | apply Drawn0.step)⟩
/-! ### msg_Same: function 14, by hand -/
def msg_Same.nums (N M : Int → Int) : Nat → Int → Bool
  | 0, _ => true
  | m + 1, i => if N i = M i then msg_Same.nums N M m (i + 1) else false
def msg_Same.f (k : Nat) (a0_0 a0_1 a0_2 a0_3 a0_4 a0_5 a0_6 a0_7 : Int) (l0_8 : List Int) (a1_0 a1_1 a1_2 a1_3 a1_4 a1_5 a1_6 a1_7 : Int) (l1_8 : List Int) : Option Bool :=
  if msg_Same.nums (msg_num a0_1 a0_2 a0_3 a0_4 a0_5 a0_6 a0_7) (msg_num a1_1 a1_2 a1_3 a1_4 a1_5 a1_6 a1_7) 7 0 = true then (if a0_0 = a1_0 then slices_Equal_int32_int32.f k l0_8 l1_8 else some false) else some false
theorem msg_Same.mono : ∀ a0_0 a0_1 a0_2 a0_3 a0_4 a0_5 a0_6 a0_7 l0_8 a1_0 a1_1 a1_2 a1_3 a1_4 a1_5 a1_6 a1_7 l1_8 k, LeO (msg_Same.f k a0_0 a0_1 a0_2 a0_3 a0_4 a0_5 a0_6 a0_7 l0_8 a1_0 a1_1 a1_2 a1_3 a1_4 a1_5 a1_6 a1_7 l1_8) (msg_Same.f (k + 1) a0_0 a0_1 a0_2 a0_3 a0_4 a0_5 a0_6 a0_7 l0_8 a1_0 a1_1 a1_2 a1_3 a1_4 a1_5 a1_6 a1_7 l1_8) := by
  intro a0_0 a0_1 a0_2 a0_3 a0_4 a0_5 a0_6 a0_7 l0_8 a1_0 a1_1 a1_2 a1_3 a1_4 a1_5 a1_6 a1_7 l1_8 k
  unfold msg_Same.f
  exact LeO.ite (LeO.ite (slices_Equal_int32_int32.mono _ _ _) (LeO.refl _)) (LeO.refl _)
def msg_Same.St (w W : World) (g2 g3 g5 g6 : Nat) (sa sb : Array Value) : Prop :=
  Below w.heap.size w W ∧ W.heap[g2]? = some (.cells sa 24 (0, 0)) ∧ W.heap[g3]? = some (.cells sb 24 (0, 0)) ∧ W.heap[g5]? = some (.cells #[.pointer (some ⟨g2, 1, none⟩), .pointer (some ⟨g2, 2, none⟩), .pointer (some ⟨g2, 3, none⟩), .pointer (some ⟨g2, 4, none⟩), .pointer (some ⟨g2, 5, none⟩), .pointer (some ⟨g2, 6, none⟩), .pointer (some ⟨g2, 7, none⟩)] 50 (0, 0)) ∧ W.heap[g6]? = some (.cells #[.pointer (some ⟨g3, 1, none⟩), .pointer (some ⟨g3, 2, none⟩), .pointer (some ⟨g3, 3, none⟩), .pointer (some ⟨g3, 4, none⟩), .pointer (some ⟨g3, 5, none⟩), .pointer (some ⟨g3, 6, none⟩), .pointer (some ⟨g3, 7, none⟩)] 50 (0, 0))
theorem msg_Same.St.below {w W W' : World} {g2 g3 g5 g6 : Nat} {sa sb : Array Value} (H : msg_Same.St w W g2 g3 g5 g6 sa sb) (hb : Below W.heap.size W W') : msg_Same.St w W' g2 g3 g5 g6 sa sb :=
  ⟨below_step H.1 hb, blk_below H.2.1 hb, blk_below H.2.2.1 hb, blk_below H.2.2.2.1 hb, blk_below H.2.2.2.2 hb⟩
theorem msg_Same.ptr {w : World} {g h t : Nat} (hb : w.heap[g]? = some (.cells #[.pointer (some ⟨h, 1, none⟩), .pointer (some ⟨h, 2, none⟩), .pointer (some ⟨h, 3, none⟩), .pointer (some ⟨h, 4, none⟩), .pointer (some ⟨h, 5, none⟩), .pointer (some ⟨h, 6, none⟩), .pointer (some ⟨h, 7, none⟩)] t (0, 0))) (i : Int) (h0 : 0 ≤ i) (h1 : i < 7) : w.cell? ⟨g, i.toNat, none⟩ = some (.pointer (some ⟨h, (i + 1).toNat, none⟩)) := by
  have hi : i = 0 ∨ i = 1 ∨ i = 2 ∨ i = 3 ∨ i = 4 ∨ i = 5 ∨ i = 6 := by omega
  rcases hi with rfl | rfl | rfl | rfl | rfl | rfl | rfl
  · exact (blk_cell hb 0).trans rfl
  · exact (blk_cell hb 1).trans rfl
  · exact (blk_cell hb 2).trans rfl
  · exact (blk_cell hb 3).trans rfl
  · exact (blk_cell hb 4).trans rfl
  · exact (blk_cell hb 5).trans rfl
  · exact (blk_cell hb 6).trans rfl
set_option maxHeartbeats 8000000 in
set_option maxRecDepth 100000 in
theorem msg_Same.calls (k : Nat) (a0_0 a0_1 a0_2 a0_3 a0_4 a0_5 a0_6 a0_7 : Int) (A0_8 : Option Addr) (c0_8 : Nat) (l0_8 : List Int) (a1_0 a1_1 a1_2 a1_3 a1_4 a1_5 a1_6 a1_7 : Int) (A1_8 : Option Addr) (c1_8 : Nat) (l1_8 : List Int) (r : Bool) (w : World) (hr0_8 : Kd.C (Kd.int .i32) w A0_8 l0_8.length l0_8) (hc0_8 : l0_8.length ≤ c0_8) (hr1_8 : Kd.C (Kd.int .i32) w A1_8 l1_8.length l1_8) (hc1_8 : l1_8.length ≤ c1_8) (h : msg_Same.f k a0_0 a0_1 a0_2 a0_3 a0_4 a0_5 a0_6 a0_7 l0_8 a1_0 a1_1 a1_2 a1_3 a1_4 a1_5 a1_6 a1_7 l1_8 = some r) :
    Calls Try.prog 14 #[.agg #[.int .i64 a0_0, .int .i64 a0_1, .int .i64 a0_2, .int .i64 a0_3, .int .i64 a0_4, .int .i64 a0_5, .int .i64 a0_6, .int .i64 a0_7, .slice A0_8 l0_8.length c0_8], .agg #[.int .i64 a1_0, .int .i64 a1_1, .int .i64 a1_2, .int .i64 a1_3, .int .i64 a1_4, .int .i64 a1_5, .int .i64 a1_6, .int .i64 a1_7, .slice A1_8 l1_8.length c1_8]] w fun e w' => e = .returned (.bool r) ∧ Below w.heap.size w w' := by
  have hu24 := Try.underlying24
  have hu50 := Try.underlying50
  have HRA := Aside0.mk hr0_8
  have HCA := Aside0.mk hc0_8
  have HRB := Aside0.mk hr1_8
  have HCB := Aside0.mk hc1_8
  clear hr0_8 hc0_8 hr1_8 hc1_8
  unfold msg_Same.f at h
  have HH := Aside0.mk h
  clear h
  go_enter Try.func14, Try.ntmps14
  go_upto_region 1 with (first | ((with_reducible refine gate_dst (N := 2) rfl ?_); refine box_event ?hg (N := 2) ?hd (cs := #[.int .i64 a0_0, .int .i64 a0_1, .int .i64 a0_2, .int .i64 a0_3, .int .i64 a0_4, .int .i64 a0_5, .int .i64 a0_6, .int .i64 a0_7, .slice A0_8 l0_8.length c0_8]) (t := 24) ?hr ?_; (case hd => rfl); (case hg => rfl); (case hr => first | (go_simp; done) | (go_simp; rfl)); intro g2 hg_ wb2 hbox hbb; have HB := Aside0.mk hbb; have K2 := Aside0.mk hbox; clear hg_ hbox hbb) | ((with_reducible refine gate_dst (N := 3) rfl ?_); refine box_event ?hg (N := 3) ?hd (cs := #[.int .i64 a1_0, .int .i64 a1_1, .int .i64 a1_2, .int .i64 a1_3, .int .i64 a1_4, .int .i64 a1_5, .int .i64 a1_6, .int .i64 a1_7, .slice A1_8 l1_8.length c1_8]) (t := 24) ?hr ?_; (case hd => rfl); (case hg => rfl); (case hr => first | (go_simp; done) | (go_simp; rfl)); intro g3 hg_ wb3 hbox hbb; replace K2 := Aside0.mk (blk_below K2.out hbb); replace HB := Aside0.mk (below_step HB.out hbb); have K3 := Aside0.mk hbox; clear hg_ hbox hbb))
  go_upto_region 2 with (first | (go_at_call 24; (with_reducible refine (msg_nums.good g2 _).mono ?_); rintro e wn ⟨rfl, hb⟩; replace HB := Aside0.mk (below_step HB.out hb); replace K2 := Aside0.mk (blk_below K2.out hb); replace K3 := Aside0.mk (blk_below K3.out hb); clear hb) | (go_at_call 24; (with_reducible refine (msg_nums.good g3 _).mono ?_); rintro e wn ⟨rfl, hb⟩; replace HB := Aside0.mk (below_step HB.out hb); replace K2 := Aside0.mk (blk_below K2.out hb); replace K3 := Aside0.mk (blk_below K3.out hb); clear hb) | ((with_reducible refine gate_dst (N := 5) rfl ?_); refine box_event ?hg (N := 5) ?hd (cs := #[.pointer none, .pointer none, .pointer none, .pointer none, .pointer none, .pointer none, .pointer none]) (t := 50) ?hr ?_; (case hd => rfl); (case hg => rfl); (case hr => first | (go_simp; done) | (go_simp; rfl)); intro g5 hg_ wb5 hbox hbb; have G5 := Aside0.mk (show w.heap.size ≤ g5 ∧ g2 ≠ g5 ∧ g3 ≠ g5 from ⟨by rw [hg_]; exact below_size HB.out, by have := blk_lt K2.out; omega, by have := blk_lt K3.out; omega⟩); replace K2 := Aside0.mk (blk_below K2.out hbb); replace K3 := Aside0.mk (blk_below K3.out hbb); replace HB := Aside0.mk (below_step HB.out hbb); have K5 := Aside0.mk hbox; clear hg_ hbox hbb) | ((with_reducible refine gate_dst (N := 6) rfl ?_); refine box_event ?hg (N := 6) ?hd (cs := #[.pointer none, .pointer none, .pointer none, .pointer none, .pointer none, .pointer none, .pointer none]) (t := 50) ?hr ?_; (case hd => rfl); (case hg => rfl); (case hr => first | (go_simp; done) | (go_simp; rfl)); intro g6 hg_ wb6 hbox hbb; have G6 := Aside0.mk (show w.heap.size ≤ g6 ∧ g2 ≠ g6 ∧ g3 ≠ g6 ∧ g5 ≠ g6 from ⟨by rw [hg_]; exact below_size HB.out, by have := blk_lt K2.out; omega, by have := blk_lt K3.out; omega, by have := blk_lt K5.out; omega⟩); replace K2 := Aside0.mk (blk_below K2.out hbb); replace K3 := Aside0.mk (blk_below K3.out hbb); replace K5 := Aside0.mk (blk_below K5.out hbb); replace HB := Aside0.mk (below_step HB.out hbb); have K6 := Aside0.mk hbox; (with_reducible refine gate_store_ rfl ?_); refine stA_ rfl rfl rfl rfl rfl K5.out rfl (by kernel_rfl) (by simp [Value.oneCell']) ?_; intro W' hW1 hW2 hW3 hW4; replace K2 := Aside0.mk ((hW2 _ G5.out.2.1).trans K2.out); replace K3 := Aside0.mk ((hW2 _ G5.out.2.2).trans K3.out); replace K6 := Aside0.mk ((hW2 _ (Ne.symm G6.out.2.2.2)).trans K6.out); replace HB := Aside0.mk (hW4 w G5.out.1 HB.out); replace K5 := Aside0.mk hW1; clear hW1 hW2 hW3 hW4; (with_reducible refine gate_store_ rfl ?_); refine stA_ rfl rfl rfl rfl rfl K6.out rfl (by kernel_rfl) (by simp [Value.oneCell']) ?_; intro W2 hW1 hW2 hW3 hW4; have ST := Aside0.mk (show msg_Same.St w W2 g2 g3 g5 g6 #[.int .i64 a0_0, .int .i64 a0_1, .int .i64 a0_2, .int .i64 a0_3, .int .i64 a0_4, .int .i64 a0_5, .int .i64 a0_6, .int .i64 a0_7, .slice A0_8 l0_8.length c0_8] #[.int .i64 a1_0, .int .i64 a1_1, .int .i64 a1_2, .int .i64 a1_3, .int .i64 a1_4, .int .i64 a1_5, .int .i64 a1_6, .int .i64 a1_7, .slice A1_8 l1_8.length c1_8] from ⟨hW4 w G6.out.1 HB.out, (hW2 _ G6.out.2.1).trans K2.out, (hW2 _ G6.out.2.2.1).trans K3.out, (hW2 _ G6.out.2.2.2).trans K5.out, hW1⟩); clear hW1 hW2 hW3 hW4 HB K2 K3 K5 K6; clear hg_ hbox hbb))
  go_wp2
  go_loopg [10] 7 (fun m v10 W => ∃ i : Int, v10 = .int .i64 i ∧ 0 ≤ i ∧ Aside0 (i + m = 7) ∧ Aside0 ((if msg_Same.nums (msg_num a0_1 a0_2 a0_3 a0_4 a0_5 a0_6 a0_7) (msg_num a1_1 a1_2 a1_3 a1_4 a1_5 a1_6 a1_7) m i = true then (if a0_0 = a1_0 then slices_Equal_int32_int32.f k l0_8 l1_8 else some false) else some false) = some r) ∧ Aside0 (msg_Same.St w W g2 g3 g5 g6 #[.int .i64 a0_0, .int .i64 a0_1, .int .i64 a0_2, .int .i64 a0_3, .int .i64 a0_4, .int .i64 a0_5, .int .i64 a0_6, .int .i64 a0_7, .slice A0_8 l0_8.length c0_8] #[.int .i64 a1_0, .int .i64 a1_1, .int .i64 a1_2, .int .i64 a1_3, .int .i64 a1_4, .int .i64 a1_5, .int .i64 a1_6, .int .i64 a1_7, .slice A1_8 l1_8.length c1_8]))
  case atStart => exact ⟨0, rfl, by omega, ⟨by omega⟩, HH, ST⟩
  case round =>
    clear HH ST
    obtain ⟨i, rfl, hi0, HI, HH, ST⟩ := hrel
    cases gk with
    | zero =>
      have q : decide (i < 7) = false := decide_eq_false (by have := HI.out; omega)
      have h : (if a0_0 = a1_0 then slices_Equal_int32_int32.f k l0_8 l1_8 else some false) = some r := HH.out
      clear HH
      obtain ⟨x0, x8, xs_⟩ := msg_wrong.cells ST.out.2.1
      obtain ⟨y0, y8, ys_⟩ := msg_wrong.cells ST.out.2.2.1
      clear xs_ ys_
      by_cases c : a0_0 = a1_0
      · rw [if_pos c] at h
        have HE := Aside0.mk h
        clear h
        have p1 : decide (a0_0 = a1_0) = true := decide_eq_true c
        subst c
        go_wp2_with (first | (go_at_call 27; (refine (slices_Equal_int32_int32.calls k _ _ _ _ _ _ _ _ (Kd.C_below HRA.out ST.out.1) HCA.out (Kd.C_below HRB.out ST.out.1) HCB.out HE.out).mono ?_); rintro e we ⟨rfl, hd⟩; replace ST := Aside0.mk (ST.out.below hd.below); clear hd))
        all_goals (go_ret; exact ⟨rfl, ST.out.1⟩)
      · rw [if_neg c] at h
        obtain rfl := Option.some.inj h
        clear h
        have p1 : decide (a0_0 = a1_0) = false := decide_eq_false c
        have p2 : (a0_0 == a1_0) = false := beq_eq_false_iff_ne.2 c
        go_wp2
        go_ret
        exact ⟨rfl, ST.out.1⟩
    | succ m =>
      have q : decide (i < 7) = true := decide_eq_true (by have := HI.out; omega)
      have q0 : decide (0 ≤ i) = true := decide_eq_true hi0
      have HQ := Aside0.mk (of_decide_eq_true q)
      have p8 : (0 ≤ i) = True := eq_true hi0
      have p7 : (i < 7) = True := eq_true HQ.out
      have hw : IntKind.i64.wrap (i + 1) = i + 1 := by rw [i64_w]; have := HI.out; unfold wrap64; omega
      obtain ⟨x, hX⟩ : ∃ x, (msg_num a0_1 a0_2 a0_3 a0_4 a0_5 a0_6 a0_7) i = x := ⟨_, rfl⟩
      obtain ⟨y, hY⟩ : ∃ y, (msg_num a1_1 a1_2 a1_3 a1_4 a1_5 a1_6 a1_7) i = y := ⟨_, rfl⟩
      have h := HH.out
      unfold msg_Same.nums at h
      rw [hX, hY] at h
      have z1 := (msg_wrong.cells ST.out.2.1).2.2 i hi0 HQ.out
      have z2 := (msg_wrong.cells ST.out.2.2.1).2.2 i hi0 HQ.out
      rw [hX] at z1
      rw [hY] at z2
      have z3 := msg_Same.ptr ST.out.2.2.2.1 i hi0 HQ.out
      have z4 := msg_Same.ptr ST.out.2.2.2.2 i hi0 HQ.out
      clear hX hY HH
      by_cases c : x = y
      · rw [if_pos c] at h
        replace HH := Aside0.mk h
        clear h
        have p1 : decide (x = y) = true := decide_eq_true c
        subst c
        go_wp2
        go_quiet (fail)
        go_wp2
        go_roundg m
        case measure => omega
        case rel => exact ⟨i + 1, by first | rfl | rw [hw], by omega, ⟨by have := HI.out; omega⟩, HH, by first | exact ST | exact ⟨ST.out.below (pw_below_drewN (Below.refl _ _) _)⟩ | exact ⟨ST.out.below (b_d (Below.refl _ _))⟩⟩
      · rw [if_neg c, if_neg (by simp)] at h
        obtain rfl := Option.some.inj h
        clear h
        have p1 : decide (x = y) = false := decide_eq_false c
        have p2 : (x == y) = false := beq_eq_false_iff_ne.2 c
        have p3 : (x != y) = true := bne_iff_ne.2 c
        go_wp2
        go_quiet (fail)
        go_wp2
        go_ret
        first | exact ⟨rfl, ST.out.1⟩ | exact ⟨rfl, below_step ST.out.1 (pw_below_drewN (Below.refl _ _) _)⟩ | exact ⟨rfl, below_step ST.out.1 (b_d (Below.refl _ _))⟩
end Go.Proofs.Ytnkphgiodpledaa.QMsgApart
