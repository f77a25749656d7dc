-- Written by a program of this session (a turned copy of the print) out of the translation. Lean checks it.
import Derived.Test.YtggcgacndknlaaaQGridBackx0
import Derived.Test.YtggcgacndknlaaaQGridBackx1
import Derived.Test.YtggcgacndknlaaaQGridBackx2
import Derived.Test.YtggcgacndknlaaaQGridBackx3
import Derived.Test.YtggcgacndknlaaaQGridBackx4
import Derived.Test.YtggcgacndknlaaaQGridBackx5
namespace Go.Proofs.Ytggcgacndknlaaa.QGridBack
open Go.RowKit Go.Proofs.YtggcgacndknlaaaW.PrintWords Go.Proofs.YtggcgacndknlaaaW.PrintLast Go.Proofs.YtggcgacndknlaaaW.PrintMore
attribute [local go_sem] max2_int min2_int max_two min_two max_three min_three max_four min_four   -- for this text's walks alone
open Go.Proofs.YtggcgacndknlaaaW.PrintWords renaming below_alloc → b_a, pw_below_drewN → b_n, below_drew1 → b_d, below_set → b_s, blk_drewN → k_n, blk_drew → k_d, blk_alloc → k_a
open List renaming setIfInBounds_toArray → l_1, set_cons_zero → l_2, set_cons_succ → l_3, map_toArray → l_4, map_cons → l_5, map_nil → l_6, length_drop → l_7, length_take → l_8
set_option linter.unusedVariables false
set_option linter.unusedSimpArgs false

/-! ### pelotonref03_Right: function 15 -/
def pelotonref03_Right.f (a0_0 : Int) (a0_1 : Int) (l0_2 : List Int) : Option (Bool) := if a0_0 ≥ 0 then (if a0_1 ≥ 0 then (if a0_0 ≤ 4096 then (if a0_1 ≤ 4096 then (some ((l0_2.length : Int) == (wrap64 (a0_0 * a0_1)))) else (some false)) else (some false)) else (some false)) else (some false)
set_option maxHeartbeats 60000000 in
set_option maxRecDepth 100000 in
theorem pelotonref03_Right.calls (a0_0 : Int) (a0_1 : Int) (A0_2 : Option Addr) (c0_2 : Nat) (l0_2 : List Int) (r : Bool) (w : World) (hr0_2 : Kd.C (Kd.int .i32) w A0_2 l0_2.length l0_2) (hc0_2 : l0_2.length ≤ c0_2) (h : pelotonref03_Right.f a0_0 a0_1 l0_2 = some r) :
  Calls Try.prog 15 #[.agg #[.int .i64 a0_0, .int .i64 a0_1, .slice A0_2 l0_2.length c0_2]] w fun e w' => e = .returned (.bool r) ∧ Below w.heap.size w w' := by
 have hu24 := Try.underlying24
 have HR0_2 := Aside0.mk hr0_2
 have HC0_2 := Aside0.mk hc0_2
 clear hr0_2 hc0_2
 have HB := Aside0.mk (Below.refl w.heap.size w)
 have H : (if a0_0 ≥ 0 then (if a0_1 ≥ 0 then (if a0_0 ≤ 4096 then (if a0_1 ≤ 4096 then (some ((l0_2.length : Int) == (wrap64 (a0_0 * a0_1)))) else (some false)) else (some false)) else (some false)) else (some false)) = some r := h
 clear h
 by_cases c2 : a0_0 ≥ 0
 rotate_left
 ·
  rw [if_neg c2] at H
  have c2b0 : decide (0 ≤ a0_0) = false := decide_eq_false c2
  clear c2
  obtain rfl := Option.some.inj H
  go_enter Try.func15, Try.ntmps15
  go_wp2_with (first | ((with_reducible refine gate_dst (N := 1) rfl ?_); (try (refine gate_guard (by rfl) ?_; dsimp only)); refine box_event ?hg (N := 1) ?hd (cs := #[.int .i64 a0_0, .int .i64 a0_1, .slice A0_2 l0_2.length c0_2]) (t := 24) ?hr ?_; (case hd => rfl); (case hg => rfl); (case hr => first | (go_simp; done) | (go_simp; rfl)); intro gb188 hg w14 hbox hb; have BK188 := Aside0.mk (hbox); have GW188 := Aside0.mk ((by rw [hg]; exact (below_size (bw_ HB)) : w.heap.size ≤ gb188)); have GE188 := Aside0.mk ((by rw [hg]; exact (below_size (bw_ HB)) : w.heap.size ≤ gb188)); replace HB := Aside0.mk (below_step (bw_ HB) hb); clear hb hbox hg; have hcz15_0 := bc_0 BK188; have hcz15_1 := bc_1 BK188; have hcz15_2 := bc_2 BK188; have hfz15_0 := blk_frozen BK188.out 0; have hfz15_1 := blk_frozen BK188.out 1; have hfz15_2 := blk_frozen BK188.out 2))
  go_ret
  exact ⟨by first | rfl | (simp [errW_none, errW_some] <;> rfl) | (simp [*, errW_none, errW_some] <;> rfl), by repeat (first | (with_reducible first | exact HB.out | apply b_a | apply b_n | apply b_d | refine b_s ?_ GE188.out) | exact HB.out)⟩

 rw [if_pos c2] at H
 have c2b0 : decide (0 ≤ a0_0) = true := decide_eq_true c2
 clear c2
 by_cases c3 : a0_1 ≥ 0
 rotate_left
 ·
  rw [if_neg c3] at H
  have c3b0 : decide (0 ≤ a0_1) = false := decide_eq_false c3
  clear c3
  obtain rfl := Option.some.inj H
  go_enter Try.func15, Try.ntmps15
  go_wp2_with (first | ((with_reducible refine gate_dst (N := 1) rfl ?_); (try (refine gate_guard (by rfl) ?_; dsimp only)); refine box_event ?hg (N := 1) ?hd (cs := #[.int .i64 a0_0, .int .i64 a0_1, .slice A0_2 l0_2.length c0_2]) (t := 24) ?hr ?_; (case hd => rfl); (case hg => rfl); (case hr => first | (go_simp; done) | (go_simp; rfl)); intro gb188 hg w12 hbox hb; have BK188 := Aside0.mk (hbox); have GW188 := Aside0.mk ((by rw [hg]; exact (below_size (bw_ HB)) : w.heap.size ≤ gb188)); have GE188 := Aside0.mk ((by rw [hg]; exact (below_size (bw_ HB)) : w.heap.size ≤ gb188)); replace HB := Aside0.mk (below_step (bw_ HB) hb); clear hb hbox hg; have hcz13_0 := bc_0 BK188; have hcz13_1 := bc_1 BK188; have hcz13_2 := bc_2 BK188; have hfz13_0 := blk_frozen BK188.out 0; have hfz13_1 := blk_frozen BK188.out 1; have hfz13_2 := blk_frozen BK188.out 2))
  go_ret
  exact ⟨by first | rfl | (simp [errW_none, errW_some] <;> rfl) | (simp [*, errW_none, errW_some] <;> rfl), by repeat (first | (with_reducible first | exact HB.out | apply b_a | apply b_n | apply b_d | refine b_s ?_ GE188.out) | exact HB.out)⟩
 rw [if_pos c3] at H
 have c3b0 : decide (0 ≤ a0_1) = true := decide_eq_true c3
 clear c3
 by_cases c4 : a0_0 ≤ 4096
 rotate_left
 ·
  rw [if_neg c4] at H
  have c4b0 : decide (a0_0 ≤ 4096) = false := decide_eq_false c4
  clear c4
  obtain rfl := Option.some.inj H
  go_enter Try.func15, Try.ntmps15
  go_wp2_with (first | ((with_reducible refine gate_dst (N := 1) rfl ?_); (try (refine gate_guard (by rfl) ?_; dsimp only)); refine box_event ?hg (N := 1) ?hd (cs := #[.int .i64 a0_0, .int .i64 a0_1, .slice A0_2 l0_2.length c0_2]) (t := 24) ?hr ?_; (case hd => rfl); (case hg => rfl); (case hr => first | (go_simp; done) | (go_simp; rfl)); intro gb188 hg w10 hbox hb; have BK188 := Aside0.mk (hbox); have GW188 := Aside0.mk ((by rw [hg]; exact (below_size (bw_ HB)) : w.heap.size ≤ gb188)); have GE188 := Aside0.mk ((by rw [hg]; exact (below_size (bw_ HB)) : w.heap.size ≤ gb188)); replace HB := Aside0.mk (below_step (bw_ HB) hb); clear hb hbox hg; have hcz11_0 := bc_0 BK188; have hcz11_1 := bc_1 BK188; have hcz11_2 := bc_2 BK188; have hfz11_0 := blk_frozen BK188.out 0; have hfz11_1 := blk_frozen BK188.out 1; have hfz11_2 := blk_frozen BK188.out 2))
  go_ret
  exact ⟨by first | rfl | (simp [errW_none, errW_some] <;> rfl) | (simp [*, errW_none, errW_some] <;> rfl), by repeat (first | (with_reducible first | exact HB.out | apply b_a | apply b_n | apply b_d | refine b_s ?_ GE188.out) | exact HB.out)⟩
 rw [if_pos c4] at H
 have c4b0 : decide (a0_0 ≤ 4096) = true := decide_eq_true c4
 clear c4
 by_cases c5 : a0_1 ≤ 4096
 ·
  rw [if_pos c5] at H
  have c5b0 : decide (a0_1 ≤ 4096) = true := decide_eq_true c5
  clear c5
  obtain rfl := Option.some.inj H
  go_enter Try.func15, Try.ntmps15
  go_wp2_with (first | ((with_reducible refine gate_dst (N := 1) rfl ?_); (try (refine gate_guard (by rfl) ?_; dsimp only)); refine box_event ?hg (N := 1) ?hd (cs := #[.int .i64 a0_0, .int .i64 a0_1, .slice A0_2 l0_2.length c0_2]) (t := 24) ?hr ?_; (case hd => rfl); (case hg => rfl); (case hr => first | (go_simp; done) | (go_simp; rfl)); intro gb188 hg w6 hbox hb; have BK188 := Aside0.mk (hbox); have GW188 := Aside0.mk ((by rw [hg]; exact (below_size (bw_ HB)) : w.heap.size ≤ gb188)); have GE188 := Aside0.mk ((by rw [hg]; exact (below_size (bw_ HB)) : w.heap.size ≤ gb188)); replace HB := Aside0.mk (below_step (bw_ HB) hb); clear hb hbox hg; have hcz7_0 := bc_0 BK188; have hcz7_1 := bc_1 BK188; have hcz7_2 := bc_2 BK188; have hfz7_0 := blk_frozen BK188.out 0; have hfz7_1 := blk_frozen BK188.out 1; have hfz7_2 := blk_frozen BK188.out 2))
  go_ret
  exact ⟨by first | rfl | (simp [errW_none, errW_some] <;> rfl) | (simp [*, errW_none, errW_some] <;> rfl), by repeat (first | (with_reducible first | exact HB.out | apply b_a | apply b_n | apply b_d | refine b_s ?_ GE188.out) | exact HB.out)⟩
 rw [if_neg c5] at H
 have c5b0 : decide (a0_1 ≤ 4096) = false := decide_eq_false c5
 clear c5
 obtain rfl := Option.some.inj H
 go_enter Try.func15, Try.ntmps15
 go_wp2_with (first | ((with_reducible refine gate_dst (N := 1) rfl ?_); (try (refine gate_guard (by rfl) ?_; dsimp only)); refine box_event ?hg (N := 1) ?hd (cs := #[.int .i64 a0_0, .int .i64 a0_1, .slice A0_2 l0_2.length c0_2]) (t := 24) ?hr ?_; (case hd => rfl); (case hg => rfl); (case hr => first | (go_simp; done) | (go_simp; rfl)); intro gb188 hg w8 hbox hb; have BK188 := Aside0.mk (hbox); have GW188 := Aside0.mk ((by rw [hg]; exact (below_size (bw_ HB)) : w.heap.size ≤ gb188)); have GE188 := Aside0.mk ((by rw [hg]; exact (below_size (bw_ HB)) : w.heap.size ≤ gb188)); replace HB := Aside0.mk (below_step (bw_ HB) hb); clear hb hbox hg; have hcz9_0 := bc_0 BK188; have hcz9_1 := bc_1 BK188; have hcz9_2 := bc_2 BK188; have hfz9_0 := blk_frozen BK188.out 0; have hfz9_1 := blk_frozen BK188.out 1; have hfz9_2 := blk_frozen BK188.out 2))
 go_ret
 exact ⟨by first | rfl | (simp [errW_none, errW_some] <;> rfl) | (simp [*, errW_none, errW_some] <;> rfl), by repeat (first | (with_reducible first | exact HB.out | apply b_a | apply b_n | apply b_d | refine b_s ?_ GE188.out) | exact HB.out)⟩
/-! ### pelotonref03_Fit: function 32 -/
def pelotonref03_Fit.f (a0_0 : Int) (a0_1 : Int) (l0_2 : List Int) : Option (Bool) := (pelotonref03_Right.f a0_0 a0_1 l0_2).bind fun t190 => (if t190 = true then (some (decide ((l0_2.length : Int) ≤ 1048576))) else (some false))
set_option maxHeartbeats 60000000 in
set_option maxRecDepth 100000 in
theorem pelotonref03_Fit.calls (a0_0 : Int) (a0_1 : Int) (A0_2 : Option Addr) (c0_2 : Nat) (l0_2 : List Int) (r : Bool) (w : World) (hr0_2 : Kd.C (Kd.int .i32) w A0_2 l0_2.length l0_2) (hc0_2 : l0_2.length ≤ c0_2) (h : pelotonref03_Fit.f a0_0 a0_1 l0_2 = some r) :
  Calls Try.prog 32 #[.agg #[.int .i64 a0_0, .int .i64 a0_1, .slice A0_2 l0_2.length c0_2]] w fun e w' => e = .returned (.bool r) ∧ Below w.heap.size w w' := by
 have hu24 := Try.underlying24
 have HR0_2 := Aside0.mk hr0_2
 have HC0_2 := Aside0.mk hc0_2
 clear hr0_2 hc0_2
 have HB := Aside0.mk (Below.refl w.heap.size w)
 have H : ((pelotonref03_Right.f a0_0 a0_1 l0_2).bind fun t190 => (if t190 = true then (some (decide ((l0_2.length : Int) ≤ 1048576))) else (some false))) = some r := h
 clear h
 replace H := Option.bind_eq_some_iff.mp H
 obtain ⟨t190, A20, H⟩ := H
 replace H : (if t190 = true then (some (decide ((l0_2.length : Int) ≤ 1048576))) else (some false)) = some r := H
 have A2 := Aside0.mk A20
 clear A20
 by_cases c3 : t190 = true
 rotate_left
 ·
  replace c3 := Bool.eq_false_iff.mpr c3
  subst c3
  have H1 : (some false) = some r := by rw [if_neg (show ¬ (false = true) by decide)] at H; exact H
  clear H
  have H := H1
  clear H1
  obtain rfl := Option.some.inj H
  go_enter Try.func32, Try.ntmps32
  go_wp2_with (first | ((with_reducible refine gate_dst (N := 1) rfl ?_); (try (refine gate_guard (by rfl) ?_; dsimp only)); refine box_event ?hg (N := 1) ?hd (cs := #[.int .i64 a0_0, .int .i64 a0_1, .slice A0_2 l0_2.length c0_2]) (t := 24) ?hr ?_; (case hd => rfl); (case hg => rfl); (case hr => first | (go_simp; done) | (go_simp; rfl)); intro gb189 hg w8 hbox hb; have BK189 := Aside0.mk (hbox); have GW189 := Aside0.mk ((by rw [hg]; exact (below_size (bw_ HB)) : w.heap.size ≤ gb189)); have GE189 := Aside0.mk ((by rw [hg]; exact (below_size (bw_ HB)) : w.heap.size ≤ gb189)); replace HB := Aside0.mk (below_step (bw_ HB) hb); clear hb hbox hg; have hcz9_0 := bc_0 BK189; have hcz9_1 := bc_1 BK189; have hcz9_2 := bc_2 BK189; have hfz9_0 := blk_frozen BK189.out 0; have hfz9_1 := blk_frozen BK189.out 1; have hfz9_2 := blk_frozen BK189.out 2) | ((with_reducible refine gate_callee (f := 15) rfl ?_); refine goesL_ (some 4) rfl rfl Try.func15 (by kernel_rfl) rfl #[.agg #[.int .i64 a0_0, .int .i64 a0_1, .slice A0_2 l0_2.length c0_2]] rfl (by (try simp only [l_4, l_5, l_6]); first | done | rfl | (simp only [l_7, l_8]; rfl)) ?_; (with_reducible refine (pelotonref03_Right.calls a0_0 a0_1 _ _ l0_2 false _ ?side1 ?side2 A2.out).mono ?_); (case side1 => repeat (first | exact (Kd.C_below HR0_2.out HB.out) | (with_reducible refine Kd.C_alloc ?_ _) | (with_reducible refine Kd.C_drewN ?_ _) | (with_reducible refine Kd.C_drew ?_))); (case side2 => exact HC0_2.out); rintro e w10 ⟨rfl, hb⟩; (try clear A2); refine ⟨_, rfl, ?_⟩; replace BK189 := Aside0.mk (blk_below (tk_ BK189) hb); replace HB := Aside0.mk (below_step (bw_ HB) hb); (try clear hb); (try clear hb2); (try clear hk); (try clear hi)))
  go_ret
  exact ⟨by first | rfl | (simp [errW_none, errW_some] <;> rfl) | (simp [*, errW_none, errW_some] <;> rfl), by repeat (first | (with_reducible first | exact HB.out | apply b_a | apply b_n | apply b_d | refine b_s ?_ GE189.out) | exact HB.out)⟩

 subst c3
 have H1 : (some (decide ((l0_2.length : Int) ≤ 1048576))) = some r := by rw [if_pos rfl] at H; exact H
 clear H
 have H := H1
 clear H1
 obtain rfl := Option.some.inj H
 go_enter Try.func32, Try.ntmps32
 go_wp2_with (first | ((with_reducible refine gate_dst (N := 1) rfl ?_); (try (refine gate_guard (by rfl) ?_; dsimp only)); refine box_event ?hg (N := 1) ?hd (cs := #[.int .i64 a0_0, .int .i64 a0_1, .slice A0_2 l0_2.length c0_2]) (t := 24) ?hr ?_; (case hd => rfl); (case hg => rfl); (case hr => first | (go_simp; done) | (go_simp; rfl)); intro gb189 hg w4 hbox hb; have BK189 := Aside0.mk (hbox); have GW189 := Aside0.mk ((by rw [hg]; exact (below_size (bw_ HB)) : w.heap.size ≤ gb189)); have GE189 := Aside0.mk ((by rw [hg]; exact (below_size (bw_ HB)) : w.heap.size ≤ gb189)); replace HB := Aside0.mk (below_step (bw_ HB) hb); clear hb hbox hg; have hcz5_0 := bc_0 BK189; have hcz5_1 := bc_1 BK189; have hcz5_2 := bc_2 BK189; have hfz5_0 := blk_frozen BK189.out 0; have hfz5_1 := blk_frozen BK189.out 1; have hfz5_2 := blk_frozen BK189.out 2) | ((with_reducible refine gate_callee (f := 15) rfl ?_); refine goesL_ (some 4) rfl rfl Try.func15 (by kernel_rfl) rfl #[.agg #[.int .i64 a0_0, .int .i64 a0_1, .slice A0_2 l0_2.length c0_2]] rfl (by (try simp only [l_4, l_5, l_6]); first | done | rfl | (simp only [l_7, l_8]; rfl)) ?_; (with_reducible refine (pelotonref03_Right.calls a0_0 a0_1 _ _ l0_2 true _ ?side1 ?side2 A2.out).mono ?_); (case side1 => repeat (first | exact (Kd.C_below HR0_2.out HB.out) | (with_reducible refine Kd.C_alloc ?_ _) | (with_reducible refine Kd.C_drewN ?_ _) | (with_reducible refine Kd.C_drew ?_))); (case side2 => exact HC0_2.out); rintro e w6 ⟨rfl, hb⟩; (try clear A2); refine ⟨_, rfl, ?_⟩; replace BK189 := Aside0.mk (blk_below (tk_ BK189) hb); replace HB := Aside0.mk (below_step (bw_ HB) hb); (try clear hb); (try clear hb2); (try clear hk); (try clear hi); have hcz7_0 := bc_0 BK189; have hcz7_1 := bc_1 BK189; have hcz7_2 := bc_2 BK189; have hfz7_0 := blk_frozen BK189.out 0; have hfz7_1 := blk_frozen BK189.out 1; have hfz7_2 := blk_frozen BK189.out 2))
 go_ret
 exact ⟨by first | rfl | (simp [errW_none, errW_some] <;> rfl) | (simp [*, errW_none, errW_some] <;> rfl), by repeat (first | (with_reducible first | exact HB.out | apply b_a | apply b_n | apply b_d | refine b_s ?_ GE189.out) | exact HB.out)⟩
/-! ### pelotonlaw03_GridBack: function 8, by hand -/
/-! the grids of a law that runs straight on: each in its block, none written again -/
def St (w W : World) (L : List (Nat × S24)) : Prop :=
  Below w.heap.size w W ∧ ∀ p ∈ L, ∃ (A : Option Addr) (c : Nat), W.heap[p.1]? = some (.cells #[.int .i64 p.2.f0, .int .i64 p.2.f1, .slice A p.2.f2.length c] 24 (0, 0)) ∧ p.2.f2.length ≤ c ∧ Kd.C (Kd.int .i32) W A p.2.f2.length p.2.f2
theorem St.none (w : World) : St w w [] := ⟨Below.refl _ _, fun _ h => by cases h⟩
theorem St.below {w W W' : World} {L : List (Nat × S24)} (h : St w W L) (hb : Below W.heap.size W W') : St w W' L :=
  ⟨below_step h.1 hb, fun p hp => by
    obtain ⟨A, c, h1, h2, h3⟩ := h.2 p hp
    exact ⟨A, c, blk_below h1 hb, h2, Kd.C_below h3 hb⟩⟩
theorem St.get {w W : World} {L : List (Nat × S24)} {g : Nat} {a b : Int} {l : List Int} (h : St w W L) (m : (g, (⟨a, b, l⟩ : S24)) ∈ L) :
    ∃ (A : Option Addr) (c : Nat), W.heap[g]? = some (.cells #[.int .i64 a, .int .i64 b, .slice A l.length c] 24 (0, 0)) ∧ l.length ≤ c ∧ Kd.C (Kd.int .i32) W A l.length l := h.2 _ m
/-- a grid in a new block -/
theorem St.box {w W W' : World} {L : List (Nat × S24)} {g : Nat} {a b : Int} {l : List Int} {A : Option Addr} {c : Nat} (h : St w W L) (hb : Below W.heap.size W W') (hbox : W'.heap[g]? = some (.cells #[.int .i64 a, .int .i64 b, .slice A l.length c] 24 (0, 0))) (hc : l.length ≤ c) (hC : Kd.C (Kd.int .i32) W A l.length l) : St w W' ((g, ⟨a, b, l⟩) :: L) :=
  ⟨below_step h.1 hb, fun p hp => by
    rcases List.mem_cons.1 hp with rfl | hp
    · exact ⟨A, c, hbox, hc, Kd.C_below hC hb⟩
    · exact (h.below hb).2 p hp⟩
def pelotonlaw03_GridBack.f (k : Nat) (a0_0 a0_1 : Int) (l0_2 : List Int) (a1 : Int) : Option Bool :=
  (pelotonlaw03_small.f k [(⟨a0_0, a0_1, l0_2⟩ : S24)]).bind fun t => if t = true then (pelotonref03_Fit.f a0_0 a0_1 l0_2).bind fun u => if u = true then (if 0 ≤ a0_0 ∧ a0_0 ≤ 4096 ∧ 0 ≤ a0_1 ∧ a0_1 ≤ 4096 then
  (grid_Rows.f k a0_0 a0_1 l0_2 0 (Int.tmod (wrap64 (wrap64 (Int.tmod a1 (wrap64 (a0_0 + 1)) + a0_0) + 1)) (wrap64 (a0_0 + 1)))).bind fun ra => (grid_Rows.f k a0_0 a0_1 l0_2 (Int.tmod (wrap64 (wrap64 (Int.tmod a1 (wrap64 (a0_0 + 1)) + a0_0) + 1)) (wrap64 (a0_0 + 1))) a0_0).bind fun rb => (grid_Stack.f k [(⟨ra.1, ra.2.1, ra.2.2.1⟩ : S24), ⟨rb.1, rb.2.1, rb.2.2.1⟩]).bind fun x =>
  (grid_Cols.f k a0_0 a0_1 l0_2 0 (Int.tmod (wrap64 (wrap64 (Int.tmod a1 (wrap64 (a0_1 + 1)) + a0_1) + 1)) (wrap64 (a0_1 + 1)))).bind fun pa => (grid_Cols.f k a0_0 a0_1 l0_2 (Int.tmod (wrap64 (wrap64 (Int.tmod a1 (wrap64 (a0_1 + 1)) + a0_1) + 1)) (wrap64 (a0_1 + 1))) a0_1).bind fun pb => (grid_Beside.f k [(⟨pa.1, pa.2.1, pa.2.2.1⟩ : S24), ⟨pb.1, pb.2.1, pb.2.2.1⟩]).bind fun y =>
  (grid_Turn.f k a0_0 a0_1 l0_2).bind fun tu => (grid_Turn.f k tu.1 tu.2.1 tu.2.2.1).bind fun z =>
  (pelotonlaw03_held.f k x.1 x.2.1 x.2.2.1 x.2.2.2 a0_0 a0_1 l0_2 true).bind fun t1 => if t1 = true then (pelotonlaw03_held.f k y.1 y.2.1 y.2.2.1 y.2.2.2 a0_0 a0_1 l0_2 true).bind fun t2 => if t2 = true then (pelotonlaw03_held.f k z.1 z.2.1 z.2.2.1 z.2.2.2 a0_0 a0_1 l0_2 true).bind fun t3 => some t3 else none else none
  else none) else some true else some true
set_option maxHeartbeats 8000000 in
set_option maxRecDepth 100000 in
theorem pelotonlaw03_GridBack.calls (k : Nat) (a0_0 : Int) (a0_1 : Int) (A0_2 : Option Addr) (c0_2 : Nat) (l0_2 : List Int) (a1 : Int) (r : Bool) (w : World) (hr0_2 : Kd.C (Kd.int .i32) w A0_2 l0_2.length l0_2) (hc0_2 : l0_2.length ≤ c0_2) (h : pelotonlaw03_GridBack.f k a0_0 a0_1 l0_2 a1 = some r) :
    Calls Try.prog 8 #[.agg #[.int .i64 a0_0, .int .i64 a0_1, .slice A0_2 l0_2.length c0_2], .int .i64 a1] w fun e w' => e = .returned (.bool r) ∧ Below w.heap.size w w' := by
  have hu24 := Try.underlying24
  have HR0 := Aside0.mk hr0_2
  have HC0 := Aside0.mk hc0_2
  clear hr0_2 hc0_2
  unfold pelotonlaw03_GridBack.f at h
  have HH := Aside0.mk h
  clear h
  have S := Aside0.mk (St.none w)
  go_enter Try.func8, Try.ntmps8
  go_upto_region 1 with (first | ((with_reducible refine gate_dst (N := 2) rfl ?_); refine box_event ?hg (N := 2) ?hd (cs := #[.int .i64 a0_0, .int .i64 a0_1, .slice A0_2 l0_2.length c0_2]) (t := 24) ?hr ?_; (case hd => rfl); (case hg => rfl); (case hr => first | (go_simp; done) | (go_simp; rfl)); intro g_g hg_ wb_ hbox_ hb_; replace S := Aside0.mk (S.out.box hb_ hbox_ HC0.out (Kd.C_below HR0.out S.out.1)); clear hg_ hbox_ hb_))
  have h := HH.out
  clear HH
  obtain ⟨t, h_, h2_⟩ := Option.bind_eq_some_iff.1 h; clear h; have h := h2_; clear h2_
  have E0 := Aside0.mk h_
  clear h_
  try dsimp only at h
  cases t with
  | false =>
    obtain rfl : true = r := Option.some.inj h
    clear h
    go_wp2_with (first | (go_at_call 10; (refine (pelotonlaw03_awake.calls true _ rfl).mono ?_); rintro e wa_ ⟨rfl, hb_⟩; replace S := Aside0.mk (S.out.below hb_); clear hb_; obtain ⟨At0, ct0, k_, l_, r_⟩ := S.out.get (g := g_g) (a := a0_0) (b := a0_1) (l := l0_2) (.head _); obtain ⟨xt0, yt0, zt0, _, _, _⟩ := cell3 k_; have Lt0 := Aside0.mk l_; have Rt0 := Aside0.mk r_; clear k_ l_ r_) | ((with_reducible refine gate_dst (N := 27) rfl ?_); (try (refine gate_guard (by rfl) ?_; dsimp only)); refine Kd.N_lit k24 _ 24 ?hg (N' := 27) ?hd (xs := ([(⟨a0_0, a0_1, l0_2⟩ : S24)] : List S24)) (inner := [.int .i64 a0_0, .int .i64 a0_1, .slice At0 l0_2.length ct0]) (ok := fun _ => True) (okp := fun _ => True) ?hr ?hp (fun _ hk => hk) trivial (Below.refl _ _) (Nat.le_refl _) (by simp) ?_; (case hd => rfl); (case hg => rfl); (case hr => first | exact bld_ 3 (.agg #[.int .i64 0, .int .i64 0, .slice none 0 0]) rfl rfl (by simp only [Act.eval, Array.getD_eq_getD_getElem?, List.map_toArray, List.map_cons, List.map_nil, List.getElem?_toArray, List.getElem?_cons_succ, List.getElem?_cons_zero, Option.getD_some]; kernel_rfl) | (go_simp; done) | (go_simp; rfl)); (case hp => exact (Reps.c3 (fk24 (⟨a0_0, a0_1, l0_2⟩ : S24) Lt0.out Rt0.out) (Reps.none _ _))); intro v_ w_ ho_ hb_ hg_ hnew_; clear hg_ hnew_; replace S := Aside0.mk (S.out.below hb_); have HO1 := Aside0.mk ho_; clear ho_ hb_; obtain ⟨AoHO1, coHO1, eo_⟩ := Kd.N_slice HO1.out; subst eo_) | (go_at_call 11; (refine (pelotonlaw03_small.calls k _ _ [(⟨a0_0, a0_1, l0_2⟩ : S24)] _ _ ?sa ?sb E0.out).mono ?_); (case sa => exact (Kd.N_reads' HO1.out).2.2); (case sb => exact (Kd.N_reads' HO1.out).2.1); rintro e ws_ ⟨rfl, hd_⟩; replace S := Aside0.mk (S.out.below hd_.below); clear hd_; obtain ⟨At1, ct1, k_, l_, r_⟩ := S.out.get (g := g_g) (a := a0_0) (b := a0_1) (l := l0_2) (.head _); obtain ⟨xt1, yt1, zt1, _, _, _⟩ := cell3 k_; have Lt1 := Aside0.mk l_; have Rt1 := Aside0.mk r_; clear k_ l_ r_))
    go_ret
    exact ⟨rfl, S.out.1⟩
  | true =>
    rw [if_pos rfl] at h
    obtain ⟨u, h_, h2_⟩ := Option.bind_eq_some_iff.1 h; clear h; have h := h2_; clear h2_
    have E1 := Aside0.mk h_
    clear h_
    try dsimp only at h
    cases u with
    | false =>
      obtain rfl : true = r := Option.some.inj h
      clear h
      go_wp2_with (first | (go_at_call 10; (refine (pelotonlaw03_awake.calls true _ rfl).mono ?_); rintro e wa_ ⟨rfl, hb_⟩; replace S := Aside0.mk (S.out.below hb_); clear hb_; obtain ⟨At0, ct0, k_, l_, r_⟩ := S.out.get (g := g_g) (a := a0_0) (b := a0_1) (l := l0_2) (.head _); obtain ⟨xt0, yt0, zt0, _, _, _⟩ := cell3 k_; have Lt0 := Aside0.mk l_; have Rt0 := Aside0.mk r_; clear k_ l_ r_) | ((with_reducible refine gate_dst (N := 27) rfl ?_); (try (refine gate_guard (by rfl) ?_; dsimp only)); refine Kd.N_lit k24 _ 24 ?hg (N' := 27) ?hd (xs := ([(⟨a0_0, a0_1, l0_2⟩ : S24)] : List S24)) (inner := [.int .i64 a0_0, .int .i64 a0_1, .slice At0 l0_2.length ct0]) (ok := fun _ => True) (okp := fun _ => True) ?hr ?hp (fun _ hk => hk) trivial (Below.refl _ _) (Nat.le_refl _) (by simp) ?_; (case hd => rfl); (case hg => rfl); (case hr => first | exact bld_ 3 (.agg #[.int .i64 0, .int .i64 0, .slice none 0 0]) rfl rfl (by simp only [Act.eval, Array.getD_eq_getD_getElem?, List.map_toArray, List.map_cons, List.map_nil, List.getElem?_toArray, List.getElem?_cons_succ, List.getElem?_cons_zero, Option.getD_some]; kernel_rfl) | (go_simp; done) | (go_simp; rfl)); (case hp => exact (Reps.c3 (fk24 (⟨a0_0, a0_1, l0_2⟩ : S24) Lt0.out Rt0.out) (Reps.none _ _))); intro v_ w_ ho_ hb_ hg_ hnew_; clear hg_ hnew_; replace S := Aside0.mk (S.out.below hb_); have HO1 := Aside0.mk ho_; clear ho_ hb_; obtain ⟨AoHO1, coHO1, eo_⟩ := Kd.N_slice HO1.out; subst eo_) | (go_at_call 11; (refine (pelotonlaw03_small.calls k _ _ [(⟨a0_0, a0_1, l0_2⟩ : S24)] _ _ ?sa ?sb E0.out).mono ?_); (case sa => exact (Kd.N_reads' HO1.out).2.2); (case sb => exact (Kd.N_reads' HO1.out).2.1); rintro e ws_ ⟨rfl, hd_⟩; replace S := Aside0.mk (S.out.below hd_.below); clear hd_; obtain ⟨At1, ct1, k_, l_, r_⟩ := S.out.get (g := g_g) (a := a0_0) (b := a0_1) (l := l0_2) (.head _); obtain ⟨xt1, yt1, zt1, _, _, _⟩ := cell3 k_; have Lt1 := Aside0.mk l_; have Rt1 := Aside0.mk r_; clear k_ l_ r_) | (go_at_call 32; (refine (pelotonref03_Fit.calls a0_0 a0_1 At1 ct1 l0_2 _ _ Rt1.out Lt1.out E1.out).mono ?_); rintro e wf_ ⟨rfl, hb_⟩; replace S := Aside0.mk (S.out.below hb_); clear hb_ E1))
      go_ret
      exact ⟨rfl, S.out.1⟩
    | true =>
      rw [if_pos rfl] at h
      by_cases c0 : 0 ≤ a0_0 ∧ a0_0 ≤ 4096 ∧ 0 ≤ a0_1 ∧ a0_1 ≤ 4096
      · rw [if_pos c0] at h
        have HH := Aside0.mk h
        clear h
        have HC := Aside0.mk c0
        clear c0
        go_upto_region 3 with (first | (go_at_call 10; (refine (pelotonlaw03_awake.calls true _ rfl).mono ?_); rintro e wa_ ⟨rfl, hb_⟩; replace S := Aside0.mk (S.out.below hb_); clear hb_; obtain ⟨At0, ct0, k_, l_, r_⟩ := S.out.get (g := g_g) (a := a0_0) (b := a0_1) (l := l0_2) (.head _); obtain ⟨xt0, yt0, zt0, _, _, _⟩ := cell3 k_; have Lt0 := Aside0.mk l_; have Rt0 := Aside0.mk r_; clear k_ l_ r_) | ((with_reducible refine gate_dst (N := 27) rfl ?_); (try (refine gate_guard (by rfl) ?_; dsimp only)); refine Kd.N_lit k24 _ 24 ?hg (N' := 27) ?hd (xs := ([(⟨a0_0, a0_1, l0_2⟩ : S24)] : List S24)) (inner := [.int .i64 a0_0, .int .i64 a0_1, .slice At0 l0_2.length ct0]) (ok := fun _ => True) (okp := fun _ => True) ?hr ?hp (fun _ hk => hk) trivial (Below.refl _ _) (Nat.le_refl _) (by simp) ?_; (case hd => rfl); (case hg => rfl); (case hr => first | exact bld_ 3 (.agg #[.int .i64 0, .int .i64 0, .slice none 0 0]) rfl rfl (by simp only [Act.eval, Array.getD_eq_getD_getElem?, List.map_toArray, List.map_cons, List.map_nil, List.getElem?_toArray, List.getElem?_cons_succ, List.getElem?_cons_zero, Option.getD_some]; kernel_rfl) | (go_simp; done) | (go_simp; rfl)); (case hp => exact (Reps.c3 (fk24 (⟨a0_0, a0_1, l0_2⟩ : S24) Lt0.out Rt0.out) (Reps.none _ _))); intro v_ w_ ho_ hb_ hg_ hnew_; clear hg_ hnew_; replace S := Aside0.mk (S.out.below hb_); have HO1 := Aside0.mk ho_; clear ho_ hb_; obtain ⟨AoHO1, coHO1, eo_⟩ := Kd.N_slice HO1.out; subst eo_) | (go_at_call 11; (refine (pelotonlaw03_small.calls k _ _ [(⟨a0_0, a0_1, l0_2⟩ : S24)] _ _ ?sa ?sb E0.out).mono ?_); (case sa => exact (Kd.N_reads' HO1.out).2.2); (case sb => exact (Kd.N_reads' HO1.out).2.1); rintro e ws_ ⟨rfl, hd_⟩; replace S := Aside0.mk (S.out.below hd_.below); clear hd_; obtain ⟨At1, ct1, k_, l_, r_⟩ := S.out.get (g := g_g) (a := a0_0) (b := a0_1) (l := l0_2) (.head _); obtain ⟨xt1, yt1, zt1, _, _, _⟩ := cell3 k_; have Lt1 := Aside0.mk l_; have Rt1 := Aside0.mk r_; clear k_ l_ r_) | (go_at_call 32; (refine (pelotonref03_Fit.calls a0_0 a0_1 At1 ct1 l0_2 _ _ Rt1.out Lt1.out E1.out).mono ?_); rintro e wf_ ⟨rfl, hb_⟩; replace S := Aside0.mk (S.out.below hb_); clear hb_ E1))
        clear xt0 yt0 zt0 Lt0 Rt0 xt1 yt1 zt1 Lt1 Rt1 HO1
        obtain ⟨At0, ct0, k_, l_, r_⟩ := S.out.get (g := g_g) (a := a0_0) (b := a0_1) (l := l0_2) (.head _); obtain ⟨xt0, yt0, zt0, _, _, _⟩ := cell3 k_; have Lt0 := Aside0.mk l_; have Rt0 := Aside0.mk r_; clear k_ l_ r_
        have n0 : ¬ wrap64 (a0_0 + 1) = 0 := by have := HC.out; unfold wrap64; omega
        have n0a : (wrap64 (a0_0 + 1) == 0) = false := beq_eq_false_iff_ne.2 n0
        have n0b : decide (wrap64 (a0_0 + 1) = 0) = false := decide_eq_false n0
        have n0c : (wrap64 (a0_0 + 1) = 0) = False := eq_false n0
        clear n0
        have n1 : ¬ wrap64 (a0_1 + 1) = 0 := by have := HC.out; unfold wrap64; omega
        have n1a : (wrap64 (a0_1 + 1) == 0) = false := beq_eq_false_iff_ne.2 n1
        have n1b : decide (wrap64 (a0_1 + 1) = 0) = false := decide_eq_false n1
        have n1c : (wrap64 (a0_1 + 1) = 0) = False := eq_false n1
        clear n1
        go_quiet (fail)
        go_upto_region 4 with (fail)
        clear n0a n0b n0c n1a n1b n1c xt0 yt0 zt0 Lt0 Rt0
        replace S := Aside0.mk (S.out.below (pw_below_drewN (Below.refl _ _) nq))
        generalize hW_ : World.drewN _ nq = Wq at *
        clear hW_
        obtain ⟨R_, hR_⟩ : ∃ z, (Int.tmod (wrap64 (wrap64 (Int.tmod a1 (wrap64 (a0_0 + 1)) + a0_0) + 1)) (wrap64 (a0_0 + 1))) = z := ⟨_, rfl⟩
        obtain ⟨C_, hC_⟩ : ∃ z, (Int.tmod (wrap64 (wrap64 (Int.tmod a1 (wrap64 (a0_1 + 1)) + a0_1) + 1)) (wrap64 (a0_1 + 1))) = z := ⟨_, rfl⟩
        have h := HH.out
        clear HH
        rw [hR_, hC_] at h
        have HH := Aside0.mk h
        clear h
        (try simp only [i64_w])
        rw [hR_, hC_]
        clear hR_ hC_
        have h := HH.out
        clear HH
        obtain ⟨⟨ra1, ra2, ra3, ra4⟩, h_, h2_⟩ := Option.bind_eq_some_iff.1 h; clear h; have h := h2_; clear h2_
        have E2 := Aside0.mk h_
        clear h_
        try dsimp only at h
        have HH := Aside0.mk h
        clear h
        obtain ⟨At0, ct0, k_, l_, r_⟩ := S.out.get (g := g_g) (a := a0_0) (b := a0_1) (l := l0_2) (.head _); obtain ⟨xt0, yt0, zt0, _, _, _⟩ := cell3 k_; have Lt0 := Aside0.mk l_; have Rt0 := Aside0.mk r_; clear k_ l_ r_
        go_upto_region 5 with (first | (go_at_call 30; (refine (grid_Rows.calls k a0_0 a0_1 At0 ct0 l0_2 0 R_ _ _ _ _ _ Rt0.out Lt0.out E2.out).mono ?_); rintro e wc_ ⟨v_, rfl, ho_, hb_⟩; replace S := Aside0.mk (S.out.below hb_); obtain ⟨Ara, cra, e_⟩ := Kd.R_slice ho_; (have e1_ : v_ = .slice Ara ra3.length cra := e_); clear e_; subst e1_; have Rra := Aside0.mk (Kd.R_reads' ho_).2.2; have Lra := Aside0.mk (Kd.R_reads' ho_).2.1; clear ho_ hb_) | ((with_reducible refine gate_dst (N := 7) rfl ?_); refine box_event ?hg (N := 7) ?hd (cs := #[.int .i64 0, .int .i64 0, .slice none 0 0]) (t := 24) ?hr ?_; (case hd => rfl); (case hg => rfl); (case hr => first | (go_simp; done) | (go_simp; rfl)); intro g_ra hg_ wb_ hbox_ hbb_; have BZ := Aside0.mk (fun u v x => below3 (u := u) (v := v) (x := x) hbb_ (Nat.le_of_eq hg_.symm)); have KZ := Aside0.mk (fun u v x => put3 (u := u) (v := v) (x := x) hbox_); obtain ⟨b1, b2, b3, b4, b5, b6⟩ := cell3 hbox_; clear hg_ hbox_ hbb_))
        replace S := Aside0.mk (S.out.box (BZ.out (.int .i64 ra1) (.int .i64 ra2) (.slice Ara ra3.length cra)) (KZ.out (.int .i64 ra1) (.int .i64 ra2) (.slice Ara ra3.length cra)) Lra.out Rra.out)
        generalize hW_ : (((wb_.setCell ⟨g_ra, 0, none⟩ (.int .i64 ra1)).setCell ⟨g_ra, 1, none⟩ (.int .i64 ra2)).setCell ⟨g_ra, 2, none⟩ (.slice Ara ra3.length cra)) = W1 at *
        clear hW_ BZ KZ b1 b2 b3 b4 b5 b6 Lra Rra
        clear xt0 yt0 zt0 Lt0 Rt0
        have h := HH.out
        clear HH
        obtain ⟨⟨rb1, rb2, rb3, rb4⟩, h_, h2_⟩ := Option.bind_eq_some_iff.1 h; clear h; have h := h2_; clear h2_
        have E3 := Aside0.mk h_
        clear h_
        try dsimp only at h
        have HH := Aside0.mk h
        clear h
        obtain ⟨At0, ct0, k_, l_, r_⟩ := S.out.get (g := g_g) (a := a0_0) (b := a0_1) (l := l0_2) (.tail _ (.head _)); obtain ⟨xt0, yt0, zt0, _, _, _⟩ := cell3 k_; have Lt0 := Aside0.mk l_; have Rt0 := Aside0.mk r_; clear k_ l_ r_
        go_upto_region 6 with (first | (go_at_call 30; (refine (grid_Rows.calls k a0_0 a0_1 At0 ct0 l0_2 R_ a0_0 _ _ _ _ _ Rt0.out Lt0.out E3.out).mono ?_); rintro e wc_ ⟨v_, rfl, ho_, hb_⟩; replace S := Aside0.mk (S.out.below hb_); obtain ⟨Arb, crb, e_⟩ := Kd.R_slice ho_; (have e1_ : v_ = .slice Arb rb3.length crb := e_); clear e_; subst e1_; have Rrb := Aside0.mk (Kd.R_reads' ho_).2.2; have Lrb := Aside0.mk (Kd.R_reads' ho_).2.1; clear ho_ hb_) | ((with_reducible refine gate_dst (N := 9) rfl ?_); refine box_event ?hg (N := 9) ?hd (cs := #[.int .i64 0, .int .i64 0, .slice none 0 0]) (t := 24) ?hr ?_; (case hd => rfl); (case hg => rfl); (case hr => first | (go_simp; done) | (go_simp; rfl)); intro g_rb hg_ wb_ hbox_ hbb_; have BZ := Aside0.mk (fun u v x => below3 (u := u) (v := v) (x := x) hbb_ (Nat.le_of_eq hg_.symm)); have KZ := Aside0.mk (fun u v x => put3 (u := u) (v := v) (x := x) hbox_); obtain ⟨b1, b2, b3, b4, b5, b6⟩ := cell3 hbox_; clear hg_ hbox_ hbb_))
        replace S := Aside0.mk (S.out.box (BZ.out (.int .i64 rb1) (.int .i64 rb2) (.slice Arb rb3.length crb)) (KZ.out (.int .i64 rb1) (.int .i64 rb2) (.slice Arb rb3.length crb)) Lrb.out Rrb.out)
        generalize hW_ : (((wb_.setCell ⟨g_rb, 0, none⟩ (.int .i64 rb1)).setCell ⟨g_rb, 1, none⟩ (.int .i64 rb2)).setCell ⟨g_rb, 2, none⟩ (.slice Arb rb3.length crb)) = W2 at *
        clear hW_ BZ KZ b1 b2 b3 b4 b5 b6 Lrb Rrb
        clear xt0 yt0 zt0 Lt0 Rt0
        have h := HH.out
        clear HH
        obtain ⟨⟨x1, x2, x3, x4⟩, h_, h2_⟩ := Option.bind_eq_some_iff.1 h; clear h; have h := h2_; clear h2_
        have E4 := Aside0.mk h_
        clear h_
        try dsimp only at h
        have HH := Aside0.mk h
        clear h
        obtain ⟨At0, ct0, k_, l_, r_⟩ := S.out.get (g := g_ra) (a := ra1) (b := ra2) (l := ra3) (.tail _ (.head _)); obtain ⟨xt0, yt0, zt0, _, _, _⟩ := cell3 k_; have Lt0 := Aside0.mk l_; have Rt0 := Aside0.mk r_; clear k_ l_ r_
        obtain ⟨At1, ct1, k_, l_, r_⟩ := S.out.get (g := g_rb) (a := rb1) (b := rb2) (l := rb3) (.head _); obtain ⟨xt1, yt1, zt1, _, _, _⟩ := cell3 k_; have Lt1 := Aside0.mk l_; have Rt1 := Aside0.mk r_; clear k_ l_ r_
        go_upto_region 7 with (first | ((with_reducible refine gate_dst (N := 80) rfl ?_); refine Kd.N_lit k24 _ 24 ?hg (N' := 80) ?hd (xs := ([(⟨ra1, ra2, ra3⟩ : S24), (⟨rb1, rb2, rb3⟩ : S24)] : List S24)) (inner := [.int .i64 ra1, .int .i64 ra2, .slice At0 ra3.length ct0, .int .i64 rb1, .int .i64 rb2, .slice At1 rb3.length ct1]) (ok := fun _ => True) (okp := fun _ => True) ?hr ?hp (fun _ hk => hk) trivial (Below.refl _ _) (Nat.le_refl _) (by simp) ?_; (case hd => rfl); (case hg => rfl); (case hr => first | exact bld_ 3 (.agg #[.int .i64 0, .int .i64 0, .slice none 0 0]) rfl rfl (by simp only [Act.eval, Array.getD_eq_getD_getElem?, List.map_toArray, List.map_cons, List.map_nil, List.getElem?_toArray, List.getElem?_cons_succ, List.getElem?_cons_zero, Option.getD_some]; kernel_rfl) | (go_simp; done) | (go_simp; rfl)); (case hp => exact (Reps.c3 (fk24 (⟨ra1, ra2, ra3⟩ : S24) Lt0.out Rt0.out) (Reps.c3 (fk24 (⟨rb1, rb2, rb3⟩ : S24) Lt1.out Rt1.out) (Reps.none _ _)))); intro v_ w_ ho_ hb_ hg_ hnew_; clear hg_ hnew_; replace S := Aside0.mk (S.out.below hb_); have HOx := Aside0.mk ho_; clear ho_ hb_; obtain ⟨AoHOx, coHOx, eo_⟩ := Kd.N_slice HOx.out; subst eo_) | (go_at_call 24; (refine (grid_Stack.calls k _ _ [(⟨ra1, ra2, ra3⟩ : S24), (⟨rb1, rb2, rb3⟩ : S24)] _ _ _ _ _ (Kd.N_reads' HOx.out).2.2 (Kd.N_reads' HOx.out).2.1 E4.out).mono ?_); rintro e wc_ ⟨v_, rfl, ho_, hb_⟩; replace S := Aside0.mk (S.out.below hb_); obtain ⟨Ax, cx, e_⟩ := Kd.R_slice ho_; (have e1_ : v_ = .slice Ax x3.length cx := e_); clear e_; subst e1_; have Rx := Aside0.mk (Kd.R_reads' ho_).2.2; have Lx := Aside0.mk (Kd.R_reads' ho_).2.1; clear ho_ hb_) | ((with_reducible refine gate_dst (N := 11) rfl ?_); refine box_event ?hg (N := 11) ?hd (cs := #[.int .i64 0, .int .i64 0, .slice none 0 0]) (t := 24) ?hr ?_; (case hd => rfl); (case hg => rfl); (case hr => first | (go_simp; done) | (go_simp; rfl)); intro g_x hg_ wb_ hbox_ hbb_; have BZ := Aside0.mk (fun u v x => below3 (u := u) (v := v) (x := x) hbb_ (Nat.le_of_eq hg_.symm)); have KZ := Aside0.mk (fun u v x => put3 (u := u) (v := v) (x := x) hbox_); obtain ⟨b1, b2, b3, b4, b5, b6⟩ := cell3 hbox_; clear hg_ hbox_ hbb_))
        replace S := Aside0.mk (S.out.box (BZ.out (.int .i64 x1) (.int .i64 x2) (.slice Ax x3.length cx)) (KZ.out (.int .i64 x1) (.int .i64 x2) (.slice Ax x3.length cx)) Lx.out Rx.out)
        generalize hW_ : (((wb_.setCell ⟨g_x, 0, none⟩ (.int .i64 x1)).setCell ⟨g_x, 1, none⟩ (.int .i64 x2)).setCell ⟨g_x, 2, none⟩ (.slice Ax x3.length cx)) = W3 at *
        clear hW_ BZ KZ b1 b2 b3 b4 b5 b6 Lx Rx
        clear xt0 yt0 zt0 Lt0 Rt0 xt1 yt1 zt1 Lt1 Rt1 HOx
        have h := HH.out
        clear HH
        obtain ⟨⟨pa1, pa2, pa3, pa4⟩, h_, h2_⟩ := Option.bind_eq_some_iff.1 h; clear h; have h := h2_; clear h2_
        have E5 := Aside0.mk h_
        clear h_
        try dsimp only at h
        have HH := Aside0.mk h
        clear h
        obtain ⟨At0, ct0, k_, l_, r_⟩ := S.out.get (g := g_g) (a := a0_0) (b := a0_1) (l := l0_2) (.tail _ (.tail _ (.tail _ (.head _)))); obtain ⟨xt0, yt0, zt0, _, _, _⟩ := cell3 k_; have Lt0 := Aside0.mk l_; have Rt0 := Aside0.mk r_; clear k_ l_ r_
        go_upto_region 8 with (first | (go_at_call 31; (refine (grid_Cols.calls k a0_0 a0_1 At0 ct0 l0_2 0 C_ _ _ _ _ _ Rt0.out Lt0.out E5.out).mono ?_); rintro e wc_ ⟨v_, rfl, ho_, hb_⟩; replace S := Aside0.mk (S.out.below hb_); obtain ⟨Apa, cpa, e_⟩ := Kd.R_slice ho_; (have e1_ : v_ = .slice Apa pa3.length cpa := e_); clear e_; subst e1_; have Rpa := Aside0.mk (Kd.R_reads' ho_).2.2; have Lpa := Aside0.mk (Kd.R_reads' ho_).2.1; clear ho_ hb_) | ((with_reducible refine gate_dst (N := 13) rfl ?_); refine box_event ?hg (N := 13) ?hd (cs := #[.int .i64 0, .int .i64 0, .slice none 0 0]) (t := 24) ?hr ?_; (case hd => rfl); (case hg => rfl); (case hr => first | (go_simp; done) | (go_simp; rfl)); intro g_pa hg_ wb_ hbox_ hbb_; have BZ := Aside0.mk (fun u v x => below3 (u := u) (v := v) (x := x) hbb_ (Nat.le_of_eq hg_.symm)); have KZ := Aside0.mk (fun u v x => put3 (u := u) (v := v) (x := x) hbox_); obtain ⟨b1, b2, b3, b4, b5, b6⟩ := cell3 hbox_; clear hg_ hbox_ hbb_))
        replace S := Aside0.mk (S.out.box (BZ.out (.int .i64 pa1) (.int .i64 pa2) (.slice Apa pa3.length cpa)) (KZ.out (.int .i64 pa1) (.int .i64 pa2) (.slice Apa pa3.length cpa)) Lpa.out Rpa.out)
        generalize hW_ : (((wb_.setCell ⟨g_pa, 0, none⟩ (.int .i64 pa1)).setCell ⟨g_pa, 1, none⟩ (.int .i64 pa2)).setCell ⟨g_pa, 2, none⟩ (.slice Apa pa3.length cpa)) = W4 at *
        clear hW_ BZ KZ b1 b2 b3 b4 b5 b6 Lpa Rpa
        clear xt0 yt0 zt0 Lt0 Rt0
        have h := HH.out
        clear HH
        obtain ⟨⟨pb1, pb2, pb3, pb4⟩, h_, h2_⟩ := Option.bind_eq_some_iff.1 h; clear h; have h := h2_; clear h2_
        have E6 := Aside0.mk h_
        clear h_
        try dsimp only at h
        have HH := Aside0.mk h
        clear h
        obtain ⟨At0, ct0, k_, l_, r_⟩ := S.out.get (g := g_g) (a := a0_0) (b := a0_1) (l := l0_2) (.tail _ (.tail _ (.tail _ (.tail _ (.head _))))); obtain ⟨xt0, yt0, zt0, _, _, _⟩ := cell3 k_; have Lt0 := Aside0.mk l_; have Rt0 := Aside0.mk r_; clear k_ l_ r_
        go_upto_region 9 with (first | (go_at_call 31; (refine (grid_Cols.calls k a0_0 a0_1 At0 ct0 l0_2 C_ a0_1 _ _ _ _ _ Rt0.out Lt0.out E6.out).mono ?_); rintro e wc_ ⟨v_, rfl, ho_, hb_⟩; replace S := Aside0.mk (S.out.below hb_); obtain ⟨Apb, cpb, e_⟩ := Kd.R_slice ho_; (have e1_ : v_ = .slice Apb pb3.length cpb := e_); clear e_; subst e1_; have Rpb := Aside0.mk (Kd.R_reads' ho_).2.2; have Lpb := Aside0.mk (Kd.R_reads' ho_).2.1; clear ho_ hb_) | ((with_reducible refine gate_dst (N := 15) rfl ?_); refine box_event ?hg (N := 15) ?hd (cs := #[.int .i64 0, .int .i64 0, .slice none 0 0]) (t := 24) ?hr ?_; (case hd => rfl); (case hg => rfl); (case hr => first | (go_simp; done) | (go_simp; rfl)); intro g_pb hg_ wb_ hbox_ hbb_; have BZ := Aside0.mk (fun u v x => below3 (u := u) (v := v) (x := x) hbb_ (Nat.le_of_eq hg_.symm)); have KZ := Aside0.mk (fun u v x => put3 (u := u) (v := v) (x := x) hbox_); obtain ⟨b1, b2, b3, b4, b5, b6⟩ := cell3 hbox_; clear hg_ hbox_ hbb_))
        replace S := Aside0.mk (S.out.box (BZ.out (.int .i64 pb1) (.int .i64 pb2) (.slice Apb pb3.length cpb)) (KZ.out (.int .i64 pb1) (.int .i64 pb2) (.slice Apb pb3.length cpb)) Lpb.out Rpb.out)
        generalize hW_ : (((wb_.setCell ⟨g_pb, 0, none⟩ (.int .i64 pb1)).setCell ⟨g_pb, 1, none⟩ (.int .i64 pb2)).setCell ⟨g_pb, 2, none⟩ (.slice Apb pb3.length cpb)) = W5 at *
        clear hW_ BZ KZ b1 b2 b3 b4 b5 b6 Lpb Rpb
        clear xt0 yt0 zt0 Lt0 Rt0
        have h := HH.out
        clear HH
        obtain ⟨⟨y1, y2, y3, y4⟩, h_, h2_⟩ := Option.bind_eq_some_iff.1 h; clear h; have h := h2_; clear h2_
        have E7 := Aside0.mk h_
        clear h_
        try dsimp only at h
        have HH := Aside0.mk h
        clear h
        obtain ⟨At0, ct0, k_, l_, r_⟩ := S.out.get (g := g_pa) (a := pa1) (b := pa2) (l := pa3) (.tail _ (.head _)); obtain ⟨xt0, yt0, zt0, _, _, _⟩ := cell3 k_; have Lt0 := Aside0.mk l_; have Rt0 := Aside0.mk r_; clear k_ l_ r_
        obtain ⟨At1, ct1, k_, l_, r_⟩ := S.out.get (g := g_pb) (a := pb1) (b := pb2) (l := pb3) (.head _); obtain ⟨xt1, yt1, zt1, _, _, _⟩ := cell3 k_; have Lt1 := Aside0.mk l_; have Rt1 := Aside0.mk r_; clear k_ l_ r_
        go_upto_region 10 with (first | ((with_reducible refine gate_dst (N := 101) rfl ?_); refine Kd.N_lit k24 _ 24 ?hg (N' := 101) ?hd (xs := ([(⟨pa1, pa2, pa3⟩ : S24), (⟨pb1, pb2, pb3⟩ : S24)] : List S24)) (inner := [.int .i64 pa1, .int .i64 pa2, .slice At0 pa3.length ct0, .int .i64 pb1, .int .i64 pb2, .slice At1 pb3.length ct1]) (ok := fun _ => True) (okp := fun _ => True) ?hr ?hp (fun _ hk => hk) trivial (Below.refl _ _) (Nat.le_refl _) (by simp) ?_; (case hd => rfl); (case hg => rfl); (case hr => first | exact bld_ 3 (.agg #[.int .i64 0, .int .i64 0, .slice none 0 0]) rfl rfl (by simp only [Act.eval, Array.getD_eq_getD_getElem?, List.map_toArray, List.map_cons, List.map_nil, List.getElem?_toArray, List.getElem?_cons_succ, List.getElem?_cons_zero, Option.getD_some]; kernel_rfl) | (go_simp; done) | (go_simp; rfl)); (case hp => exact (Reps.c3 (fk24 (⟨pa1, pa2, pa3⟩ : S24) Lt0.out Rt0.out) (Reps.c3 (fk24 (⟨pb1, pb2, pb3⟩ : S24) Lt1.out Rt1.out) (Reps.none _ _)))); intro v_ w_ ho_ hb_ hg_ hnew_; clear hg_ hnew_; replace S := Aside0.mk (S.out.below hb_); have HOy := Aside0.mk ho_; clear ho_ hb_; obtain ⟨AoHOy, coHOy, eo_⟩ := Kd.N_slice HOy.out; subst eo_) | (go_at_call 25; (refine (grid_Beside.calls k _ _ [(⟨pa1, pa2, pa3⟩ : S24), (⟨pb1, pb2, pb3⟩ : S24)] _ _ _ _ _ (Kd.N_reads' HOy.out).2.2 (Kd.N_reads' HOy.out).2.1 E7.out).mono ?_); rintro e wc_ ⟨v_, rfl, ho_, hb_⟩; replace S := Aside0.mk (S.out.below hb_); obtain ⟨Ay, cy, e_⟩ := Kd.R_slice ho_; (have e1_ : v_ = .slice Ay y3.length cy := e_); clear e_; subst e1_; have Ry := Aside0.mk (Kd.R_reads' ho_).2.2; have Ly := Aside0.mk (Kd.R_reads' ho_).2.1; clear ho_ hb_) | ((with_reducible refine gate_dst (N := 17) rfl ?_); refine box_event ?hg (N := 17) ?hd (cs := #[.int .i64 0, .int .i64 0, .slice none 0 0]) (t := 24) ?hr ?_; (case hd => rfl); (case hg => rfl); (case hr => first | (go_simp; done) | (go_simp; rfl)); intro g_y hg_ wb_ hbox_ hbb_; have BZ := Aside0.mk (fun u v x => below3 (u := u) (v := v) (x := x) hbb_ (Nat.le_of_eq hg_.symm)); have KZ := Aside0.mk (fun u v x => put3 (u := u) (v := v) (x := x) hbox_); obtain ⟨b1, b2, b3, b4, b5, b6⟩ := cell3 hbox_; clear hg_ hbox_ hbb_))
        replace S := Aside0.mk (S.out.box (BZ.out (.int .i64 y1) (.int .i64 y2) (.slice Ay y3.length cy)) (KZ.out (.int .i64 y1) (.int .i64 y2) (.slice Ay y3.length cy)) Ly.out Ry.out)
        generalize hW_ : (((wb_.setCell ⟨g_y, 0, none⟩ (.int .i64 y1)).setCell ⟨g_y, 1, none⟩ (.int .i64 y2)).setCell ⟨g_y, 2, none⟩ (.slice Ay y3.length cy)) = W6 at *
        clear hW_ BZ KZ b1 b2 b3 b4 b5 b6 Ly Ry
        clear xt0 yt0 zt0 Lt0 Rt0 xt1 yt1 zt1 Lt1 Rt1 HOy
        have h := HH.out
        clear HH
        obtain ⟨⟨tu1, tu2, tu3, tu4⟩, h_, h2_⟩ := Option.bind_eq_some_iff.1 h; clear h; have h := h2_; clear h2_
        have E8 := Aside0.mk h_
        clear h_
        try dsimp only at h
        have HH := Aside0.mk h
        clear h
        obtain ⟨At0, ct0, k_, l_, r_⟩ := S.out.get (g := g_g) (a := a0_0) (b := a0_1) (l := l0_2) (.tail _ (.tail _ (.tail _ (.tail _ (.tail _ (.tail _ (.head _))))))); obtain ⟨xt0, yt0, zt0, _, _, _⟩ := cell3 k_; have Lt0 := Aside0.mk l_; have Rt0 := Aside0.mk r_; clear k_ l_ r_
        go_upto_region 11 with (first | (go_at_call 22; (refine (grid_Turn.calls k a0_0 a0_1 At0 ct0 l0_2 _ _ _ _ _ Rt0.out Lt0.out E8.out).mono ?_); rintro e wc_ ⟨v_, rfl, ho_, hb_⟩; replace S := Aside0.mk (S.out.below hb_); obtain ⟨Atu, ctu, e_⟩ := Kd.R_slice ho_; (have e1_ : v_ = .slice Atu tu3.length ctu := e_); clear e_; subst e1_; have Rtu := Aside0.mk (Kd.R_reads' ho_).2.2; have Ltu := Aside0.mk (Kd.R_reads' ho_).2.1; clear ho_ hb_) | ((with_reducible refine gate_dst (N := 19) rfl ?_); refine box_event ?hg (N := 19) ?hd (cs := #[.int .i64 0, .int .i64 0, .slice none 0 0]) (t := 24) ?hr ?_; (case hd => rfl); (case hg => rfl); (case hr => first | (go_simp; done) | (go_simp; rfl)); intro g_tu hg_ wb_ hbox_ hbb_; have BZ := Aside0.mk (fun u v x => below3 (u := u) (v := v) (x := x) hbb_ (Nat.le_of_eq hg_.symm)); have KZ := Aside0.mk (fun u v x => put3 (u := u) (v := v) (x := x) hbox_); obtain ⟨b1, b2, b3, b4, b5, b6⟩ := cell3 hbox_; clear hg_ hbox_ hbb_))
        replace S := Aside0.mk (S.out.box (BZ.out (.int .i64 tu1) (.int .i64 tu2) (.slice Atu tu3.length ctu)) (KZ.out (.int .i64 tu1) (.int .i64 tu2) (.slice Atu tu3.length ctu)) Ltu.out Rtu.out)
        generalize hW_ : (((wb_.setCell ⟨g_tu, 0, none⟩ (.int .i64 tu1)).setCell ⟨g_tu, 1, none⟩ (.int .i64 tu2)).setCell ⟨g_tu, 2, none⟩ (.slice Atu tu3.length ctu)) = W7 at *
        clear hW_ BZ KZ b1 b2 b3 b4 b5 b6 Ltu Rtu
        clear xt0 yt0 zt0 Lt0 Rt0
        have h := HH.out
        clear HH
        obtain ⟨⟨z1, z2, z3, z4⟩, h_, h2_⟩ := Option.bind_eq_some_iff.1 h; clear h; have h := h2_; clear h2_
        have E9 := Aside0.mk h_
        clear h_
        try dsimp only at h
        have HH := Aside0.mk h
        clear h
        obtain ⟨At0, ct0, k_, l_, r_⟩ := S.out.get (g := g_tu) (a := tu1) (b := tu2) (l := tu3) (.head _); obtain ⟨xt0, yt0, zt0, _, _, _⟩ := cell3 k_; have Lt0 := Aside0.mk l_; have Rt0 := Aside0.mk r_; clear k_ l_ r_
        go_upto_region 12 with (first | (go_at_call 22; (refine (grid_Turn.calls k tu1 tu2 At0 ct0 tu3 _ _ _ _ _ Rt0.out Lt0.out E9.out).mono ?_); rintro e wc_ ⟨v_, rfl, ho_, hb_⟩; replace S := Aside0.mk (S.out.below hb_); obtain ⟨Az, cz, e_⟩ := Kd.R_slice ho_; (have e1_ : v_ = .slice Az z3.length cz := e_); clear e_; subst e1_; have Rz := Aside0.mk (Kd.R_reads' ho_).2.2; have Lz := Aside0.mk (Kd.R_reads' ho_).2.1; clear ho_ hb_) | ((with_reducible refine gate_dst (N := 21) rfl ?_); refine box_event ?hg (N := 21) ?hd (cs := #[.int .i64 0, .int .i64 0, .slice none 0 0]) (t := 24) ?hr ?_; (case hd => rfl); (case hg => rfl); (case hr => first | (go_simp; done) | (go_simp; rfl)); intro g_z hg_ wb_ hbox_ hbb_; have BZ := Aside0.mk (fun u v x => below3 (u := u) (v := v) (x := x) hbb_ (Nat.le_of_eq hg_.symm)); have KZ := Aside0.mk (fun u v x => put3 (u := u) (v := v) (x := x) hbox_); obtain ⟨b1, b2, b3, b4, b5, b6⟩ := cell3 hbox_; clear hg_ hbox_ hbb_))
        replace S := Aside0.mk (S.out.box (BZ.out (.int .i64 z1) (.int .i64 z2) (.slice Az z3.length cz)) (KZ.out (.int .i64 z1) (.int .i64 z2) (.slice Az z3.length cz)) Lz.out Rz.out)
        generalize hW_ : (((wb_.setCell ⟨g_z, 0, none⟩ (.int .i64 z1)).setCell ⟨g_z, 1, none⟩ (.int .i64 z2)).setCell ⟨g_z, 2, none⟩ (.slice Az z3.length cz)) = W8 at *
        clear hW_ BZ KZ b1 b2 b3 b4 b5 b6 Lz Rz
        clear xt0 yt0 zt0 Lt0 Rt0
        have h := HH.out
        clear HH
        obtain ⟨t1, h_, h2_⟩ := Option.bind_eq_some_iff.1 h; clear h; have h := h2_; clear h2_
        have E10 := Aside0.mk h_
        clear h_
        try dsimp only at h
        cases t1 with
        | false => cases h
        | true =>
          rw [if_pos rfl] at h
          obtain ⟨t2, h_, h2_⟩ := Option.bind_eq_some_iff.1 h; clear h; have h := h2_; clear h2_
          have E11 := Aside0.mk h_
          clear h_
          try dsimp only at h
          cases t2 with
          | false => cases h
          | true =>
            rw [if_pos rfl] at h
            obtain ⟨t3, h_, h2_⟩ := Option.bind_eq_some_iff.1 h; clear h; have h := h2_; clear h2_
            have E12 := Aside0.mk h_
            clear h_
            try dsimp only at h
            obtain rfl := Option.some.inj h
            clear h
            obtain ⟨At0, ct0, k_, l_, r_⟩ := S.out.get (g := g_x) (a := x1) (b := x2) (l := x3) (.tail _ (.tail _ (.tail _ (.tail _ (.tail _ (.head _)))))); obtain ⟨xt0, yt0, zt0, _, _, _⟩ := cell3 k_; have Lt0 := Aside0.mk l_; have Rt0 := Aside0.mk r_; clear k_ l_ r_
            obtain ⟨At1, ct1, k_, l_, r_⟩ := S.out.get (g := g_g) (a := a0_0) (b := a0_1) (l := l0_2) (.tail _ (.tail _ (.tail _ (.tail _ (.tail _ (.tail _ (.tail _ (.tail _ (.head _))))))))); obtain ⟨xt1, yt1, zt1, _, _, _⟩ := cell3 k_; have Lt1 := Aside0.mk l_; have Rt1 := Aside0.mk r_; clear k_ l_ r_
            go_wp2_with (first | (go_at_call 14; (refine (pelotonlaw03_held.calls k x1 x2 At0 ct0 x3 x4 a0_0 a0_1 At1 ct1 l0_2 true true _ Rt0.out Lt0.out Rt1.out Lt1.out E10.out).mono ?_); rintro e wh_ ⟨rfl, hb_⟩; replace S := Aside0.mk (S.out.below hb_); clear hb_ E10; obtain ⟨At2, ct2, k_, l_, r_⟩ := S.out.get (g := g_y) (a := y1) (b := y2) (l := y3) (.tail _ (.tail _ (.head _))); obtain ⟨xt2, yt2, zt2, _, _, _⟩ := cell3 k_; have Lt2 := Aside0.mk l_; have Rt2 := Aside0.mk r_; clear k_ l_ r_; obtain ⟨At3, ct3, k_, l_, r_⟩ := S.out.get (g := g_g) (a := a0_0) (b := a0_1) (l := l0_2) (.tail _ (.tail _ (.tail _ (.tail _ (.tail _ (.tail _ (.tail _ (.tail _ (.head _))))))))); obtain ⟨xt3, yt3, zt3, _, _, _⟩ := cell3 k_; have Lt3 := Aside0.mk l_; have Rt3 := Aside0.mk r_; clear k_ l_ r_) | (go_at_call 14; (refine (pelotonlaw03_held.calls k y1 y2 At2 ct2 y3 y4 a0_0 a0_1 At3 ct3 l0_2 true true _ Rt2.out Lt2.out Rt3.out Lt3.out E11.out).mono ?_); rintro e wh_ ⟨rfl, hb_⟩; replace S := Aside0.mk (S.out.below hb_); clear hb_ E11; obtain ⟨At4, ct4, k_, l_, r_⟩ := S.out.get (g := g_z) (a := z1) (b := z2) (l := z3) (.head _); obtain ⟨xt4, yt4, zt4, _, _, _⟩ := cell3 k_; have Lt4 := Aside0.mk l_; have Rt4 := Aside0.mk r_; clear k_ l_ r_; obtain ⟨At5, ct5, k_, l_, r_⟩ := S.out.get (g := g_g) (a := a0_0) (b := a0_1) (l := l0_2) (.tail _ (.tail _ (.tail _ (.tail _ (.tail _ (.tail _ (.tail _ (.tail _ (.head _))))))))); obtain ⟨xt5, yt5, zt5, _, _, _⟩ := cell3 k_; have Lt5 := Aside0.mk l_; have Rt5 := Aside0.mk r_; clear k_ l_ r_) | (go_at_call 14; (refine (pelotonlaw03_held.calls k z1 z2 At4 ct4 z3 z4 a0_0 a0_1 At5 ct5 l0_2 true _ _ Rt4.out Lt4.out Rt5.out Lt5.out E12.out).mono ?_); rintro e wh_ ⟨rfl, hb_⟩; replace S := Aside0.mk (S.out.below hb_); clear hb_ E12))
            go_ret
            exact ⟨rfl, S.out.1⟩
      · rw [if_neg c0] at h; cases h
/-- THE ONE PURE STATEMENT of pelotonlaw03_GridBack. -/
def pelotonlaw03_GridBack.Pure : Prop := ∀ (a0_0 : Int) (a0_1 : Int) (l0_2 : List Int) (a1 : Int), ((Lit.int .i64 a0_0).wf = true ∧ (Lit.int .i64 a0_1).wf = true ∧ l0_2.length ≤ maxLen ∧ ∀ y0 ∈ l0_2, (Lit.int .i32 y0).wf = true) → ((Lit.int .i64 a1).wf = true) → ∃ k, pelotonlaw03_GridBack.f k a0_0 a0_1 l0_2 a1 = some true
end Go.Proofs.Ytggcgacndknlaaa.QGridBack
