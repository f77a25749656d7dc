-- Written by a program of this session (a turned copy of the print) out of the translation. Lean checks it.
import Derived.Test.YtggcgacndknlaaaQGridPartsx0
import Derived.Test.YtggcgacndknlaaaQGridPartsx1
namespace Go.Proofs.Ytggcgacndknlaaa.QGridParts
open Go.RowKit Go.Proofs.YtggcgacndknlaaaW.PrintWords Go.Proofs.YtggcgacndknlaaaW.PrintLast Go.Proofs.YtggcgacndknlaaaW.PrintMore
attribute [local go_sem] max2_int min2_int max_two min_two max_three min_three max_four min_four   -- for this text's walks alone
open Go.Proofs.YtggcgacndknlaaaW.PrintWords renaming below_alloc → b_a, pw_below_drewN → b_n, below_drew1 → b_d, below_set → b_s, blk_drewN → k_n, blk_drew → k_d, blk_alloc → k_a
open List renaming setIfInBounds_toArray → l_1, set_cons_zero → l_2, set_cons_succ → l_3, map_toArray → l_4, map_cons → l_5, map_nil → l_6, length_drop → l_7, length_take → l_8
set_option linter.unusedVariables false
set_option linter.unusedSimpArgs false

/-! ### grid_Stack: function 24, by hand -/
def grid_Stack.T7 : Bool × List (List Nat × List Nat) := (true, [([], []), ([0], [0]), ([], []), ([2], [2]), ([1, 3], [1, 3]), ([], []), ([5], [5]), ([0, 1, 2, 3, 4], []), ([7, 4, 0, 1, 2, 3, 4], [4, 7]), ([0, 1, 2, 3, 4, 5, 6, 7, 8], []), ([9, 6, 8, 0, 1, 2, 3, 4, 5, 6, 7, 8], [6, 9])])
def grid_Stack.B7 : List Nat := [0, 1, 0, 4, 15, 0, 32, 31, 159, 511, 1023]
theorem grid_Stack.tab7 : rtab .any (opsOf Try.f24 7) = grid_Stack.T7 := by kernel_rfl
theorem grid_Stack.bits7 : waitsOk grid_Stack.T7.2 grid_Stack.B7 = true := by kernel_rfl
def grid_Stack.go (k : Nat) (l : List S24) : Nat → Int → Int → Int → List Int → Option (Int × Int × List Int × Int)
  | 0, _, R, C, V => some (R, C, V, 0)
  | m + 1, i, R, C, V => (grid_fit.f k [rd_T24 l i]).bind fun t => if t = true then (if 0 < i ∧ (rd_T24 l i).f1 ≠ C then some (0, 0, [], 30) else if V.length + (rd_T24 l i).f2.length < 35184372088832 then (grid_fit.f k [(⟨wrap64 (R + (rd_T24 l i).f0), (rd_T24 l i).f1, V ++ (rd_T24 l i).f2⟩ : S24)]).bind fun t2 => if t2 = true then grid_Stack.go k l m (i + 1) (wrap64 (R + (rd_T24 l i).f0)) (rd_T24 l i).f1 (V ++ (rd_T24 l i).f2) else some (0, 0, [], 30) else none) else some (0, 0, [], 30)
def grid_Stack.f (k : Nat) (l : List S24) : Option (Int × Int × List Int × Int) := if l.length < 4611686018427387904 then grid_Stack.go k l l.length 0 0 0 [] else none
theorem grid_Stack.mono_go (l : List S24) (k : Nat) : ∀ m i R C V, LeO (grid_Stack.go k l m i R C V) (grid_Stack.go (k + 1) l m i R C V)
  | 0, _, _, _, _ => LeO.refl _
  | m + 1, i, R, C, V => by
    unfold grid_Stack.go
    refine LeO.bind (grid_fit.mono _ _) (fun _ => ?_)
    refine LeO.ite (LeO.ite (LeO.refl _) (LeO.ite ?_ (LeO.refl _))) (LeO.refl _)
    refine LeO.bind (grid_fit.mono _ _) (fun _ => ?_)
    exact LeO.ite (grid_Stack.mono_go l k m _ _ _ _) (LeO.refl _)
theorem grid_Stack.mono : ∀ a0 k, LeO (grid_Stack.f k a0) (grid_Stack.f (k + 1) a0) := by
  intro a0 k
  unfold grid_Stack.f
  exact LeO.ite (grid_Stack.mono_go _ _ _ _ _ _ _) (LeO.refl _)
def grid_Stack.Inv (w W : World) (g2 g4 : Nat) (R C : Int) (v : Value) (xs : List Int) : Prop :=
  W.heap[g2]? = some (.cells #[.int .i64 0, .int .i64 0, .slice none 0 0] 24 (0, 0)) ∧ W.heap[g4]? = some (.cells #[.int .i64 R, .int .i64 C, v] 24 (0, 0)) ∧ Kd.R (Kd.int .i32) 21 W w.heap.size (fun _ => True) v xs ∧ Below w.heap.size w W ∧ w.heap.size ≤ g2 ∧ w.heap.size ≤ g4 ∧ g2 ≠ g4
section
variable {w W W' : World} {g2 g4 g6 : Nat} {R C : Int} {v : Value} {xs : List Int}
theorem grid_Stack.Inv.below (h : grid_Stack.Inv w W g2 g4 R C v xs) (hb : Below W.heap.size W W') : grid_Stack.Inv w W' g2 g4 R C v xs :=
  ⟨blk_below h.1 hb, blk_below h.2.1 hb, Kd.R_below h.2.2.1 hb, below_step h.2.2.2.1 hb, h.2.2.2.2⟩
theorem grid_Stack.Inv.drew (h : grid_Stack.Inv w W g2 g4 R C v xs) : grid_Stack.Inv w W.drew g2 g4 R C v xs := ⟨k_d h.1, k_d h.2.1, Kd.R_drew h.2.2.1, b_d h.2.2.2.1, h.2.2.2.2⟩
/-- a struct put into a block of its own -/
theorem grid_Stack.Inv.box (h : grid_Stack.Inv w W g2 g4 R C v xs) {t : Nat} {cells : Array Value} (h6 : W.heap[g6]? = some (.cells cells t (0, 0))) (ht : t = 24) (hw : w.heap.size ≤ g6) (n2 : g2 ≠ g6) (n4 : g4 ≠ g6) (a b c : Value) : grid_Stack.Inv w (((W.setCell ⟨g6, 0, none⟩ a).setCell ⟨g6, 1, none⟩ b).setCell ⟨g6, 2, none⟩ c) g2 g4 R C v xs := by
  subst ht
  exact ⟨set3_other h.1 n2, set3_other h.2.1 n4, far3 h.2.2.1 h6 (by decide), below3 h.2.2.2.1 hw, h.2.2.2.2⟩
theorem grid_Stack.Inv.two (h : grid_Stack.Inv w W g2 g4 R C v xs) (R' C' : Int) : grid_Stack.Inv w ((W.setCell ⟨g4, 0, none⟩ (.int .i64 R')).setCell ⟨g4, 1, none⟩ (.int .i64 C')) g2 g4 R' C' v xs :=
  ⟨set_other 1 _ (set_other 0 _ h.1 h.2.2.2.2.2.2) h.2.2.2.2.2.2, blk_put (cs := #[.int .i64 R', .int .i64 C, v]) (blk_put h.2.1 0 _ rfl) 1 _ rfl,
    Kd.R_mono (Kd.R_far (p := ⟨g4, 1, none⟩) (Kd.R_far (p := ⟨g4, 0, none⟩) (Kd.R_types h.2.2.1 h.2.1 (by decide)) (fun _ hk => hk.2) _) (fun _ hk => hk.2) _) (fun _ _ => trivial), below_set (below_set h.2.2.2.1 h.2.2.2.2.2.1) h.2.2.2.2.2.1, h.2.2.2.2⟩
theorem grid_Stack.Inv.add (h : grid_Stack.Inv w W g2 g4 R C v xs) {v' : Value} {ys : List Int} (ho : Kd.R (Kd.int .i32) 21 W' w.heap.size (fun _ => True) v' ys) (hb : Below w.heap.size w W') (hg : W.grownBy W' v.ownBlock) : grid_Stack.Inv w (W'.setCell ⟨g4, 2, none⟩ v') g2 g4 R C v' ys := by
  have k4 := blk_grown h.2.1 hg (Kd.R_ne h.2.2.1 h.2.1 (by decide))
  have k2 := blk_grown h.1 hg (Kd.R_ne h.2.2.1 h.1 (by decide))
  exact ⟨set_other 2 _ k2 h.2.2.2.2.2.2, blk_put k4 2 _ rfl, Kd.R_mono (Kd.R_far (p := ⟨g4, 2, none⟩) (Kd.R_types ho k4 (by decide)) (fun _ hk => hk.2) _) (fun _ _ => trivial), below_set hb h.2.2.2.2.2.1, h.2.2.2.2⟩
end
theorem grid_Stack.keep6 {w W W' : World} {v : Value} {xs : List Int} {g6 : Nat} {o : Array Value} (ho : Kd.R (Kd.int .i32) 21 W w.heap.size (fun _ => True) v xs) (h6 : W.heap[g6]? = some (.cells o 24 (0, 0))) (hg : W.grownBy W' v.ownBlock) : W'.heap[g6]? = some (.cells o 24 (0, 0)) := blk_grown h6 hg (Kd.R_ne ho h6 (by decide))
def grid_Stack.St (t b : Bool) (i a1 C : Int) : Prop := (b = true ∧ (t = false ∨ (0 < i ∧ a1 ≠ C))) ∨ (b = false ∧ t = true ∧ ¬ (0 < i ∧ a1 ≠ C))
set_option maxHeartbeats 8000000 in
set_option maxRecDepth 100000 in
theorem grid_Stack.calls (k : Nat) (A0 : Option Addr) (c0 : Nat) (l0 : List S24) (r1 : Int) (r2 : Int) (r3 : List Int) (r4 : Int) (w : World) (hr0 : Kd.C k24 w A0 l0.length l0) (hc0 : l0.length ≤ c0) (h : grid_Stack.f k l0 = some (r1, r2, r3, r4)) :
    Calls Try.prog 24 #[.slice A0 l0.length c0] w fun e w' => ∃ v2_ : Value, e = .returned (.tuple #[.agg #[.int .i64 r1, .int .i64 r2, v2_], .int .i64 r4]) ∧ Kd.R (Kd.int .i32) 21 w' w.heap.size (fun _ => True) v2_ r3 ∧ Below w.heap.size w w' := by
  have hu24 := Try.underlying24
  have HRA := Aside0.mk hr0
  have HCA := Aside0.mk hc0
  clear hr0 hc0
  have HB := Aside0.mk (Below.refl w.heap.size w)
  unfold grid_Stack.f at h
  by_cases cc : l0.length < 4611686018427387904
  · rw [if_pos cc] at h
    have HLEN := Aside0.mk cc
    have HH := Aside0.mk h
    clear h cc
    go_enter Try.func24, Try.ntmps24
    go_upto_region 2 with (first | ((with_reducible refine gate_dst (N := 2) rfl ?_); refine box_event ?hg (N := 2) ?hd (cs := #[.int .i64 0, .int .i64 0, .slice none 0 0]) (t := 24) ?hr ?_; (case hd => rfl); (case hg => rfl); (case hr => first | (go_simp; done) | (go_simp; rfl)); intro g2 hg2 w2 hbox2 hb2; have HB2 := Aside0.mk (below_step HB.out hb2); have K22 := Aside0.mk hbox2; have E2 := Aside0.mk (Nat.le_of_eq hg2.symm); clear hg2 hbox2 hb2) | ((with_reducible refine gate_dst (N := 4) rfl ?_); refine box_event ?hg (N := 4) ?hd (cs := #[.int .i64 0, .int .i64 0, .slice none 0 0]) (t := 24) ?hr ?_; (case hd => rfl); (case hg => rfl); (case hr => first | (go_simp; done) | (go_simp; rfl)); intro g4 hg4 w3 hbox4 hb4; have I3 := Aside0.mk (show grid_Stack.Inv w w3 g2 g4 0 0 (.slice none 0 0) [] from ⟨blk_below K22.out hb4, hbox4, Kd.R_nil _ _ _ _ _, below_step HB2.out hb4, E2.out, by rw [hg4]; exact below_size HB2.out, by have := blk_lt K22.out; omega⟩); clear hg4 hbox4 hb4 HB2 K22 E2))
    go_wp2
    go_loopg [9] l0.length (fun m v9 W => ∃ (i R C : Int) (v : Value) (xs : List Int), v9 = .int .i64 i ∧ 0 ≤ i ∧ Aside0 (i + m = (l0.length : Int)) ∧ Aside0 (grid_Stack.go k l0 m i R C xs = some (r1, r2, r3, r4)) ∧ Aside0 (grid_Stack.Inv w W g2 g4 R C v xs))
    case atStart => exact ⟨0, 0, 0, _, [], rfl, by omega, ⟨by omega⟩, HH, I3⟩
    case round =>
      clear I3 HH
      obtain ⟨i, R, C, v, xs, rfl, hi0, HI, HX, IV⟩ := hrel
      obtain ⟨Av, cv, ev⟩ := Kd.R_slice IV.out.2.2.1
      subst ev
      obtain ⟨x2, y2, z2, k2, l2, m2⟩ := cell3 IV.out.1
      obtain ⟨x4, y4, z4, k4, l4, m4⟩ := cell3 IV.out.2.1
      cases gk with
      | zero =>
        have p1 : decide (i < (l0.length : Int)) = false := decide_eq_false (by have := HI.out; omega)
        have hx := HX.out
        simp only [grid_Stack.go, Option.some.injEq, Prod.mk.injEq] at hx
        obtain ⟨rfl, rfl, rfl, rfl⟩ := hx
        go_wp2
        refine bodyPost_ret (results_ct rfl _ _ g2 24 #[.int .i64 R, .int .i64 C, .slice Av xs.length cv] (0, 0) _ rfl (put3 IV.out.1) Try.underlying24 rfl (by kernel_rfl)) rfl ?_
        exact ⟨_, rfl, far3 IV.out.2.2.1 IV.out.1 (by decide), below3 IV.out.2.2.2.1 IV.out.2.2.2.2.1⟩
      | succ m =>
        have p1 : decide (i < (l0.length : Int)) = true := decide_eq_true (by have := HI.out; omega)
        have p2 : decide (0 ≤ i) = true := decide_eq_true hi0
        have p3 : (i < (l0.length : Int)) = True := eq_true (of_decide_eq_true p1)
        have p4 : (0 ≤ i) = True := eq_true hi0
        obtain ⟨ad, Ag, cg, eA, hx0, hx1, hx2, hlg, hcg⟩ := at_T24 HRA.out i hi0 (of_decide_eq_true p1)
        cases eA
        have HLG := Aside0.mk hlg
        have HCG := Aside0.mk hcg
        clear hlg hcg
        have hxs := HX.out
        clear HX
        unfold grid_Stack.go at hxs
        obtain ⟨t, h1, h2⟩ := Option.bind_eq_some_iff.1 hxs
        have H1 := Aside0.mk h1
        have HH := Aside0.mk h2
        clear hxs h1 h2
        obtain ⟨G, hG⟩ : ∃ G, rd_T24 l0 i = G := ⟨_, rfl⟩
        rw [hG] at hx0 hx1 hx2 HLG HCG H1 HH
        obtain ⟨a0, a1, lg⟩ := G
        simp only at hx0 hx1 hx2 HLG HCG H1 HH
        clear hG
        replace hx0 := (IV.out.2.2.2.1.cell (World.block_lt_of_cell? w _ hx0)).trans hx0
        replace hx1 := (IV.out.2.2.2.1.cell (World.block_lt_of_cell? w _ hx1)).trans hx1
        replace hx2 := (IV.out.2.2.2.1.cell (World.block_lt_of_cell? w _ hx2)).trans hx2
        go_upto_region 5 with (first | ((with_reducible refine gate_dst (N := 6) rfl ?_); refine box_event ?hg (N := 6) ?hd (cs := #[.int .i64 0, .int .i64 0, .slice none 0 0]) (t := 24) ?hr ?_; (case hd => rfl); (case hg => rfl); (case hr => first | (go_simp; done) | (go_simp; rfl)); intro g6 hg6 w5 hbox hb; have I5 := Aside0.mk (IV.out.below hb); have K6 := Aside0.mk hbox; have E6 := Aside0.mk (show w.heap.size ≤ g6 ∧ g2 ≠ g6 ∧ g4 ≠ g6 from ⟨by rw [hg6]; exact below_size IV.out.2.2.2.1, by have := blk_lt IV.out.1; omega, by have := blk_lt IV.out.2.1; omega⟩); clear hg6 hbox hb; obtain ⟨x6, y6, z6, k6, l6, m6⟩ := cell3 K6.out))
        have I6 := Aside0.mk (I5.out.box K6.out rfl E6.out.1 E6.out.2.1 E6.out.2.2 (.int .i64 a0) (.int .i64 a1) (.slice Ag lg.length cg))
        have K7 := Aside0.mk (put3 K6.out (u := .int .i64 a0) (v := .int .i64 a1) (x := .slice Ag lg.length cg))
        generalize hW : (((w5.setCell ⟨g6, 0, none⟩ (.int .i64 a0)).setCell ⟨g6, 1, none⟩ (.int .i64 a1)).setCell ⟨g6, 2, none⟩ (.slice Ag lg.length cg)) = W6 at *
        clear hW I5 K6 x2 y2 z2 k2 l2 m2 x4 y4 z4 k4 l4 m4 x6 y6 z6 k6 l6 m6 hx0 hx1 hx2 IV
        obtain ⟨x4, y4, z4, _, _, _⟩ := cell3 I6.out.2.1
        obtain ⟨x6, y6, z6, _, _, _⟩ := cell3 K7.out
        go_cut [28] (fun v28 wc => ∃ b : Bool, v28 = .bool b ∧ Aside0 (grid_Stack.St t b i a1 C) ∧ Aside0 (grid_Stack.Inv w wc g2 g4 R C (.slice Av xs.length cv) xs) ∧ Aside0 (wc.heap[g6]? = some (.cells #[.int .i64 a0, .int .i64 a1, .slice Ag lg.length cg] 24 (0, 0))))
        case first =>
          cases t with
          | false =>
            have HS := Aside0.mk (show grid_Stack.St false true i a1 C from .inl ⟨rfl, .inl rfl⟩)
            go_wp2_with (first | ((with_reducible refine gate_dst (N := 15) rfl ?_); refine Kd.N_lit k24 _ 24 ?hg (N' := 15) ?hd (xs := ([(⟨a0, a1, lg⟩ : S24)] : List S24)) (inner := [.int .i64 a0, .int .i64 a1, .slice Ag lg.length cg]) (ok := fun _ => True) (okp := fun _ => True) ?hr ?hp (fun _ hk => hk) trivial (Below.refl _ _) (Nat.le_refl _) (by simp) ?_; (case hd => rfl); (case hg => rfl); (case hr => first | (go_simp; done) | (go_simp; rfl)); (case hp => exact (Reps.c3 (fk24 (⟨a0, a1, lg⟩ : S24) HLG.out (Kd.C_below HCG.out I6.out.2.2.2.1)) (Reps.none _ _))); intro v7 w7 ho7 hb7 hg_ hnew_; clear hg_ hnew_; have I7 := Aside0.mk (I6.out.below hb7); have K8 := Aside0.mk (blk_below K7.out hb7); have HO7 := Aside0.mk ho7; clear ho7 hb7; obtain ⟨Ao7, co7, eo7⟩ := Kd.N_slice HO7.out; subst eo7) | (go_at_call 36; (refine (grid_fit.calls k _ _ [(⟨a0, a1, lg⟩ : S24)] _ _ ?side1 ?side2 H1.out).mono ?_); (case side1 => exact (Kd.N_reads' HO7.out).2.2); (case side2 => exact (Kd.N_reads' HO7.out).2.1); rintro e w8 ⟨rfl, hb8⟩; have I8 := Aside0.mk (I7.out.below hb8); have K9 := Aside0.mk (blk_below K8.out hb8); clear hb8; obtain ⟨t4, t5, t6, _, _, _⟩ := cell3 I8.out.2.1; obtain ⟨t7, t8, t9, _, _, _⟩ := cell3 K9.out))
            go_meet
            case rel => exact ⟨true, rfl, HS, I8, K9⟩
          | true =>
            by_cases c1 : 0 < i
            · have c1a : decide (0 < i) = true := decide_eq_true c1
              by_cases c2 : a1 = C
              · have c2a : (a1 != C) = false := by rw [c2]; simp
                have c2b : decide (a1 = C) = true := decide_eq_true c2
                have c2c : (a1 == C) = true := beq_iff_eq.2 c2
                have HS := Aside0.mk (show grid_Stack.St true false i a1 C from .inr ⟨rfl, rfl, fun h => h.2 c2⟩)
                clear c1 c2
                go_wp2_with (first | ((with_reducible refine gate_dst (N := 15) rfl ?_); refine Kd.N_lit k24 _ 24 ?hg (N' := 15) ?hd (xs := ([(⟨a0, a1, lg⟩ : S24)] : List S24)) (inner := [.int .i64 a0, .int .i64 a1, .slice Ag lg.length cg]) (ok := fun _ => True) (okp := fun _ => True) ?hr ?hp (fun _ hk => hk) trivial (Below.refl _ _) (Nat.le_refl _) (by simp) ?_; (case hd => rfl); (case hg => rfl); (case hr => first | (go_simp; done) | (go_simp; rfl)); (case hp => exact (Reps.c3 (fk24 (⟨a0, a1, lg⟩ : S24) HLG.out (Kd.C_below HCG.out I6.out.2.2.2.1)) (Reps.none _ _))); intro v7 w7 ho7 hb7 hg_ hnew_; clear hg_ hnew_; have I7 := Aside0.mk (I6.out.below hb7); have K8 := Aside0.mk (blk_below K7.out hb7); have HO7 := Aside0.mk ho7; clear ho7 hb7; obtain ⟨Ao7, co7, eo7⟩ := Kd.N_slice HO7.out; subst eo7) | (go_at_call 36; (refine (grid_fit.calls k _ _ [(⟨a0, a1, lg⟩ : S24)] _ _ ?side1 ?side2 H1.out).mono ?_); (case side1 => exact (Kd.N_reads' HO7.out).2.2); (case side2 => exact (Kd.N_reads' HO7.out).2.1); rintro e w8 ⟨rfl, hb8⟩; have I8 := Aside0.mk (I7.out.below hb8); have K9 := Aside0.mk (blk_below K8.out hb8); clear hb8; obtain ⟨t4, t5, t6, _, _, _⟩ := cell3 I8.out.2.1; obtain ⟨t7, t8, t9, _, _, _⟩ := cell3 K9.out))
                go_meet
                case rel => exact ⟨false, rfl, HS, I8, K9⟩
              · have c2a : (a1 != C) = true := bne_iff_ne.2 c2
                have c2b : decide (a1 = C) = false := decide_eq_false c2
                have c2c : (a1 == C) = false := beq_eq_false_iff_ne.2 c2
                have HS := Aside0.mk (show grid_Stack.St true true i a1 C from .inl ⟨rfl, .inr ⟨c1, c2⟩⟩)
                clear c1 c2
                go_wp2_with (first | ((with_reducible refine gate_dst (N := 15) rfl ?_); refine Kd.N_lit k24 _ 24 ?hg (N' := 15) ?hd (xs := ([(⟨a0, a1, lg⟩ : S24)] : List S24)) (inner := [.int .i64 a0, .int .i64 a1, .slice Ag lg.length cg]) (ok := fun _ => True) (okp := fun _ => True) ?hr ?hp (fun _ hk => hk) trivial (Below.refl _ _) (Nat.le_refl _) (by simp) ?_; (case hd => rfl); (case hg => rfl); (case hr => first | (go_simp; done) | (go_simp; rfl)); (case hp => exact (Reps.c3 (fk24 (⟨a0, a1, lg⟩ : S24) HLG.out (Kd.C_below HCG.out I6.out.2.2.2.1)) (Reps.none _ _))); intro v7 w7 ho7 hb7 hg_ hnew_; clear hg_ hnew_; have I7 := Aside0.mk (I6.out.below hb7); have K8 := Aside0.mk (blk_below K7.out hb7); have HO7 := Aside0.mk ho7; clear ho7 hb7; obtain ⟨Ao7, co7, eo7⟩ := Kd.N_slice HO7.out; subst eo7) | (go_at_call 36; (refine (grid_fit.calls k _ _ [(⟨a0, a1, lg⟩ : S24)] _ _ ?side1 ?side2 H1.out).mono ?_); (case side1 => exact (Kd.N_reads' HO7.out).2.2); (case side2 => exact (Kd.N_reads' HO7.out).2.1); rintro e w8 ⟨rfl, hb8⟩; have I8 := Aside0.mk (I7.out.below hb8); have K9 := Aside0.mk (blk_below K8.out hb8); clear hb8; obtain ⟨t4, t5, t6, _, _, _⟩ := cell3 I8.out.2.1; obtain ⟨t7, t8, t9, _, _, _⟩ := cell3 K9.out))
                go_meet
                case rel => exact ⟨true, rfl, HS, I8, K9⟩
            · have c1a : decide (0 < i) = false := decide_eq_false c1
              have HS := Aside0.mk (show grid_Stack.St true false i a1 C from .inr ⟨rfl, rfl, fun h => c1 h.1⟩)
              clear c1
              go_wp2_with (first | ((with_reducible refine gate_dst (N := 15) rfl ?_); refine Kd.N_lit k24 _ 24 ?hg (N' := 15) ?hd (xs := ([(⟨a0, a1, lg⟩ : S24)] : List S24)) (inner := [.int .i64 a0, .int .i64 a1, .slice Ag lg.length cg]) (ok := fun _ => True) (okp := fun _ => True) ?hr ?hp (fun _ hk => hk) trivial (Below.refl _ _) (Nat.le_refl _) (by simp) ?_; (case hd => rfl); (case hg => rfl); (case hr => first | (go_simp; done) | (go_simp; rfl)); (case hp => exact (Reps.c3 (fk24 (⟨a0, a1, lg⟩ : S24) HLG.out (Kd.C_below HCG.out I6.out.2.2.2.1)) (Reps.none _ _))); intro v7 w7 ho7 hb7 hg_ hnew_; clear hg_ hnew_; have I7 := Aside0.mk (I6.out.below hb7); have K8 := Aside0.mk (blk_below K7.out hb7); have HO7 := Aside0.mk ho7; clear ho7 hb7; obtain ⟨Ao7, co7, eo7⟩ := Kd.N_slice HO7.out; subst eo7) | (go_at_call 36; (refine (grid_fit.calls k _ _ [(⟨a0, a1, lg⟩ : S24)] _ _ ?side1 ?side2 H1.out).mono ?_); (case side1 => exact (Kd.N_reads' HO7.out).2.2); (case side2 => exact (Kd.N_reads' HO7.out).2.1); rintro e w8 ⟨rfl, hb8⟩; have I8 := Aside0.mk (I7.out.below hb8); have K9 := Aside0.mk (blk_below K8.out hb8); clear hb8; obtain ⟨t4, t5, t6, _, _, _⟩ := cell3 I8.out.2.1; obtain ⟨t7, t8, t9, _, _, _⟩ := cell3 K9.out))
              go_meet
              case rel => exact ⟨false, rfl, HS, I8, K9⟩
        case rest =>
          clear I6 K7 x4 y4 z4 x6 y6 z6
          obtain ⟨b, rfl, HBB, I6, K7⟩ := hcut
          have h := HH.out
          clear HH
          cases b with
          | true =>
            have h0 : some ((0 : Int), (0 : Int), ([] : List Int), (30 : Int)) = some (r1, r2, r3, r4) := by
              rcases HBB.out with hb | hb
              · rcases hb.2 with hq | hq
                · rw [hq, if_neg (by simp)] at h; exact h
                · rw [if_pos hq] at h
                  split at h <;> exact h
              · exact absurd hb.1 (by simp)
            clear h
            simp only [Option.some.injEq, Prod.mk.injEq] at h0
            obtain ⟨rfl, rfl, rfl, rfl⟩ := h0
            obtain ⟨x2, y2, z2, k2, l2, m2⟩ := cell3 I6.out.1
            go_wp2
            refine bodyPost_ret (results_ct rfl _ _ g2 24 #[.int .i64 0, .int .i64 0, .slice none 0 0] (0, 0) _ rfl (put3 I6.out.1) Try.underlying24 rfl (by kernel_rfl)) rfl ?_
            exact ⟨_, rfl, Kd.R_nil _ _ _ _ _, below3 I6.out.2.2.2.1 I6.out.2.2.2.2.1⟩
          | false =>
            have h0 : t = true ∧ ¬ (0 < i ∧ a1 ≠ C) := by
              rcases HBB.out with hb | hb
              · exact absurd hb.1 (by simp)
              · exact hb.2
            obtain ⟨rfl, h0⟩ := h0
            rw [if_pos rfl, if_neg h0] at h
            clear h0 HBB
            by_cases c5 : xs.length + lg.length < 35184372088832
            · rw [if_pos c5] at h
              have HLM := Aside0.mk c5
              clear c5
              obtain ⟨ys, hys⟩ : ∃ ys, ys = xs ++ lg := ⟨_, rfl⟩
              rw [← hys] at h
              have HYS := Aside0.mk hys
              clear hys
              obtain ⟨t2, h1, h2⟩ := Option.bind_eq_some_iff.1 h
              have H2 := Aside0.mk h1
              have HH := Aside0.mk h2
              clear h h1 h2
              go_upto_region 7 with (fail)
              have I7 := Aside0.mk I6.out.drew
              have K8 := Aside0.mk (k_d K7.out)
              clear I6 K7
              refine start_ (n := 11) (S := fun W_ => W_.cell? ⟨g6, 0, none⟩ = some (.int .i64 a0) ∧ W_.cell? ⟨g6, 1, none⟩ = some (.int .i64 a1)) (ds := []) #[false, false, false, false, false, false, false, false, false, false, false] (by kernel_rfl) rfl rfl ⟨(cell3 K8.out).1, (cell3 K8.out).2.1⟩ (fun hHeld => ?_); refine with_tabW grid_Stack.tab7 grid_Stack.bits7 (fun HT_ HW_ => ?_)
              generalize wc.drew = w7 at I7 K8 hHeld ⊢
              refine pure_ (i := 0) (N := some 30) (v := ?_) (a' := ?_) #[true, false, false, false, false, false, false, false, false, false, false] rfl rfl (any_of HT_.out (by kernel_rfl)) (fun _ _ _ h => h) (Or.inl ⟨by rfl, ?_⟩) ?_ ?_
              rotate_left
              ·
                intro w'
                go_simp
                with_reducible rfl
              rotate_left
              ·
                simp only [Act.put, l_1, l_2, l_3, i64_w, i32_w]
                rfl
              refine pure_ (i := 2) (N := some 32) (v := ?_) (a' := ?_) #[true, false, true, false, false, false, false, false, false, false, false] rfl rfl (any_of HT_.out (by kernel_rfl)) (fun _ _ _ h => h) (Or.inl ⟨by rfl, ?_⟩) ?_ ?_
              rotate_left
              ·
                intro w'
                go_simp
                with_reducible rfl
              rotate_left
              ·
                simp only [Act.put, l_1, l_2, l_3, i64_w, i32_w]
                rfl
              refine pure_ (i := 5) (N := some 35) (v := ?_) (a' := ?_) #[true, false, true, false, false, true, false, false, false, false, false] rfl rfl (any_of HT_.out (by kernel_rfl)) (fun _ _ _ h => h) (Or.inl ⟨by rfl, ?_⟩) ?_ ?_
              rotate_left
              ·
                intro w'
                go_simp
                with_reducible rfl
              rotate_left
              ·
                simp only [Act.put, l_1, l_2, l_3, i64_w, i32_w]
                rfl
              refine take_ (i := 3) (N := some 33) (v := ?_) (a' := ?_) #[true, false, true, true, false, true, false, false, false, false, false] rfl rfl (take_ofW HT_.out HW_.out (by kernel_rfl)) (fun _ _ _ h => h) (Or.inl ⟨by rfl, ?_⟩) hHeld ?_ ?_
              rotate_left
              ·
                rintro w' ⟨s0, s1⟩
                go_simp
                with_reducible rfl
              rotate_left
              ·
                simp only [Act.put, l_1, l_2, l_3, i64_w, i32_w]
                rfl
              refine take_ (i := 6) (N := some 36) (v := ?_) (a' := ?_) #[true, false, true, true, false, true, true, false, false, false, false] rfl rfl (take_ofW HT_.out HW_.out (by kernel_rfl)) (fun _ _ _ h => h) (Or.inl ⟨by rfl, ?_⟩) hHeld ?_ ?_
              rotate_left
              ·
                rintro w' ⟨s0, s1⟩
                go_simp
                with_reducible rfl
              rotate_left
              ·
                simp only [Act.put, l_1, l_2, l_3, i64_w, i32_w]
                rfl
              refine one_ (i := 1) (N := some 31) #[true, true, true, true, false, true, true, false, false, false, false] rfl rfl (one_of HT_.out (by kernel_rfl)) (by decide) (fun K hK => ?_)
              obtain ⟨x4, y4, z4, k4, l4, m4⟩ := cell3 I7.out.2.1
              refine value_ (v := .int .i64 R) (w1 := w7) (by rfl) rfl ?_ ?_
              · go_simp
              refine hK.out _ _ hHeld (fun hHeld => ?_)
              clear hK K
              refine norm_ (a' := ?_) ?_ ?_
              rotate_left
              ·
                show Act.put _ (some 31) _ = _
                simp only [Act.put, l_1, l_2, l_3, i64_w, i32_w]
                rfl
              refine pure_ (i := 4) (N := some 34) (v := ?_) (a' := ?_) #[true, true, true, true, true, true, true, false, false, false, false] rfl rfl (any_of HT_.out (by kernel_rfl)) (fun _ _ _ h => h) (Or.inl ⟨by rfl, ?_⟩) ?_ ?_
              rotate_left
              ·
                intro w'
                go_simp
                with_reducible rfl
              rotate_left
              ·
                simp only [Act.put, l_1, l_2, l_3, i64_w, i32_w]
                rfl
              refine pure_ (i := 7) (N := some 37) (v := ?_) (a' := ?_) #[true, true, true, true, true, true, true, true, false, false, false] rfl rfl (any_of HT_.out (by kernel_rfl)) (fun _ _ _ h => h) (Or.inl ⟨by rfl, ?_⟩) ?_ ?_
              rotate_left
              ·
                intro w'
                go_simp
                with_reducible rfl
              rotate_left
              ·
                simp only [Act.put, l_1, l_2, l_3, i64_w, i32_w]
                rfl
              refine one_ (i := 8) (N := none) #[true, true, true, true, true, true, true, true, true, false, false] rfl rfl (one_of HT_.out (by kernel_rfl)) (by decide) (fun K hK => ?_)
              refine skip_ (w1 := ?_) (by rfl) rfl ?_ ?_
              rotate_left
              ·
                go_simp
                rfl
              have KA := Aside0.mk (set_other 0 (.int .i64 (wrap64 (R + a0))) K8.out (fun h => E6.out.2.2 h.symm))
              have KB := Aside0.mk (blk_put (cs' := #[.int .i64 (wrap64 (R + a0)), .int .i64 C, .slice Av xs.length cv]) I7.out.2.1 0 (.int .i64 (wrap64 (R + a0))) rfl)
              have I9 := Aside0.mk (I7.out.two (wrap64 (R + a0)) a1)
              generalize hW8 : w7.setCell ⟨g4, 0, none⟩ (.int .i64 (wrap64 (R + a0))) = W8 at *
              clear hW8
              refine hK.out _ _ ⟨(cell3 KA.out).1, (cell3 KA.out).2.1⟩ (fun hHeld => ?_)
              clear hK K
              refine pure_ (i := 9) (N := some 38) (v := ?_) (a' := ?_) #[true, true, true, true, true, true, true, true, true, true, false] rfl rfl (any_of HT_.out (by kernel_rfl)) (fun _ _ _ h => h) (Or.inl ⟨by rfl, ?_⟩) ?_ ?_
              rotate_left
              ·
                intro w'
                go_simp
                with_reducible rfl
              rotate_left
              ·
                simp only [Act.put, l_1, l_2, l_3, i64_w, i32_w]
                rfl
              refine one_ (i := 10) (N := none) #[true, true, true, true, true, true, true, true, true, true, true] rfl rfl (one_of HT_.out (by kernel_rfl)) (by decide) (fun K hK => ?_)
              clear x4 y4 z4 k4 l4 m4
              obtain ⟨x4, y4, z4, k4, l4, m4⟩ := cell3 KB.out
              refine skip_ (w1 := ?_) (by rfl) rfl ?_ ?_
              rotate_left
              ·
                go_simp
                rfl
              have K9 := Aside0.mk (set_other 1 (.int .i64 a1) KA.out (fun h => E6.out.2.2 h.symm))
              generalize hW9 : W8.setCell ⟨g4, 1, none⟩ (.int .i64 a1) = W9 at *
              clear hW9
              refine hK.out _ _ ⟨(cell3 K9.out).1, (cell3 K9.out).2.1⟩ (fun hHeld => ?_)
              clear hK K
              refine done_ (done_of HT_.out (by kernel_rfl)) ?_
              clear x4 y4 z4 k4 l4 m4 KA KB
              clear HT_ HW_ hHeld I7 K8
              obtain ⟨x4, y4, z4, k4, l4, m4⟩ := cell3 I9.out.2.1
              obtain ⟨x6, y6, z6, _, _, _⟩ := cell3 K9.out
              go_upto_region 9 with (first | ((with_reducible refine gate_builtin (b := .append) (xs := #[.tmp 40, .tmp 42]) rfl ?_); at_builtin; refine Kd.R_append_rows (Kd.int .i32) (w0 := w) w.heap.size rfl (.tmp 40) (.tmp 42) 22 21 (.int .i32 0) 4 rfl Try.underlying22 info21 rfl (by decide) (by omega) (.slice Av xs.length cv) xs lg _ _ _ (fun _ => True) (fun _ => False) rfl rfl ?aO ?aR (fun _ _ h => h) (fun _ h => h.elim) ?aF ?aB ?aS ?aL ?_; (case aR => exact Kd.C_below HCG.out I9.out.2.2.2.1); (case aB => exact I9.out.2.2.2.1); (case aF => exact fun _ _ => trivial); (case aO => exact I9.out.2.2.1); (case aS => exact I9.out.2.2.2.1.size); (case aL => have := HLM.out; omega); intro v3 w10 ho hb hg hat; rw [← HYS.out] at ho; obtain ⟨A3, c3, e3⟩ := Kd.R_slice ho; subst e3; have I10 := Aside0.mk (I9.out.add ho hb hg); have K10 := Aside0.mk (grid_Stack.keep6 I9.out.2.2.1 K9.out hg); have KG4 := Aside0.mk (grid_Stack.keep6 I9.out.2.2.1 I9.out.2.1 hg); have N46 := Aside0.mk (show g4 ≠ g6 from E6.out.2.2); clear hat hg hb ho; obtain ⟨s4, s5, s6, s7, s8, s9⟩ := cell3 KG4.out))
              have K11 := Aside0.mk (set_other 2 (.slice A3 ys.length c3) K10.out (fun h => N46.out h.symm))
              generalize hW : w10.setCell ⟨g4, 2, none⟩ (.slice A3 ys.length c3) = W11 at *
              clear hW x4 y4 z4 k4 l4 m4 x6 y6 z6 s4 s5 s6 s7 s8 s9 I9 K9 KG4 K10
              obtain ⟨x4, y4, z4, k4, l4, m4⟩ := cell3 I10.out.2.1
              have h := HH.out
              clear HH
              cases t2 with
              | false =>
                simp only [Bool.false_eq_true, if_false, Option.some.injEq, Prod.mk.injEq] at h
                obtain ⟨rfl, rfl, rfl, rfl⟩ := h
                go_wp2_with (first | ((with_reducible refine gate_dst (N := 46) rfl ?_); refine Kd.N_lit k24 _ 24 ?hg (N' := 46) ?hd (xs := ([(⟨wrap64 (R + a0), a1, ys⟩ : S24)] : List S24)) (inner := [.int .i64 (wrap64 (R + a0)), .int .i64 a1, .slice A3 ys.length c3]) (ok := fun _ => True) (okp := fun _ => True) ?hr ?hp (fun _ hk => hk) trivial (Below.refl _ _) (Nat.le_refl _) (by simp) ?_; (case hd => rfl); (case hg => rfl); (case hr => first | (go_simp; done) | (go_simp; rfl)); (case hp => exact (Reps.c3 (fk24 (⟨wrap64 (R + a0), a1, ys⟩ : S24) (Kd.R_reads' I10.out.2.2.1).2.1 (Kd.R_reads' I10.out.2.2.1).2.2) (Reps.none _ _))); intro v12 w12 ho12 hb12 hg_ hnew_; clear hg_ hnew_; have I12 := Aside0.mk (I10.out.below hb12); have HO12 := Aside0.mk ho12; clear ho12 hb12; obtain ⟨Ao12, co12, eo12⟩ := Kd.N_slice HO12.out; subst eo12) | (go_at_call 36; (refine (grid_fit.calls k _ _ [(⟨wrap64 (R + a0), a1, ys⟩ : S24)] _ _ ?side1 ?side2 H2.out).mono ?_); (case side1 => exact (Kd.N_reads' HO12.out).2.2); (case side2 => exact (Kd.N_reads' HO12.out).2.1); rintro e w13 ⟨rfl, hb13⟩; have I13 := Aside0.mk (I12.out.below hb13); clear hb13; obtain ⟨x2, y2, z2, k2, l2, m2⟩ := cell3 I13.out.1))
                refine bodyPost_ret (results_ct rfl _ _ g2 24 #[.int .i64 0, .int .i64 0, .slice none 0 0] (0, 0) _ rfl (put3 I13.out.1) Try.underlying24 rfl (by kernel_rfl)) rfl ?_
                exact ⟨_, rfl, Kd.R_nil _ _ _ _ _, below3 I13.out.2.2.2.1 I13.out.2.2.2.2.1⟩
              | true =>
                rw [if_pos rfl] at h
                have HNX := Aside0.mk h
                clear h
                have hw : IntKind.i64.wrap (i + 1) = i + 1 := by rw [i64_w]; have := HI.out; have := HLEN.out; unfold wrap64; omega
                go_wp2_with (first | ((with_reducible refine gate_dst (N := 46) rfl ?_); refine Kd.N_lit k24 _ 24 ?hg (N' := 46) ?hd (xs := ([(⟨wrap64 (R + a0), a1, ys⟩ : S24)] : List S24)) (inner := [.int .i64 (wrap64 (R + a0)), .int .i64 a1, .slice A3 ys.length c3]) (ok := fun _ => True) (okp := fun _ => True) ?hr ?hp (fun _ hk => hk) trivial (Below.refl _ _) (Nat.le_refl _) (by simp) ?_; (case hd => rfl); (case hg => rfl); (case hr => first | (go_simp; done) | (go_simp; rfl)); (case hp => exact (Reps.c3 (fk24 (⟨wrap64 (R + a0), a1, ys⟩ : S24) (Kd.R_reads' I10.out.2.2.1).2.1 (Kd.R_reads' I10.out.2.2.1).2.2) (Reps.none _ _))); intro v12 w12 ho12 hb12 hg_ hnew_; clear hg_ hnew_; have I12 := Aside0.mk (I10.out.below hb12); have HO12 := Aside0.mk ho12; clear ho12 hb12; obtain ⟨Ao12, co12, eo12⟩ := Kd.N_slice HO12.out; subst eo12) | (go_at_call 36; (refine (grid_fit.calls k _ _ [(⟨wrap64 (R + a0), a1, ys⟩ : S24)] _ _ ?side1 ?side2 H2.out).mono ?_); (case side1 => exact (Kd.N_reads' HO12.out).2.2); (case side2 => exact (Kd.N_reads' HO12.out).2.1); rintro e w13 ⟨rfl, hb13⟩; have I13 := Aside0.mk (I12.out.below hb13); clear hb13; obtain ⟨x2, y2, z2, k2, l2, m2⟩ := cell3 I13.out.1))
                go_roundg m
                case measure => omega
                case rel => exact ⟨i + 1, wrap64 (R + a0), a1, _, ys, by first | rfl | rw [hw], by omega, ⟨by have := HI.out; omega⟩, HNX, I13⟩
            · rw [if_neg c5] at h; cases h
  · rw [if_neg cc] at h; cases h
/-! ### pelotonref03_Same: function 26 -/
mutual
def pelotonref03_Same.j0 : Nat → Bool → Int → Int → List Int → Int → Int → List Int → Option (Bool)
 | 0, _, _, _, _, _, _, _ => none
 | k + 1, x26, x122000, x122001, x122002, x123000, x123001, x123002 => if x26 = true then (some false) else (pelotonref03_Same.l0 k 0 x122000 x122001 x122002 x123000 x123001 x123002)
def pelotonref03_Same.l0 : Nat → Int → Int → Int → List Int → Int → Int → List Int → Option (Bool)
 | 0, _, _, _, _, _, _, _ => none
 | k + 1, x5, x122000, x122001, x122002, x123000, x123001, x123002 => if x5 < (x122002.length : Int) then (if 0 ≤ x5 then (if x5 < (x123002.length : Int) then (if (rd x122002 x5) = (rd x123002 x5) then (pelotonref03_Same.l0 k (wrap64 (x5 + 1)) x122000 x122001 x122002 x123000 x123001 x123002) else (some false)) else (none)) else (none)) else (some true)
end
def pelotonref03_Same.f (k : Nat) (a0_0 : Int) (a0_1 : Int) (l0_2 : List Int) (a1_0 : Int) (a1_1 : Int) (l1_2 : List Int) : Option (Bool) := if a0_0 = a1_0 then (if a0_1 = a1_1 then (pelotonref03_Same.j0 k ((l0_2.length : Int) != (l1_2.length : Int)) a0_0 a0_1 l0_2 a1_0 a1_1 l1_2) else (pelotonref03_Same.j0 k true a0_0 a0_1 l0_2 a1_0 a1_1 l1_2)) else (pelotonref03_Same.j0 k true a0_0 a0_1 l0_2 a1_0 a1_1 l1_2)
theorem pelotonref03_Same.mono_l : ∀ k, (∀ y0 y1 y2 y3 y4 y5 y6, LeO (pelotonref03_Same.j0 k y0 y1 y2 y3 y4 y5 y6) (pelotonref03_Same.j0 (k + 1) y0 y1 y2 y3 y4 y5 y6)) ∧ (∀ y0 y1 y2 y3 y4 y5 y6, LeO (pelotonref03_Same.l0 k y0 y1 y2 y3 y4 y5 y6) (pelotonref03_Same.l0 (k + 1) y0 y1 y2 y3 y4 y5 y6))
 | 0 => ⟨fun _ _ _ _ _ _ _ r h => by simp [pelotonref03_Same.j0] at h, fun _ _ _ _ _ _ _ r h => by simp [pelotonref03_Same.l0] at h⟩
 | k + 1 => by
  obtain ⟨ih0, ih1⟩ := pelotonref03_Same.mono_l k
  refine ⟨?_, ?_⟩
  ·
   intro y0 y1 y2 y3 y4 y5 y6
   unfold pelotonref03_Same.j0
   repeat' first
   | (with_reducible exact ih0 _ _ _ _ _ _ _)
   | (with_reducible exact ih1 _ _ _ _ _ _ _)
   | (with_reducible exact LeO.refl _)
   | (with_reducible exact LeO.none _)
   | (with_reducible refine LeO.ite ?_ ?_)
   | (with_reducible refine LeO.bind ?_ (fun _ => ?_))
   | exact ih0 _ _ _ _ _ _ _
   | exact ih1 _ _ _ _ _ _ _
   | exact LeO.none _
   | refine LeO.ite ?_ ?_
   | refine LeO.bind ?_ (fun _ => ?_)
  ·
   intro y0 y1 y2 y3 y4 y5 y6
   unfold pelotonref03_Same.l0
   repeat' first
   | (with_reducible exact ih0 _ _ _ _ _ _ _)
   | (with_reducible exact ih1 _ _ _ _ _ _ _)
   | (with_reducible exact LeO.refl _)
   | (with_reducible exact LeO.none _)
   | (with_reducible refine LeO.ite ?_ ?_)
   | (with_reducible refine LeO.bind ?_ (fun _ => ?_))
   | exact ih0 _ _ _ _ _ _ _
   | exact ih1 _ _ _ _ _ _ _
   | exact LeO.none _
   | refine LeO.ite ?_ ?_
   | refine LeO.bind ?_ (fun _ => ?_)
theorem pelotonref03_Same.mono : ∀ a0 a1 a2 a3 a4 a5 k, LeO (pelotonref03_Same.f k a0 a1 a2 a3 a4 a5) (pelotonref03_Same.f (k + 1) a0 a1 a2 a3 a4 a5) := by
 intro a0 a1 a2 a3 a4 a5 k
 obtain ⟨ih0, ih1⟩ := pelotonref03_Same.mono_l k
 unfold pelotonref03_Same.f
 repeat' first
   | (with_reducible exact ih0 _ _ _ _ _ _ _)
   | (with_reducible exact ih1 _ _ _ _ _ _ _)
   | (with_reducible exact LeO.refl _)
   | (with_reducible exact LeO.none _)
   | (with_reducible refine LeO.ite ?_ ?_)
   | (with_reducible refine LeO.bind ?_ (fun _ => ?_))
   | exact ih0 _ _ _ _ _ _ _
   | exact ih1 _ _ _ _ _ _ _
   | exact LeO.none _
   | refine LeO.ite ?_ ?_
   | refine LeO.bind ?_ (fun _ => ?_)
set_option maxHeartbeats 60000000 in
set_option maxRecDepth 100000 in
theorem pelotonref03_Same.calls (k : Nat) (a0_0 : Int) (a0_1 : Int) (A0_2 : Option Addr) (c0_2 : Nat) (l0_2 : List Int) (a1_0 : Int) (a1_1 : Int) (A1_2 : Option Addr) (c1_2 : Nat) (l1_2 : List Int) (r : Bool) (w : World) (hr0_2 : Kd.C (Kd.int .i32) w A0_2 l0_2.length l0_2) (hc0_2 : l0_2.length ≤ c0_2) (hr1_2 : Kd.C (Kd.int .i32) w A1_2 l1_2.length l1_2) (hc1_2 : l1_2.length ≤ c1_2) (h : pelotonref03_Same.f k a0_0 a0_1 l0_2 a1_0 a1_1 l1_2 = some r) :
  Calls Try.prog 26 #[.agg #[.int .i64 a0_0, .int .i64 a0_1, .slice A0_2 l0_2.length c0_2], .agg #[.int .i64 a1_0, .int .i64 a1_1, .slice A1_2 l1_2.length c1_2]] w fun e w' => e = .returned (.bool r) ∧ Below w.heap.size w w' := by
 have hu24 := Try.underlying24
 have HR0_2 := Aside0.mk hr0_2
 have HC0_2 := Aside0.mk hc0_2
 clear hr0_2 hc0_2
 have HR1_2 := Aside0.mk hr1_2
 have HC1_2 := Aside0.mk hc1_2
 clear hr1_2 hc1_2
 have HB := Aside0.mk (Below.refl w.heap.size w)
 have H : (if a0_0 = a1_0 then (if a0_1 = a1_1 then (pelotonref03_Same.j0 k ((l0_2.length : Int) != (l1_2.length : Int)) a0_0 a0_1 l0_2 a1_0 a1_1 l1_2) else (pelotonref03_Same.j0 k true a0_0 a0_1 l0_2 a1_0 a1_1 l1_2)) else (pelotonref03_Same.j0 k true a0_0 a0_1 l0_2 a1_0 a1_1 l1_2)) = some r := h
 clear h
 have HC3 := Aside0.mk H
 clear H
 go_enter Try.func26, Try.ntmps26
 go_upto_region 1 with (first | ((with_reducible refine gate_dst (N := 2) rfl ?_); (try (refine gate_guard (by rfl) ?_; dsimp only)); refine box_event ?hg (N := 2) ?hd (cs := #[.int .i64 a0_0, .int .i64 a0_1, .slice A0_2 l0_2.length c0_2]) (t := 24) ?hr ?_; (case hd => rfl); (case hg => rfl); (case hr => first | (go_simp; done) | (go_simp; rfl)); intro gb121 hg w4 hbox hb; have BK121 := Aside0.mk (hbox); have GW121 := Aside0.mk ((by rw [hg]; exact (below_size (bw_ HB)) : w.heap.size ≤ gb121)); have GE121 := Aside0.mk ((by rw [hg]; exact (below_size (bw_ HB)) : w.heap.size ≤ gb121)); replace HB := Aside0.mk (below_step (bw_ HB) hb); clear hb hbox hg) | ((with_reducible refine gate_dst (N := 3) rfl ?_); (try (refine gate_guard (by rfl) ?_; dsimp only)); refine box_event ?hg (N := 3) ?hd (cs := #[.int .i64 a1_0, .int .i64 a1_1, .slice A1_2 l1_2.length c1_2]) (t := 24) ?hr ?_; (case hd => rfl); (case hg => rfl); (case hr => first | (go_simp; done) | (go_simp; rfl)); intro gb122 hg w5 hbox hb; have BK122 := Aside0.mk (hbox); have GW122 := Aside0.mk ((by rw [hg]; exact (below_size (bw_ HB)) : w.heap.size ≤ gb122)); have GE122 := Aside0.mk ((by rw [hg]; exact (below_size (bw_ HB)) : w.heap.size ≤ gb122)); have NB121_122 := Aside0.mk ((by rw [hg]; exact Nat.ne_of_lt (blk_lt (tk_ BK121)) : gb121 ≠ gb122)); have NB122_121 := Aside0.mk ((by rw [hg]; exact Nat.ne_of_gt (blk_lt (tk_ BK121)) : gb122 ≠ gb121)); replace BK121 := Aside0.mk (blk_below (tk_ BK121) hb); replace HB := Aside0.mk (below_step (bw_ HB) hb); clear hb hbox hg))
 repeat (go_quiet (first | ((with_reducible refine gate_dst (N := 2) rfl ?_); (try (refine gate_guard (by rfl) ?_; dsimp only)); refine box_event ?hg (N := 2) ?hd (cs := #[.int .i64 a0_0, .int .i64 a0_1, .slice A0_2 l0_2.length c0_2]) (t := 24) ?hr ?_; (case hd => rfl); (case hg => rfl); (case hr => first | (go_simp; done) | (go_simp; rfl)); intro gb121 hg w4 hbox hb; have BK121 := Aside0.mk (hbox); have GW121 := Aside0.mk ((by rw [hg]; exact (below_size (bw_ HB)) : w.heap.size ≤ gb121)); have GE121 := Aside0.mk ((by rw [hg]; exact (below_size (bw_ HB)) : w.heap.size ≤ gb121)); replace HB := Aside0.mk (below_step (bw_ HB) hb); clear hb hbox hg) | ((with_reducible refine gate_dst (N := 3) rfl ?_); (try (refine gate_guard (by rfl) ?_; dsimp only)); refine box_event ?hg (N := 3) ?hd (cs := #[.int .i64 a1_0, .int .i64 a1_1, .slice A1_2 l1_2.length c1_2]) (t := 24) ?hr ?_; (case hd => rfl); (case hg => rfl); (case hr => first | (go_simp; done) | (go_simp; rfl)); intro gb122 hg w5 hbox hb; have BK122 := Aside0.mk (hbox); have GW122 := Aside0.mk ((by rw [hg]; exact (below_size (bw_ HB)) : w.heap.size ≤ gb122)); have GE122 := Aside0.mk ((by rw [hg]; exact (below_size (bw_ HB)) : w.heap.size ≤ gb122)); have NB121_122 := Aside0.mk ((by rw [hg]; exact Nat.ne_of_lt (blk_lt (tk_ BK121)) : gb121 ≠ gb122)); have NB122_121 := Aside0.mk ((by rw [hg]; exact Nat.ne_of_gt (blk_lt (tk_ BK121)) : gb122 ≠ gb121)); replace BK121 := Aside0.mk (blk_below (tk_ BK121) hb); replace HB := Aside0.mk (below_step (bw_ HB) hb); clear hb hbox hg)); go_upto_region 1 with (first | ((with_reducible refine gate_dst (N := 2) rfl ?_); (try (refine gate_guard (by rfl) ?_; dsimp only)); refine box_event ?hg (N := 2) ?hd (cs := #[.int .i64 a0_0, .int .i64 a0_1, .slice A0_2 l0_2.length c0_2]) (t := 24) ?hr ?_; (case hd => rfl); (case hg => rfl); (case hr => first | (go_simp; done) | (go_simp; rfl)); intro gb121 hg w4 hbox hb; have BK121 := Aside0.mk (hbox); have GW121 := Aside0.mk ((by rw [hg]; exact (below_size (bw_ HB)) : w.heap.size ≤ gb121)); have GE121 := Aside0.mk ((by rw [hg]; exact (below_size (bw_ HB)) : w.heap.size ≤ gb121)); replace HB := Aside0.mk (below_step (bw_ HB) hb); clear hb hbox hg) | ((with_reducible refine gate_dst (N := 3) rfl ?_); (try (refine gate_guard (by rfl) ?_; dsimp only)); refine box_event ?hg (N := 3) ?hd (cs := #[.int .i64 a1_0, .int .i64 a1_1, .slice A1_2 l1_2.length c1_2]) (t := 24) ?hr ?_; (case hd => rfl); (case hg => rfl); (case hr => first | (go_simp; done) | (go_simp; rfl)); intro gb122 hg w5 hbox hb; have BK122 := Aside0.mk (hbox); have GW122 := Aside0.mk ((by rw [hg]; exact (below_size (bw_ HB)) : w.heap.size ≤ gb122)); have GE122 := Aside0.mk ((by rw [hg]; exact (below_size (bw_ HB)) : w.heap.size ≤ gb122)); have NB121_122 := Aside0.mk ((by rw [hg]; exact Nat.ne_of_lt (blk_lt (tk_ BK121)) : gb121 ≠ gb122)); have NB122_121 := Aside0.mk ((by rw [hg]; exact Nat.ne_of_gt (blk_lt (tk_ BK121)) : gb122 ≠ gb121)); replace BK121 := Aside0.mk (blk_below (tk_ BK121) hb); replace HB := Aside0.mk (below_step (bw_ HB) hb); clear hb hbox hg)))
 (try simp only [Act.put, l_1, l_2, l_3])
 go_cut [26] (fun v26 wc => ∃ (kq : Nat) (x26_2 : Bool), v26 = .bool x26_2 ∧ Aside0 (pelotonref03_Same.j0 kq x26_2 a0_0 a0_1 l0_2 a1_0 a1_1 l1_2 = some r) ∧ Aside0 (kq ≤ k) ∧ Aside0 (wc.heap[gb121]? = some (.cells #[.int .i64 a0_0, .int .i64 a0_1, (.slice A0_2 l0_2.length c0_2)] 24 (0, 0))) ∧ Aside0 (wc.heap[gb122]? = some (.cells #[.int .i64 a1_0, .int .i64 a1_1, (.slice A1_2 l1_2.length c1_2)] 24 (0, 0))) ∧ Aside0 (Below w.heap.size w wc))
 case first =>
  have H := HC3.out
  clear HC3
  by_cases c6 : a0_0 = a1_0
  rotate_left
  ·
   rw [if_neg c6] at H
   have c6b0 : (a0_0 == a1_0) = false := beq_eq_false_iff_ne.mpr c6
   have c6b1 : (a0_0 != a1_0) = true := bne_iff_ne.mpr c6
   (first | rw [c6b0] | (simp only [i64_w, i32_w]; rw [c6b0]) | skip)
   have H' := Aside0.mk H
   clear H
   have hnb14 := NB121_122.out
   have hnc14 := NB122_121.out
   have hcz15_0 := bc_0 BK121
   have hcz15_1 := bc_1 BK121
   have hcz15_2 := bc_2 BK121
   have hfz15_0 := blk_frozen BK121.out 0
   have hfz15_1 := blk_frozen BK121.out 1
   have hfz15_2 := blk_frozen BK121.out 2
   have hcz16_0 := bc_0 BK122
   have hcz16_1 := bc_1 BK122
   have hcz16_2 := bc_2 BK122
   have hfz16_0 := blk_frozen BK122.out 0
   have hfz16_1 := blk_frozen BK122.out 1
   have hfz16_2 := blk_frozen BK122.out 2
   go_wp2
   repeat (go_quiet (fail); try go_wp2)
   go_meet
   case rel => exact ⟨_, (true), (by first | rfl | (simp; done) | (simp [*]; done)), H', ⟨by first | omega | exact Nat.le_refl _⟩, ⟨tk_ BK121⟩, ⟨tk_ BK122⟩, ⟨by repeat (first | (with_reducible first | exact HB.out | apply b_a | apply b_n | apply b_d | refine b_s ?_ GE121.out | refine b_s ?_ GE122.out) | exact HB.out)⟩⟩
  rw [if_pos c6] at H
  have c6b0 : (a0_0 == a1_0) = true := beq_iff_eq.mpr c6
  have c6b1 : (a0_0 != a1_0) = false := bne_eq_false_iff_eq.mpr c6
  clear c6
  (first | rw [c6b0] | (simp only [i64_w, i32_w]; rw [c6b0]) | skip)
  by_cases c7 : a0_1 = a1_1
  rotate_left
  ·
   rw [if_neg c7] at H
   have c7b0 : (a0_1 == a1_1) = false := beq_eq_false_iff_ne.mpr c7
   have c7b1 : (a0_1 != a1_1) = true := bne_iff_ne.mpr c7
   have H' := Aside0.mk H
   clear H
   have hnb11 := NB121_122.out
   have hnc11 := NB122_121.out
   have hcz12_0 := bc_0 BK121
   have hcz12_1 := bc_1 BK121
   have hcz12_2 := bc_2 BK121
   have hfz12_0 := blk_frozen BK121.out 0
   have hfz12_1 := blk_frozen BK121.out 1
   have hfz12_2 := blk_frozen BK121.out 2
   have hcz13_0 := bc_0 BK122
   have hcz13_1 := bc_1 BK122
   have hcz13_2 := bc_2 BK122
   have hfz13_0 := blk_frozen BK122.out 0
   have hfz13_1 := blk_frozen BK122.out 1
   have hfz13_2 := blk_frozen BK122.out 2
   go_wp2
   repeat (go_quiet (fail); try go_wp2)
   go_meet
   case rel => exact ⟨_, (true), (by first | rfl | (simp; done) | (simp [*]; done)), H', ⟨by first | omega | exact Nat.le_refl _⟩, ⟨tk_ BK121⟩, ⟨tk_ BK122⟩, ⟨by repeat (first | (with_reducible first | exact HB.out | apply b_a | apply b_n | apply b_d | refine b_s ?_ GE121.out | refine b_s ?_ GE122.out) | exact HB.out)⟩⟩
  rw [if_pos c7] at H
  have c7b0 : (a0_1 == a1_1) = true := beq_iff_eq.mpr c7
  have c7b1 : (a0_1 != a1_1) = false := bne_eq_false_iff_eq.mpr c7
  clear c7
  have H' := Aside0.mk H
  clear H
  have hnb8 := NB121_122.out
  have hnc8 := NB122_121.out
  have hcz9_0 := bc_0 BK121
  have hcz9_1 := bc_1 BK121
  have hcz9_2 := bc_2 BK121
  have hfz9_0 := blk_frozen BK121.out 0
  have hfz9_1 := blk_frozen BK121.out 1
  have hfz9_2 := blk_frozen BK121.out 2
  have hcz10_0 := bc_0 BK122
  have hcz10_1 := bc_1 BK122
  have hcz10_2 := bc_2 BK122
  have hfz10_0 := blk_frozen BK122.out 0
  have hfz10_1 := blk_frozen BK122.out 1
  have hfz10_2 := blk_frozen BK122.out 2
  go_wp2
  repeat (go_quiet (fail); try go_wp2)
  go_meet
  case rel => exact ⟨_, (((l0_2.length : Int) != (l1_2.length : Int))), (by first | rfl | (simp; done) | (simp [*]; done)), H', ⟨by first | omega | exact Nat.le_refl _⟩, ⟨tk_ BK121⟩, ⟨tk_ BK122⟩, ⟨by repeat (first | (with_reducible first | exact HB.out | apply b_a | apply b_n | apply b_d | refine b_s ?_ GE121.out | refine b_s ?_ GE122.out) | exact HB.out)⟩⟩
 case rest => as_aux_lemma =>
  clear HC3
  try clear c1
  try clear c2
  try clear p2
  try clear c6
  try clear c6b0
  try clear c6b1
  try clear c7
  try clear c7b0
  try clear c7b1
  try clear c8
  try clear c11
  try clear c14
  try clear hcz10_0
  try clear hcz10_1
  try clear hcz10_2
  try clear hcz12_0
  try clear hcz12_1
  try clear hcz12_2
  try clear hcz13_0
  try clear hcz13_1
  try clear hcz13_2
  try clear hcz15_0
  try clear hcz15_1
  try clear hcz15_2
  try clear hcz16_0
  try clear hcz16_1
  try clear hcz16_2
  try clear hcz9_0
  try clear hcz9_1
  try clear hcz9_2
  try clear hfz10_0
  try clear hfz10_1
  try clear hfz10_2
  try clear hfz12_0
  try clear hfz12_1
  try clear hfz12_2
  try clear hfz13_0
  try clear hfz13_1
  try clear hfz13_2
  try clear hfz15_0
  try clear hfz15_1
  try clear hfz15_2
  try clear hfz16_0
  try clear hfz16_1
  try clear hfz16_2
  try clear hfz9_0
  try clear hfz9_1
  try clear hfz9_2
  obtain ⟨kq, x26_2, rfl, HA, HJ2, BK121, BK122, HB⟩ := hcut
  cases kq with
  | zero => exact absurd HA.out (by simp [pelotonref03_Same.j0])
  | succ kj2 =>
   have H := HA.out
   clear HA
   simp only [pelotonref03_Same.j0] at H
   by_cases c17 : x26_2 = true
   ·
    subst c17
    have H1 : (some false) = some r := by rw [if_pos rfl] at H; exact H
    clear H
    have H := H1
    clear H1
    obtain rfl := Option.some.inj H
    go_wp2
    repeat (go_quiet (fail); try go_wp2)
    go_ret
    exact ⟨by first | rfl | (simp [errW_none, errW_some] <;> rfl) | (simp [*, errW_none, errW_some] <;> rfl), by repeat (first | (with_reducible first | exact HB.out | apply b_a | apply b_n | apply b_d | refine b_s ?_ GE121.out | refine b_s ?_ GE122.out) | exact HB.out)⟩
   replace c17 := Bool.eq_false_iff.mpr c17
   subst c17
   have H1 : (pelotonref03_Same.l0 kj2 0 a0_0 a0_1 l0_2 a1_0 a1_1 l1_2) = some r := by rw [if_neg (show ¬ (false = true) by decide)] at H; exact H
   clear H
   have H := H1
   clear H1
   have H' := Aside0.mk H
   clear H
   go_wp2
   repeat (go_quiet (fail); try go_wp2)
   go_loopg [5] kj2 (fun kq v5 w' => ∃ (x5_2 : Int), v5 = .int .i64 x5_2 ∧ Aside0 (pelotonref03_Same.l0 kq x5_2 a0_0 a0_1 l0_2 a1_0 a1_1 l1_2 = some r) ∧ Aside0 (kq ≤ kj2) ∧ Aside0 (w'.heap[gb121]? = some (.cells #[.int .i64 a0_0, .int .i64 a0_1, (.slice A0_2 l0_2.length c0_2)] 24 (0, 0))) ∧ Aside0 (w'.heap[gb122]? = some (.cells #[.int .i64 a1_0, .int .i64 a1_1, (.slice A1_2 l1_2.length c1_2)] 24 (0, 0))) ∧ Aside0 (Below w.heap.size w w'))
   case atStart => exact ⟨(0), (by first | rfl | (simp; done) | (simp [*]; done)), H', ⟨Nat.le_refl _⟩, ⟨tk_ BK121⟩, ⟨tk_ BK122⟩, ⟨by repeat (first | (with_reducible first | exact HB.out | apply b_a | apply b_n | apply b_d | refine b_s ?_ GE121.out | refine b_s ?_ GE122.out) | exact HB.out)⟩⟩
   case round =>
    clear H'
    try clear c1
    try clear c2
    try clear p2
    try clear c6
    try clear c6b0
    try clear c6b1
    try clear c7
    try clear c7b0
    try clear c7b1
    try clear c8
    try clear c11
    try clear c14
    try clear c17
    try clear hcz10_0
    try clear hcz10_1
    try clear hcz10_2
    try clear hcz12_0
    try clear hcz12_1
    try clear hcz12_2
    try clear hcz13_0
    try clear hcz13_1
    try clear hcz13_2
    try clear hcz15_0
    try clear hcz15_1
    try clear hcz15_2
    try clear hcz16_0
    try clear hcz16_1
    try clear hcz16_2
    try clear hcz9_0
    try clear hcz9_1
    try clear hcz9_2
    try clear hfz10_0
    try clear hfz10_1
    try clear hfz10_2
    try clear hfz12_0
    try clear hfz12_1
    try clear hfz12_2
    try clear hfz13_0
    try clear hfz13_1
    try clear hfz13_2
    try clear hfz15_0
    try clear hfz15_1
    try clear hfz15_2
    try clear hfz16_0
    try clear hfz16_1
    try clear hfz16_2
    try clear hfz9_0
    try clear hfz9_1
    try clear hfz9_2
    try clear p2
    obtain ⟨x5_2, rfl, HA, HK2, BK121, BK122, HB⟩ := hrel
    cases gk with
    | zero => exact absurd HA.out (by simp [pelotonref03_Same.l0])
    | succ k2 =>
     have H := HA.out
     clear HA
     simp only [pelotonref03_Same.l0] at H
     by_cases c18 : x5_2 < (l0_2.length : Int)
     rotate_left
     ·
      rw [if_neg c18] at H
      have c18b0 : decide (x5_2 < (l0_2.length : Int)) = false := decide_eq_false c18
      clear c18
      obtain rfl := Option.some.inj H
      have hnb28 := NB121_122.out
      have hnc28 := NB122_121.out
      have hcz29_0 := bc_0 BK121
      have hcz29_1 := bc_1 BK121
      have hcz29_2 := bc_2 BK121
      have hfz29_0 := blk_frozen BK121.out 0
      have hfz29_1 := blk_frozen BK121.out 1
      have hfz29_2 := blk_frozen BK121.out 2
      go_wp2
      repeat (go_quiet (fail); try go_wp2)
      go_ret
      exact ⟨by first | rfl | (simp [errW_none, errW_some] <;> rfl) | (simp [*, errW_none, errW_some] <;> rfl), by repeat (first | (with_reducible first | exact HB.out | apply b_a | apply b_n | apply b_d | refine b_s ?_ GE121.out | refine b_s ?_ GE122.out) | exact HB.out)⟩

     rw [if_pos c18] at H
     have c18b0 : decide (x5_2 < (l0_2.length : Int)) = true := decide_eq_true c18
     clear c18
     by_cases c19 : 0 ≤ x5_2
     rotate_left
     ·
      rw [if_neg c19] at H
      exact absurd H (by simp)
     rw [if_pos c19] at H
     have c19b0 : decide (0 ≤ x5_2) = true := decide_eq_true c19
     clear c19
     by_cases c20 : x5_2 < (l1_2.length : Int)
     rotate_left
     ·
      rw [if_neg c20] at H
      exact absurd H (by simp)
     rw [if_pos c20] at H
     have c20b0 : decide (x5_2 < (l1_2.length : Int)) = true := decide_eq_true c20
     clear c20
     by_cases c21 : (rd l0_2 x5_2) = (rd l1_2 x5_2)
     rotate_left
     ·
      rw [if_neg c21] at H
      have c21b0 : ((rd l0_2 x5_2) == (rd l1_2 x5_2)) = false := beq_eq_false_iff_ne.mpr c21
      have c21b1 : ((rd l0_2 x5_2) != (rd l1_2 x5_2)) = true := bne_iff_ne.mpr c21
      obtain rfl := Option.some.inj H
      have hnb25 := NB121_122.out
      have hnc25 := NB122_121.out
      have hcz26_0 := bc_0 BK121
      have hcz26_1 := bc_1 BK121
      have hcz26_2 := bc_2 BK121
      have hfz26_0 := blk_frozen BK121.out 0
      have hfz26_1 := blk_frozen BK121.out 1
      have hfz26_2 := blk_frozen BK121.out 2
      have p123 : 0 ≤ (x5_2 : Int) := of_decide_eq_true (by first | (with_reducible assumption) | assumption)
      have q123 : x5_2 < (l0_2.length : Int) := of_decide_eq_true (by first | (with_reducible assumption) | assumption)
      obtain ⟨ad123, e123, hx123_0⟩ := Kd.at_int HR0_2.out x5_2 p123 q123
      cases e123
      replace hx123_0 := cb_ HB hx123_0
      replace p123 := eq_true p123
      replace q123 := eq_true q123
      have hcz27_0 := bc_0 BK122
      have hcz27_1 := bc_1 BK122
      have hcz27_2 := bc_2 BK122
      have hfz27_0 := blk_frozen BK122.out 0
      have hfz27_1 := blk_frozen BK122.out 1
      have hfz27_2 := blk_frozen BK122.out 2
      have p124 : 0 ≤ (x5_2 : Int) := of_decide_eq_true (by first | (with_reducible assumption) | assumption)
      have q124 : x5_2 < (l1_2.length : Int) := of_decide_eq_true (by first | (with_reducible assumption) | assumption)
      obtain ⟨ad124, e124, hx124_0⟩ := Kd.at_int HR1_2.out x5_2 p124 q124
      cases e124
      replace hx124_0 := cb_ HB hx124_0
      replace p124 := eq_true p124
      replace q124 := eq_true q124
      go_wp2
      repeat (go_quiet (fail); try go_wp2)
      go_ret
      exact ⟨by first | rfl | (simp [errW_none, errW_some] <;> rfl) | (simp [*, errW_none, errW_some] <;> rfl), by repeat (first | (with_reducible first | exact HB.out | apply b_a | apply b_n | apply b_d | refine b_s ?_ GE121.out | refine b_s ?_ GE122.out) | exact HB.out)⟩
     rw [if_pos c21] at H
     have c21b0 : ((rd l0_2 x5_2) == (rd l1_2 x5_2)) = true := beq_iff_eq.mpr c21
     have c21b1 : ((rd l0_2 x5_2) != (rd l1_2 x5_2)) = false := bne_eq_false_iff_eq.mpr c21
     clear c21
     have H' := Aside0.mk H
     clear H
     have hnb22 := NB121_122.out
     have hnc22 := NB122_121.out
     have hcz23_0 := bc_0 BK121
     have hcz23_1 := bc_1 BK121
     have hcz23_2 := bc_2 BK121
     have hfz23_0 := blk_frozen BK121.out 0
     have hfz23_1 := blk_frozen BK121.out 1
     have hfz23_2 := blk_frozen BK121.out 2
     have p123 : 0 ≤ (x5_2 : Int) := of_decide_eq_true (by first | (with_reducible assumption) | assumption)
     have q123 : x5_2 < (l0_2.length : Int) := of_decide_eq_true (by first | (with_reducible assumption) | assumption)
     obtain ⟨ad123, e123, hx123_0⟩ := Kd.at_int HR0_2.out x5_2 p123 q123
     cases e123
     replace hx123_0 := cb_ HB hx123_0
     replace p123 := eq_true p123
     replace q123 := eq_true q123
     have hcz24_0 := bc_0 BK122
     have hcz24_1 := bc_1 BK122
     have hcz24_2 := bc_2 BK122
     have hfz24_0 := blk_frozen BK122.out 0
     have hfz24_1 := blk_frozen BK122.out 1
     have hfz24_2 := blk_frozen BK122.out 2
     have p124 : 0 ≤ (x5_2 : Int) := of_decide_eq_true (by first | (with_reducible assumption) | assumption)
     have q124 : x5_2 < (l1_2.length : Int) := of_decide_eq_true (by first | (with_reducible assumption) | assumption)
     obtain ⟨ad124, e124, hx124_0⟩ := Kd.at_int HR1_2.out x5_2 p124 q124
     cases e124
     replace hx124_0 := cb_ HB hx124_0
     replace p124 := eq_true p124
     replace q124 := eq_true q124
     go_wp2
     repeat (go_quiet (fail); try go_wp2)
     go_roundg k2
     case measure => have := HJ2.out; have := HK2.out; omega
     case rel => exact ⟨(wrap64 (x5_2 + 1)), (by first | rfl | (simp; done) | (simp [*]; done)), H', ⟨by have := HJ2.out; have := HK2.out; omega⟩, ⟨tk_ BK121⟩, ⟨tk_ BK122⟩, ⟨by repeat (first | (with_reducible first | exact HB.out | apply b_a | apply b_n | apply b_d | refine b_s ?_ GE121.out | refine b_s ?_ GE122.out) | exact HB.out)⟩⟩
end Go.Proofs.Ytggcgacndknlaaa.QGridParts
