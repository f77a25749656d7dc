-- Written by a program of this session (a turned copy of the print) out of the translation. Lean checks it.
import Derived.Test.YtnkphgiodpledaaQMsgBackx0
namespace Go.Proofs.Ytnkphgiodpledaa.QMsgBack
open Go.RowKit Go.Proofs.YtnkphgiodpledaaW.PrintWords Go.Proofs.YtnkphgiodpledaaW.PrintLast Go.Proofs.YtnkphgiodpledaaW.PrintMore
attribute [local go_sem] max2_int min2_int max_two min_two max_three min_three max_four min_four   -- for this text's walks alone
open Go.Proofs.YtnkphgiodpledaaW.PrintWords renaming below_alloc → b_a, pw_below_drewN → b_n, below_drew1 → b_d, below_set → b_s, blk_drewN → k_n, blk_drew → k_d, blk_alloc → k_a
open List renaming setIfInBounds_toArray → l_1, set_cons_zero → l_2, set_cons_succ → l_3, map_toArray → l_4, map_cons → l_5, map_nil → l_6, length_drop → l_7, length_take → l_8
set_option linter.unusedVariables false
set_option linter.unusedSimpArgs false

-- NOT PRINTED: function 23 (msg_of)

-- NOT PRINTED: function 24 (msg_nums)

/-! ### msg_wrong: function 22, by hand -/
open Go.Maps in
def msg_of.el (b : Int) (l : Bool) : DataW Unit := .agg [.lit (.int .u8 b), .lit (.bool l)]
def msg_of.R (v : Value) : Option (DataW Unit × List MemPlace) :=
  match v with
  | .agg cs => (match cs.toList with
    | [.int .u8 a, .bool b] => some (msg_of.el a b, [])
    | _ => none)
  | _ => none
theorem msg_of.R_mk (a : Int) (b : Bool) : msg_of.R (.agg #[.int .u8 a, .bool b]) = some (msg_of.el a b, []) := rfl
theorem msg_of.R_inv {v : Value} {a : Int} {b : Bool} {ps : List MemPlace} (h : msg_of.R v = some (msg_of.el a b, ps)) : v = .agg #[.int .u8 a, .bool b] := by
  unfold msg_of.R at h
  split at h
  · split at h
    · rename_i cs a' b' hc
      simp only [Option.some.injEq, Prod.mk.injEq, msg_of.el, DataW.agg.injEq, List.cons.injEq, DataW.lit.injEq, Lit.int.injEq, Lit.bool.injEq] at h
      obtain ⟨⟨⟨_, rfl⟩, rfl, _⟩, _⟩ := h
      congr 1
      exact Array.toList_inj.1 hc
    · cases h
  · cases h
theorem msg_of.u3 : Try.prog.underlying 3 = some (.int .i64) := by kernel_rfl
theorem msg_of.u70 : Try.prog.underlying 70 = some (.map 3 46) := by kernel_rfl
theorem msg_of.law : Maps.Keyed Try.prog 3 := Maps.int_keyed msg_of.u3
theorem msg_of.zero (w : World) : (zeroValue 46).run Try.prog w = .ok (.agg #[.int .u8 0, .bool false]) w := by kernel_rfl
theorem msg_of.key {x : Int} (h : (Lit.int .i64 x).wf = true) : keyOf Try.prog 3 (.int .i64 x) = some (.int .i64 x) := Maps.keyOf_int_mk msg_of.u3 h
/-- the map's state: T tells what it has -/
def msg_of.Tb (T : Int → Option (Int × Bool)) (D : DataW Unit) : Prop :=
  Maps.Tidy D ∧ ∀ x : Int, (Lit.int .i64 x).wf = true → Maps.has D (.int .i64 x) = (T x).isSome ∧ ∀ z, D.atKey (.int .i64 x) z = match T x with | some e => msg_of.el e.1 e.2 | none => z
theorem msg_of.Tb.zero : msg_of.Tb (fun _ => none) (.map []) := ⟨Maps.tidy_empty, fun _ _ => ⟨rfl, fun _ => rfl⟩⟩
theorem msg_of.Tb.put {T : Int → Option (Int × Bool)} {D : DataW Unit} (H : msg_of.Tb T D) {k : Int} (hk : (Lit.int .i64 k).wf = true) (b : Int) (l : Bool) : msg_of.Tb (fun x => if x = k then some (b, l) else T x) (D.put (.int .i64 k) (msg_of.el b l)) := by
  have hkl : WideAt.IsKeyLit (.int .i64 k) := msg_of.law.key (msg_of.key hk)
  refine ⟨H.1.put hkl _, fun x hx => ?_⟩
  by_cases he : x = k
  · subst he
    simp only [if_true]
    exact ⟨Maps.has_put_same H.1.isMap hkl _, fun z => Maps.atKey_put_same H.1.isMap hkl _ _⟩
  · simp only [if_neg he]
    have hne : Lit.int .i64 x ≠ Lit.int .i64 k := fun h => he (by injection h)
    exact ⟨by rw [Maps.has_put_other hne]; exact (H.2 x hx).1, fun z => by rw [Maps.atKey_put_other hne]; exact (H.2 x hx).2 z⟩
/-- the state: the map's block, and the answer's -/
def msg_of.Mp (w W : World) (g2 gm : Nat) (m : Nat) (T : Int → Option (Int × Bool)) : Prop :=
  ∃ n D, W.ownsMap Try.prog 3 msg_of.R gm n D ∧ n ≤ m ∧ msg_of.Tb T D ∧ Below w.heap.size w W ∧ w.heap.size ≤ gm ∧ w.heap.size ≤ g2 ∧ W.heap[g2]? = some (.cells #[.int .u8 0, .bool false] 46 (0, 0))
theorem msg_of.Mp.ins {w W : World} {g2 gm m : Nat} {T : Int → Option (Int × Bool)} (H : msg_of.Mp w W g2 gm m T) (hm : m ≤ 1000) (k b : Int) (l : Bool) (hk : (Lit.int .i64 k).wf = true) :
    ∃ W', (Instr.mapUpdate 70 (.map (some gm)) (.int .i64 k) (.agg #[.int .u8 b, .bool l])).run Try.prog W = .ok () W' ∧ msg_of.Mp w W' g2 gm (m + 1) (fun x => if x = k then some (b, l) else T x) := by
  obtain ⟨n, D, h1, h2, h3, h4, h5, h6, h7⟩ := H
  obtain ⟨W', r1, r2, r3⟩ := h1.update msg_of.law msg_of.u70 (by unfold maxLen; omega) (msg_of.key hk) (msg_of.R_mk b l)
  have hne : some g2 ≠ some gm := by
    intro e
    injection e with e
    obtain ⟨es, cl, hb, _⟩ := h1
    rw [e, hb] at h7; cases h7
  exact ⟨W', r1, n + 1, _, r2, by omega, h3.put hk b l, h4.grown r3 h4.size (fun j hj => by cases hj; exact h5), h5, h6, (r3.block g2 (blk_lt h7) hne).trans h7⟩
theorem msg_of.made {w W : World} {g2 : Nat} (hb : Below w.heap.size w W) (hg : w.heap.size ≤ g2) (h2 : W.heap[g2]? = some (.cells #[.int .u8 0, .bool false] 46 (0, 0))) : msg_of.Mp w (W.alloc (.map #[] 0)) g2 W.heap.size 0 (fun _ => none) :=
  ⟨0, .map [], World.ownsMap_made _ _ _ _, Nat.le_refl _, msg_of.Tb.zero, below_alloc hb _, hb.size, hg, old_alloc W _ g2 (blk_lt h2) h2⟩
theorem msg_of.ins {W : World} {ops : Array Oper} {rest : List Oper} {o : Oper} {a : Act} {Q : Exit → Act → World → Prop} (hg : o.guard = none) (m x v : Operand) (hop : o.op = Op.insert 70 m x v) {gm : Nat} (k b : Int) (l : Bool) (hm : a.eval m = .map (some gm)) (hx : a.eval x = .int .i64 k) (hv : a.eval v = .agg #[.int .u8 b, .bool l]) {w : World} {g2 c : Nat} {T : Int → Option (Int × Bool)}
    (H : msg_of.Mp w W g2 gm c T) (hc : c ≤ 1000) (hk : (Lit.int .i64 k).wf = true) (hK : ∀ W', msg_of.Mp w W' g2 gm (c + 1) (fun x => if x = k then some (b, l) else T x) → wpList Try.prog ops Q rest (a.put o.dst undef) W') : wpList Try.prog ops Q (o :: rest) a W := by
  refine wpList_plain hg fun K' hK' => ?_
  obtain ⟨W', r1, r2⟩ := H.ins hc k b l hk
  unfold Oper.wp
  simp [execOp, hop, hm, hx, hv, r1, Result.andThen]
  exact hK' _ _ (hK W' r2)
def msg_of.T : Int → Option (Int × Bool) := fun x => if x = 13 then some (6, false) else if x = 12 then some (70, false) else if x = 11 then some (66, false) else if x = 10 then some (2, false) else if x = 9 then some (66, true) else if x = 8 then some (35, false) else if x = 7 then some (49, false) else if x = 6 then some (1, false) else if x = 5 then some (49, false) else if x = 4 then some (71, false) else if x = 3 then some (63, true) else if x = 2 then some (15, true) else if x = 1 then some (71, false) else none
def msg_of.bits (k : Int) : Int := match msg_of.T k with | some e => e.1 | none => 0
def msg_of.lst (k : Int) : Bool := match msg_of.T k with | some e => e.2 | none => false
def msg_of.ok (k : Int) : Bool := (msg_of.T k).isSome
theorem msg_of.look {w W : World} {g2 gm m : Nat} (H : msg_of.Mp w W g2 gm m msg_of.T) (k : Int) (hk : (Lit.int .i64 k).wf = true) :
    (Instr.lookup 70 (.map (some gm)) (.int .i64 k) true).run Try.prog W = .ok (.tuple #[.agg #[.int .u8 (msg_of.bits k), .bool (msg_of.lst k)], .bool (msg_of.ok k)]) W := by
  obtain ⟨n, D, h1, h2, h3, _⟩ := H
  obtain ⟨v, ps, hr, hv⟩ := h1.look_ok msg_of.law msg_of.u70 (msg_of.zero W) (msg_of.R_mk 0 false) (msg_of.key hk)
  rw [(h3.2 k hk).1] at hr
  rw [(h3.2 k hk).2] at hv
  rw [hr]
  unfold msg_of.bits msg_of.lst msg_of.ok
  cases hT : msg_of.T k with
  | none => rw [hT] at hv; rw [msg_of.R_inv hv]
  | some e => rw [hT] at hv; rw [msg_of.R_inv hv]
theorem msg_of.cell2 {w : World} {g t : Nat} {u v : Value} (h : w.heap[g]? = some (.cells #[u, v] t (0, 0))) : w.cell? ⟨g, 0, none⟩ = some u ∧ w.cell? ⟨g, 1, none⟩ = some v ∧ w.frozen? ⟨g, 0, none⟩ = false ∧ w.frozen? ⟨g, 1, none⟩ = false :=
  ⟨(blk_cell h 0).trans rfl, (blk_cell h 1).trans rfl, blk_frozen h 0, blk_frozen h 1⟩
theorem msg_of.put2 {w : World} {g t : Nat} {a b u v : Value} (h : w.heap[g]? = some (.cells #[a, b] t (0, 0))) : ((w.setCell ⟨g, 0, none⟩ u).setCell ⟨g, 1, none⟩ v).heap[g]? = some (.cells #[u, v] t (0, 0)) :=
  blk_put (cs := #[u, b]) (blk_put h 0 u rfl) 1 v rfl
theorem msg_of.below2 {w W : World} {g : Nat} {u v : Value} (h : Below w.heap.size w W) (hg : w.heap.size ≤ g) : Below w.heap.size w ((W.setCell ⟨g, 0, none⟩ u).setCell ⟨g, 1, none⟩ v) := below_set (below_set h hg) hg
theorem msg_of.far2 {w : World} {g h t : Nat} {cs : Array Value} {u v : Value} (hne : g ≠ h) (hg : w.heap[g]? = some (.cells cs t (0, 0))) : ((w.setCell ⟨h, 0, none⟩ u).setCell ⟨h, 1, none⟩ v).heap[g]? = some (.cells cs t (0, 0)) :=
  (Below.heap_setCell _ _ _ _ hne).trans ((Below.heap_setCell _ _ _ _ hne).trans hg)
set_option maxHeartbeats 8000000 in
set_option maxRecDepth 100000 in
theorem msg_of.good (k : Int) (w : World) (hk : (Lit.int .i64 k).wf = true) :
    Calls Try.prog 23 #[.int .i64 k] w fun e w' => e = .returned (.tuple #[.agg #[.int .u8 (msg_of.bits k), .bool (msg_of.lst k)], .bool (msg_of.ok k)]) ∧ Below w.heap.size w w' := by
  have hu46 := Try.underlying46
  have HK := Aside0.mk hk
  clear hk
  have hmm := @run_makeMap Try.prog
  go_enter Try.func23, Try.ntmps23
  go_upto_region 1 with (first | ((with_reducible refine gate_dst (N := 2) rfl ?_); refine box_event ?hg (N := 2) ?hd (cs := #[.int .u8 0, .bool false]) (t := 46) ?hr ?_; (case hd => rfl); (case hg => rfl); (case hr => first | (go_simp; done) | (go_simp; rfl)); intro g2 hg_ wb hbox hbb; have HB := Aside0.mk hbb; have K2 := Aside0.mk hbox; have G2 := Aside0.mk hg_; clear hg_ hbox hbb))
  have HM := Aside0.mk (msg_of.made HB.out (by rw [← G2.out]; exact Nat.le_refl _) K2.out)
  clear HB K2
  go_upto_region 2 with (first | (refine msg_of.ins rfl _ _ _ rfl _ _ _ rfl rfl rfl HM.out (by decide) (by decide) ?_; intro W1 HM1; replace HM := Aside0.mk HM1; clear HM1))
  replace HM := Aside0.mk (show msg_of.Mp w W1 g2 wb.heap.size 13 msg_of.T from HM.out)
  have hlk := msg_of.look HM.out k HK.out
  obtain ⟨_, _, _, _, _, hB, _, hg2, hk2⟩ := HM.out
  have HB := Aside0.mk hB
  have G2 := Aside0.mk hg2
  have K2 := Aside0.mk hk2
  obtain ⟨x1, x2, x3, x4⟩ := msg_of.cell2 hk2
  clear hB hg2 hk2
  go_upto_region 3 with (first | ((with_reducible refine gate_dst (N := 5) rfl ?_); refine box_event ?hg (N := 5) ?hd (cs := #[.int .u8 0, .bool false]) (t := 46) ?hr ?_; (case hd => rfl); (case hg => rfl); (case hr => first | (go_simp; done) | (go_simp; rfl)); intro g5 hg_ wb5 hbox hbb; have HB5 := Aside0.mk (msg_of.below2 (u := .int .u8 (msg_of.bits k)) (v := .bool (msg_of.lst k)) (below_step HB.out hbb) (Nat.le_trans HB.out.size (Nat.le_of_eq hg_.symm))); replace K2 := Aside0.mk (msg_of.far2 (u := .int .u8 (msg_of.bits k)) (v := .bool (msg_of.lst k)) (show g2 ≠ g5 from by have := blk_lt K2.out; omega) (blk_below K2.out hbb)); replace HB := HB5; clear HB5; have K5 := Aside0.mk (msg_of.put2 (u := .int .u8 (msg_of.bits k)) (v := .bool (msg_of.lst k)) hbox); obtain ⟨b1, b2, b3, b4⟩ := msg_of.cell2 hbox; clear hg_ hbox hbb))
  generalize hW_ : ((wb5.setCell ⟨g5, 0, none⟩ (.int .u8 (msg_of.bits k))).setCell ⟨g5, 1, none⟩ (.bool (msg_of.lst k))) = W5 at *
  clear hW_ b1 b2 b3 b4 x1 x2 x3 x4 hlk HM
  obtain ⟨x1, x2, x3, x4⟩ := msg_of.cell2 K2.out
  obtain ⟨y1, y2, y3, y4⟩ := msg_of.cell2 K5.out
  go_wp2
  refine bodyPost_ret (results_ct rfl _ _ g2 46 #[.int .u8 (msg_of.bits k), .bool (msg_of.lst k)] (0, 0) _ rfl (msg_of.put2 K2.out) Try.underlying46 rfl (by kernel_rfl)) rfl ?_
  exact ⟨rfl, msg_of.below2 HB.out G2.out⟩
def msg_nums.T1 : Bool × List (List Nat × List Nat) := (true, [([], []), ([0], [0]), ([1], [1]), ([], []), ([3], [3]), ([4], [4]), ([], []), ([6], [6]), ([7], [7]), ([], []), ([9], [9]), ([10], [10]), ([], []), ([12], [12]), ([13], [13]), ([], []), ([15], [15]), ([16], [16]), ([], []), ([18], [18]), ([19], [19]), ([2, 5, 8, 11, 14, 17, 20], [2, 5, 8, 11, 14, 17, 20]), ([21, 0, 1, 2, 3, 4, 5, 6, 7, 8, 9, 10, 11, 12, 13, 14, 15, 16, 17, 18, 19, 20, 21], [21])])
def msg_nums.B1 : List Nat := [0, 1, 3, 0, 8, 24, 0, 64, 192, 0, 512, 1536, 0, 4096, 12288, 0, 32768, 98304, 0, 262144, 786432, 2097151, 4194303]
theorem msg_nums.tab1 : rtab .any (opsOf Try.f24 1) = msg_nums.T1 := by kernel_rfl
theorem msg_nums.bits1 : waitsOk msg_nums.T1.2 msg_nums.B1 = true := by kernel_rfl
theorem msg_nums.put7 {w : World} {g t : Nat} {a1 a2 a3 a4 a5 a6 a7 b1 b2 b3 b4 b5 b6 b7 : Value} (h : w.heap[g]? = some (.cells #[a1, a2, a3, a4, a5, a6, a7] t (0, 0))) : (((((((w.setCell ⟨g, 0, none⟩ b1).setCell ⟨g, 1, none⟩ b2).setCell ⟨g, 2, none⟩ b3).setCell ⟨g, 3, none⟩ b4).setCell ⟨g, 4, none⟩ b5).setCell ⟨g, 5, none⟩ b6).setCell ⟨g, 6, none⟩ b7).heap[g]? = some (.cells #[b1, b2, b3, b4, b5, b6, b7] t (0, 0)) :=
  blk_put (cs := #[b1, b2, b3, b4, b5, b6, a7]) (blk_put (cs := #[b1, b2, b3, b4, b5, a6, a7]) (blk_put (cs := #[b1, b2, b3, b4, a5, a6, a7]) (blk_put (cs := #[b1, b2, b3, a4, a5, a6, a7]) (blk_put (cs := #[b1, b2, a3, a4, a5, a6, a7]) (blk_put (cs := #[b1, a2, a3, a4, a5, a6, a7]) (blk_put h 0 b1 rfl) 1 b2 rfl) 2 b3 rfl) 3 b4 rfl) 4 b5 rfl) 5 b6 rfl) 6 b7 rfl
theorem msg_nums.below7 {w W : World} {g : Nat} {b1 b2 b3 b4 b5 b6 b7 : Value} (h : Below w.heap.size w W) (hg : w.heap.size ≤ g) : Below w.heap.size w (((((((W.setCell ⟨g, 0, none⟩ b1).setCell ⟨g, 1, none⟩ b2).setCell ⟨g, 2, none⟩ b3).setCell ⟨g, 3, none⟩ b4).setCell ⟨g, 4, none⟩ b5).setCell ⟨g, 5, none⟩ b6).setCell ⟨g, 6, none⟩ b7) :=
  below_set (below_set (below_set (below_set (below_set (below_set (below_set h hg) hg) hg) hg) hg) hg) hg
theorem msg_nums.cell7 {w : World} {g t : Nat} {a1 a2 a3 a4 a5 a6 a7 : Value} (h : w.heap[g]? = some (.cells #[a1, a2, a3, a4, a5, a6, a7] t (0, 0))) : w.cell? ⟨g, 0, none⟩ = some a1 ∧ w.cell? ⟨g, 1, none⟩ = some a2 ∧ w.cell? ⟨g, 2, none⟩ = some a3 ∧ w.cell? ⟨g, 3, none⟩ = some a4 ∧ w.cell? ⟨g, 4, none⟩ = some a5 ∧ w.cell? ⟨g, 5, none⟩ = some a6 ∧ w.cell? ⟨g, 6, none⟩ = some a7 :=
  ⟨(blk_cell h 0).trans rfl, (blk_cell h 1).trans rfl, (blk_cell h 2).trans rfl, (blk_cell h 3).trans rfl, (blk_cell h 4).trans rfl, (blk_cell h 5).trans rfl, (blk_cell h 6).trans rfl⟩
theorem msg_nums.frz7 {w : World} {g t : Nat} {cs : Array Value} (h : w.heap[g]? = some (.cells cs t (0, 0))) : w.frozen? ⟨g, 0, none⟩ = false ∧ w.frozen? ⟨g, 1, none⟩ = false ∧ w.frozen? ⟨g, 2, none⟩ = false ∧ w.frozen? ⟨g, 3, none⟩ = false ∧ w.frozen? ⟨g, 4, none⟩ = false ∧ w.frozen? ⟨g, 5, none⟩ = false ∧ w.frozen? ⟨g, 6, none⟩ = false :=
  ⟨blk_frozen h 0, blk_frozen h 1, blk_frozen h 2, blk_frozen h 3, blk_frozen h 4, blk_frozen h 5, blk_frozen h 6⟩
set_option maxHeartbeats 8000000 in
set_option maxRecDepth 100000 in
theorem msg_nums.good (g : Nat) (w : World) :
    Calls Try.prog 24 #[.pointer (some ⟨g, 0, none⟩)] w fun e w' => e = .returned (.agg #[.pointer (some ⟨g, 1, none⟩), .pointer (some ⟨g, 2, none⟩), .pointer (some ⟨g, 3, none⟩), .pointer (some ⟨g, 4, none⟩), .pointer (some ⟨g, 5, none⟩), .pointer (some ⟨g, 6, none⟩), .pointer (some ⟨g, 7, none⟩)]) ∧ Below w.heap.size w w' := by
  have hu24 := Try.underlying24
  have hu50 := Try.underlying50
  go_enter Try.func24, Try.ntmps24
  go_upto_region 1 with (first | ((with_reducible refine gate_dst (N := 2) rfl ?_); refine box_event ?hg (N := 2) ?hd (cs := #[.pointer none, .pointer none, .pointer none, .pointer none, .pointer none, .pointer none, .pointer none]) (t := 50) ?hr ?_; (case hd => rfl); (case hg => rfl); (case hr => first | (go_simp; done) | (go_simp; rfl)); intro g2 hg_ wb hbox hbb; have HB := Aside0.mk hbb; have K2 := Aside0.mk hbox; have G2 := Aside0.mk hg_; clear hg_ hbox hbb))
  refine start_ (n := 23) (S := fun _ => True) (ds := []) #[false, false, false, false, false, false, false, false, false, false, false, false, false, false, false, false, false, false, false, false, false, false, false] (by kernel_rfl) rfl rfl trivial (fun hHeld => ?_); refine with_tabW msg_nums.tab1 msg_nums.bits1 (fun HT_ HW_ => ?_)
  replace HB := Aside0.mk (b_d HB.out)
  replace K2 := Aside0.mk (k_d K2.out)
  revert HB K2 hHeld
  generalize World.drew wb = wv
  intro hHeld HB K2
  refine pure_ (i := 0) (N := some 3) (v := ?_) (a' := ?_) #[true, false, false, false, false, false, false, false, false, false, false, false, false, false, false, false, false, false, false, false, false, false, false] rfl rfl (any_of HT_.out (by kernel_rfl)) (fun _ _ _ h => h) (Or.inl ⟨by rfl, ?_⟩) ?_ ?_
  rotate_left
  ·
    intro w'
    go_simp
    with_reducible rfl
  rotate_left
  ·
    simp only [Act.put, l_1, l_2, l_3, i64_w, i32_w]
    rfl
  refine pure_ (i := 1) (N := some 4) (v := ?_) (a' := ?_) #[true, true, false, false, false, false, false, false, false, false, false, false, false, false, false, false, false, false, false, false, false, false, false] rfl rfl (any_of HT_.out (by kernel_rfl)) (fun _ _ _ h => h) (Or.inl ⟨by rfl, ?_⟩) ?_ ?_
  rotate_left
  ·
    intro w'
    go_simp
    with_reducible rfl
  rotate_left
  ·
    simp only [Act.put, l_1, l_2, l_3, i64_w, i32_w]
    rfl
  refine pure_ (i := 2) (N := some 5) (v := ?_) (a' := ?_) #[true, true, true, false, false, false, false, false, false, false, false, false, false, false, false, false, false, false, false, false, false, false, false] rfl rfl (any_of HT_.out (by kernel_rfl)) (fun _ _ _ h => h) (Or.inl ⟨by rfl, ?_⟩) ?_ ?_
  rotate_left
  ·
    intro w'
    go_simp
    with_reducible rfl
  rotate_left
  ·
    simp only [Act.put, l_1, l_2, l_3, i64_w, i32_w]
    rfl
  refine pure_ (i := 3) (N := some 6) (v := ?_) (a' := ?_) #[true, true, true, true, false, false, false, false, false, false, false, false, false, false, false, false, false, false, false, false, false, false, false] rfl rfl (any_of HT_.out (by kernel_rfl)) (fun _ _ _ h => h) (Or.inl ⟨by rfl, ?_⟩) ?_ ?_
  rotate_left
  ·
    intro w'
    go_simp
    with_reducible rfl
  rotate_left
  ·
    simp only [Act.put, l_1, l_2, l_3, i64_w, i32_w]
    rfl
  refine pure_ (i := 4) (N := some 7) (v := ?_) (a' := ?_) #[true, true, true, true, true, false, false, false, false, false, false, false, false, false, false, false, false, false, false, false, false, false, false] rfl rfl (any_of HT_.out (by kernel_rfl)) (fun _ _ _ h => h) (Or.inl ⟨by rfl, ?_⟩) ?_ ?_
  rotate_left
  ·
    intro w'
    go_simp
    with_reducible rfl
  rotate_left
  ·
    simp only [Act.put, l_1, l_2, l_3, i64_w, i32_w]
    rfl
  refine pure_ (i := 5) (N := some 8) (v := ?_) (a' := ?_) #[true, true, true, true, true, true, false, false, false, false, false, false, false, false, false, false, false, false, false, false, false, false, false] rfl rfl (any_of HT_.out (by kernel_rfl)) (fun _ _ _ h => h) (Or.inl ⟨by rfl, ?_⟩) ?_ ?_
  rotate_left
  ·
    intro w'
    go_simp
    with_reducible rfl
  rotate_left
  ·
    simp only [Act.put, l_1, l_2, l_3, i64_w, i32_w]
    rfl
  refine pure_ (i := 6) (N := some 9) (v := ?_) (a' := ?_) #[true, true, true, true, true, true, true, false, false, false, false, false, false, false, false, false, false, false, false, false, false, false, false] rfl rfl (any_of HT_.out (by kernel_rfl)) (fun _ _ _ h => h) (Or.inl ⟨by rfl, ?_⟩) ?_ ?_
  rotate_left
  ·
    intro w'
    go_simp
    with_reducible rfl
  rotate_left
  ·
    simp only [Act.put, l_1, l_2, l_3, i64_w, i32_w]
    rfl
  refine pure_ (i := 7) (N := some 10) (v := ?_) (a' := ?_) #[true, true, true, true, true, true, true, true, false, false, false, false, false, false, false, false, false, false, false, false, false, false, false] rfl rfl (any_of HT_.out (by kernel_rfl)) (fun _ _ _ h => h) (Or.inl ⟨by rfl, ?_⟩) ?_ ?_
  rotate_left
  ·
    intro w'
    go_simp
    with_reducible rfl
  rotate_left
  ·
    simp only [Act.put, l_1, l_2, l_3, i64_w, i32_w]
    rfl
  refine pure_ (i := 8) (N := some 11) (v := ?_) (a' := ?_) #[true, true, true, true, true, true, true, true, true, false, false, false, false, false, false, false, false, false, false, false, false, false, false] rfl rfl (any_of HT_.out (by kernel_rfl)) (fun _ _ _ h => h) (Or.inl ⟨by rfl, ?_⟩) ?_ ?_
  rotate_left
  ·
    intro w'
    go_simp
    with_reducible rfl
  rotate_left
  ·
    simp only [Act.put, l_1, l_2, l_3, i64_w, i32_w]
    rfl
  refine pure_ (i := 9) (N := some 12) (v := ?_) (a' := ?_) #[true, true, true, true, true, true, true, true, true, true, false, false, false, false, false, false, false, false, false, false, false, false, false] rfl rfl (any_of HT_.out (by kernel_rfl)) (fun _ _ _ h => h) (Or.inl ⟨by rfl, ?_⟩) ?_ ?_
  rotate_left
  ·
    intro w'
    go_simp
    with_reducible rfl
  rotate_left
  ·
    simp only [Act.put, l_1, l_2, l_3, i64_w, i32_w]
    rfl
  refine pure_ (i := 10) (N := some 13) (v := ?_) (a' := ?_) #[true, true, true, true, true, true, true, true, true, true, true, false, false, false, false, false, false, false, false, false, false, false, false] rfl rfl (any_of HT_.out (by kernel_rfl)) (fun _ _ _ h => h) (Or.inl ⟨by rfl, ?_⟩) ?_ ?_
  rotate_left
  ·
    intro w'
    go_simp
    with_reducible rfl
  rotate_left
  ·
    simp only [Act.put, l_1, l_2, l_3, i64_w, i32_w]
    rfl
  refine pure_ (i := 11) (N := some 14) (v := ?_) (a' := ?_) #[true, true, true, true, true, true, true, true, true, true, true, true, false, false, false, false, false, false, false, false, false, false, false] rfl rfl (any_of HT_.out (by kernel_rfl)) (fun _ _ _ h => h) (Or.inl ⟨by rfl, ?_⟩) ?_ ?_
  rotate_left
  ·
    intro w'
    go_simp
    with_reducible rfl
  rotate_left
  ·
    simp only [Act.put, l_1, l_2, l_3, i64_w, i32_w]
    rfl
  refine pure_ (i := 12) (N := some 15) (v := ?_) (a' := ?_) #[true, true, true, true, true, true, true, true, true, true, true, true, true, false, false, false, false, false, false, false, false, false, false] rfl rfl (any_of HT_.out (by kernel_rfl)) (fun _ _ _ h => h) (Or.inl ⟨by rfl, ?_⟩) ?_ ?_
  rotate_left
  ·
    intro w'
    go_simp
    with_reducible rfl
  rotate_left
  ·
    simp only [Act.put, l_1, l_2, l_3, i64_w, i32_w]
    rfl
  refine pure_ (i := 13) (N := some 16) (v := ?_) (a' := ?_) #[true, true, true, true, true, true, true, true, true, true, true, true, true, true, false, false, false, false, false, false, false, false, false] rfl rfl (any_of HT_.out (by kernel_rfl)) (fun _ _ _ h => h) (Or.inl ⟨by rfl, ?_⟩) ?_ ?_
  rotate_left
  ·
    intro w'
    go_simp
    with_reducible rfl
  rotate_left
  ·
    simp only [Act.put, l_1, l_2, l_3, i64_w, i32_w]
    rfl
  refine pure_ (i := 14) (N := some 17) (v := ?_) (a' := ?_) #[true, true, true, true, true, true, true, true, true, true, true, true, true, true, true, false, false, false, false, false, false, false, false] rfl rfl (any_of HT_.out (by kernel_rfl)) (fun _ _ _ h => h) (Or.inl ⟨by rfl, ?_⟩) ?_ ?_
  rotate_left
  ·
    intro w'
    go_simp
    with_reducible rfl
  rotate_left
  ·
    simp only [Act.put, l_1, l_2, l_3, i64_w, i32_w]
    rfl
  refine pure_ (i := 15) (N := some 18) (v := ?_) (a' := ?_) #[true, true, true, true, true, true, true, true, true, true, true, true, true, true, true, true, false, false, false, false, false, false, false] rfl rfl (any_of HT_.out (by kernel_rfl)) (fun _ _ _ h => h) (Or.inl ⟨by rfl, ?_⟩) ?_ ?_
  rotate_left
  ·
    intro w'
    go_simp
    with_reducible rfl
  rotate_left
  ·
    simp only [Act.put, l_1, l_2, l_3, i64_w, i32_w]
    rfl
  refine pure_ (i := 16) (N := some 19) (v := ?_) (a' := ?_) #[true, true, true, true, true, true, true, true, true, true, true, true, true, true, true, true, true, false, false, false, false, false, false] rfl rfl (any_of HT_.out (by kernel_rfl)) (fun _ _ _ h => h) (Or.inl ⟨by rfl, ?_⟩) ?_ ?_
  rotate_left
  ·
    intro w'
    go_simp
    with_reducible rfl
  rotate_left
  ·
    simp only [Act.put, l_1, l_2, l_3, i64_w, i32_w]
    rfl
  refine pure_ (i := 17) (N := some 20) (v := ?_) (a' := ?_) #[true, true, true, true, true, true, true, true, true, true, true, true, true, true, true, true, true, true, false, false, false, false, false] rfl rfl (any_of HT_.out (by kernel_rfl)) (fun _ _ _ h => h) (Or.inl ⟨by rfl, ?_⟩) ?_ ?_
  rotate_left
  ·
    intro w'
    go_simp
    with_reducible rfl
  rotate_left
  ·
    simp only [Act.put, l_1, l_2, l_3, i64_w, i32_w]
    rfl
  refine pure_ (i := 18) (N := some 21) (v := ?_) (a' := ?_) #[true, true, true, true, true, true, true, true, true, true, true, true, true, true, true, true, true, true, true, false, false, false, false] rfl rfl (any_of HT_.out (by kernel_rfl)) (fun _ _ _ h => h) (Or.inl ⟨by rfl, ?_⟩) ?_ ?_
  rotate_left
  ·
    intro w'
    go_simp
    with_reducible rfl
  rotate_left
  ·
    simp only [Act.put, l_1, l_2, l_3, i64_w, i32_w]
    rfl
  refine pure_ (i := 19) (N := some 22) (v := ?_) (a' := ?_) #[true, true, true, true, true, true, true, true, true, true, true, true, true, true, true, true, true, true, true, true, false, false, false] rfl rfl (any_of HT_.out (by kernel_rfl)) (fun _ _ _ h => h) (Or.inl ⟨by rfl, ?_⟩) ?_ ?_
  rotate_left
  ·
    intro w'
    go_simp
    with_reducible rfl
  rotate_left
  ·
    simp only [Act.put, l_1, l_2, l_3, i64_w, i32_w]
    rfl
  refine pure_ (i := 20) (N := some 23) (v := ?_) (a' := ?_) #[true, true, true, true, true, true, true, true, true, true, true, true, true, true, true, true, true, true, true, true, true, false, false] rfl rfl (any_of HT_.out (by kernel_rfl)) (fun _ _ _ h => h) (Or.inl ⟨by rfl, ?_⟩) ?_ ?_
  rotate_left
  ·
    intro w'
    go_simp
    with_reducible rfl
  rotate_left
  ·
    simp only [Act.put, l_1, l_2, l_3, i64_w, i32_w]
    rfl
  refine pure_ (i := 21) (N := some 24) (v := ?_) (a' := ?_) #[true, true, true, true, true, true, true, true, true, true, true, true, true, true, true, true, true, true, true, true, true, true, false] rfl rfl (any_of HT_.out (by kernel_rfl)) (fun _ _ _ h => h) (Or.inl ⟨by rfl, ?_⟩) ?_ ?_
  rotate_left
  ·
    intro w'
    go_simp
    with_reducible rfl
  rotate_left
  ·
    simp only [Act.put, l_1, l_2, l_3, i64_w, i32_w]
    rfl
  obtain ⟨x1, x2, x3, x4, x5, x6, x7⟩ := msg_nums.cell7 K2.out
  obtain ⟨y1, y2, y3, y4, y5, y6, y7⟩ := msg_nums.frz7 K2.out
  refine one_ (i := 22) (N := none) #[true, true, true, true, true, true, true, true, true, true, true, true, true, true, true, true, true, true, true, true, true, true, true] rfl rfl (one_of HT_.out (by kernel_rfl)) (by decide) (fun K hK => ?_)
  refine skip_ (w1 := ?_) (by rfl) rfl ?_ ?_
  rotate_left
  ·
    go_simp
    rfl
  refine hK.out _ _ trivial (fun hHeld => ?_)
  clear hK K
  refine done_ (done_of HT_.out (by kernel_rfl)) ?_
  clear x1 x2 x3 x4 x5 x6 x7 y1 y2 y3 y4 y5 y6 y7 hHeld HT_ HW_
  go_wp2
  refine bodyPost_ret (results_single rfl (.cell g2 50 #[.pointer (some ⟨g, 1, none⟩), .pointer (some ⟨g, 2, none⟩), .pointer (some ⟨g, 3, none⟩), .pointer (some ⟨g, 4, none⟩), .pointer (some ⟨g, 5, none⟩), .pointer (some ⟨g, 6, none⟩), .pointer (some ⟨g, 7, none⟩)] (0, 0) _ rfl (msg_nums.put7 K2.out) Try.underlying50 rfl (by kernel_rfl) .nil)) rfl ?_
  exact ⟨rfl, msg_nums.below7 HB.out (Nat.le_of_eq G2.out.symm)⟩
def msg_num (a1 a2 a3 a4 a5 a6 a7 i : Int) : Int := if i = 0 then a1 else if i = 1 then a2 else if i = 2 then a3 else if i = 3 then a4 else if i = 4 then a5 else if i = 5 then a6 else a7
def msg_bit (b i : Int) : Int := Go.bits .and .u8 (b / 2 ^ min i.toNat 8) 1
def msg_wrong.one (b i x : Int) : Bool := decide (x < 0) || decide (x ≥ 1099511627776) || (x != 0 && msg_bit b i == 0)
def msg_wrong.bad (b : Int) (N : Int → Int) : Nat → Int → Bool
  | 0, _ => false
  | m + 1, i => if msg_wrong.one b i (N i) = true then true else msg_wrong.bad b N m (i + 1)
def msg_wrong.f (a0_0 a0_1 a0_2 a0_3 a0_4 a0_5 a0_6 a0_7 : Int) (l0_8 : List Int) : Option Bool :=
  if (Lit.int .i64 a0_0).wf = true then (if msg_of.ok a0_0 = true then (if (l0_8.length : Int) > 4096 then some true else if (l0_8.length : Int) > 0 ∧ msg_of.lst a0_0 = false then some true else some (msg_wrong.bad (msg_of.bits a0_0) (msg_num a0_1 a0_2 a0_3 a0_4 a0_5 a0_6 a0_7) 7 0)) else some true) else none
theorem msg_wrong.cells {w : World} {g : Nat} {t : TypeId} {a0 a1 a2 a3 a4 a5 a6 a7 : Int} {v : Value} (h : w.heap[g]? = some (.cells #[.int .i64 a0, .int .i64 a1, .int .i64 a2, .int .i64 a3, .int .i64 a4, .int .i64 a5, .int .i64 a6, .int .i64 a7, v] t (0, 0))) : w.cell? ⟨g, 0, none⟩ = some (.int .i64 a0) ∧ w.cell? ⟨g, 8, none⟩ = some v ∧ ∀ i : Int, 0 ≤ i → i < 7 → w.cell? ⟨g, (i + 1).toNat, none⟩ = some (.int .i64 (msg_num a1 a2 a3 a4 a5 a6 a7 i)) := by
  refine ⟨(blk_cell h 0).trans rfl, (blk_cell h 8).trans rfl, fun i h0 h1 => ?_⟩
  have hi : i = 0 ∨ i = 1 ∨ i = 2 ∨ i = 3 ∨ i = 4 ∨ i = 5 ∨ i = 6 := by omega
  rcases hi with rfl | rfl | rfl | rfl | rfl | rfl | rfl
  · exact (blk_cell h 1).trans rfl
  · exact (blk_cell h 2).trans rfl
  · exact (blk_cell h 3).trans rfl
  · exact (blk_cell h 4).trans rfl
  · exact (blk_cell h 5).trans rfl
  · exact (blk_cell h 6).trans rfl
  · exact (blk_cell h 7).trans rfl
theorem msg_wrong.index (g : Nat) (i : Int) (h0 : 0 ≤ i) (h1 : i < 7) (W : World) : (Instr.index 50 (.agg #[.pointer (some ⟨g, 1, none⟩), .pointer (some ⟨g, 2, none⟩), .pointer (some ⟨g, 3, none⟩), .pointer (some ⟨g, 4, none⟩), .pointer (some ⟨g, 5, none⟩), .pointer (some ⟨g, 6, none⟩), .pointer (some ⟨g, 7, none⟩)]) (.int .i64 i)).run Try.prog W = .ok (.pointer (some ⟨g, (i + 1).toNat, none⟩)) W := by
  have hi : i = 0 ∨ i = 1 ∨ i = 2 ∨ i = 3 ∨ i = 4 ∨ i = 5 ∨ i = 6 := by omega
  rcases hi with rfl | rfl | rfl | rfl | rfl | rfl | rfl <;> first | rfl | (simp; rfl)
def msg_wrong.St (w W : World) (g1 g3 : Nat) (sa sb : Array Value) : Prop := Below w.heap.size w W ∧ W.heap[g1]? = some (.cells sa 24 (0, 0)) ∧ W.heap[g3]? = some (.cells sb 46 (0, 0))
theorem msg_wrong.St.below {w W W' : World} {g1 g3 : Nat} {sa sb : Array Value} (H : msg_wrong.St w W g1 g3 sa sb) (hb : Below W.heap.size W W') : msg_wrong.St w W' g1 g3 sa sb :=
  ⟨below_step H.1 hb, blk_below H.2.1 hb, blk_below H.2.2 hb⟩
set_option maxHeartbeats 8000000 in
set_option maxRecDepth 100000 in
theorem msg_wrong.calls (a0_0 a0_1 a0_2 a0_3 a0_4 a0_5 a0_6 a0_7 : Int) (A0_8 : Option Addr) (c0_8 : Nat) (l0_8 : List Int) (r : Bool) (w : World) (hr0_8 : Kd.C (Kd.int .i32) w A0_8 l0_8.length l0_8) (hc0_8 : l0_8.length ≤ c0_8) (h : msg_wrong.f a0_0 a0_1 a0_2 a0_3 a0_4 a0_5 a0_6 a0_7 l0_8 = some r) :
    Calls Try.prog 22 #[.agg #[.int .i64 a0_0, .int .i64 a0_1, .int .i64 a0_2, .int .i64 a0_3, .int .i64 a0_4, .int .i64 a0_5, .int .i64 a0_6, .int .i64 a0_7, .slice A0_8 l0_8.length c0_8]] w fun e w' => e = .returned (.bool r) ∧ Below w.heap.size w w' := by
  have hu24 := Try.underlying24
  have hu46 := Try.underlying46
  have hu50 := Try.underlying50
  clear hr0_8 hc0_8
  unfold msg_wrong.f at h
  by_cases hwf : (Lit.int .i64 a0_0).wf = true
  · rw [if_pos hwf] at h
    have HW := Aside0.mk hwf
    have HH := Aside0.mk h
    clear hwf h
    go_enter Try.func22, Try.ntmps22
    go_upto_region 1 with (first | ((with_reducible refine gate_dst (N := 1) rfl ?_); refine box_event ?hg (N := 1) ?hd (cs := #[.int .i64 a0_0, .int .i64 a0_1, .int .i64 a0_2, .int .i64 a0_3, .int .i64 a0_4, .int .i64 a0_5, .int .i64 a0_6, .int .i64 a0_7, .slice A0_8 l0_8.length c0_8]) (t := 24) ?hr ?_; (case hd => rfl); (case hg => rfl); (case hr => first | (go_simp; done) | (go_simp; rfl)); intro g1 hg_ wb1 hbox hbb; have HB := Aside0.mk hbb; have K1 := Aside0.mk hbox; have E1 := Aside0.mk (Nat.le_of_eq hg_.symm); clear hg_ hbox hbb))
    obtain ⟨x0, x8, xs_⟩ := msg_wrong.cells K1.out
    clear xs_
    go_upto_region 2 with (first | (go_at_call 23; (refine (msg_of.good a0_0 _ HW.out).mono ?_); rintro e wa ⟨rfl, hb⟩; replace HB := Aside0.mk (below_step HB.out hb); replace K1 := Aside0.mk (blk_below K1.out hb); clear hb) | ((with_reducible refine gate_dst (N := 3) rfl ?_); refine box_event ?hg (N := 3) ?hd (cs := #[.int .u8 0, .bool false]) (t := 46) ?hr ?_; (case hd => rfl); (case hg => rfl); (case hr => first | (go_simp; done) | (go_simp; rfl)); intro g3 hg_ wb3 hbox hbb; have ST := Aside0.mk (show msg_wrong.St w ((wb3.setCell ⟨g3, 0, none⟩ (.int .u8 (msg_of.bits a0_0))).setCell ⟨g3, 1, none⟩ (.bool (msg_of.lst a0_0))) g1 g3 #[.int .i64 a0_0, .int .i64 a0_1, .int .i64 a0_2, .int .i64 a0_3, .int .i64 a0_4, .int .i64 a0_5, .int .i64 a0_6, .int .i64 a0_7, .slice A0_8 l0_8.length c0_8] #[.int .u8 (msg_of.bits a0_0), .bool (msg_of.lst a0_0)] from ⟨msg_of.below2 (below_step HB.out hbb) (Nat.le_trans HB.out.size (Nat.le_of_eq hg_.symm)), msg_of.far2 (by have := blk_lt K1.out; omega) (blk_below K1.out hbb), msg_of.put2 hbox⟩); obtain ⟨b1, b2, b3, b4⟩ := msg_of.cell2 hbox; clear hg_ hbox hbb))
    generalize hW_ : ((wb3.setCell ⟨g3, 0, none⟩ (.int .u8 (msg_of.bits a0_0))).setCell ⟨g3, 1, none⟩ (.bool (msg_of.lst a0_0))) = W3 at *
    clear hW_ b1 b2 b3 b4 x0 x8 K1 HB
    obtain ⟨x0, x8, xs_⟩ := msg_wrong.cells ST.out.2.1
    clear xs_
    obtain ⟨y0, y1, _, _⟩ := msg_of.cell2 ST.out.2.2
    have h := HH.out
    clear HH
    by_cases c1 : msg_of.ok a0_0 = true
    · rw [if_pos c1] at h
      by_cases c2 : (l0_8.length : Int) > 4096
      · rw [if_pos c2] at h
        obtain rfl := Option.some.inj h
        clear h
        have p2 : decide (4096 < (l0_8.length : Int)) = true := decide_eq_true c2
        go_wp2
        go_ret
        exact ⟨rfl, ST.out.1⟩
      · rw [if_neg c2] at h
        have p2 : decide (4096 < (l0_8.length : Int)) = false := decide_eq_false c2
        clear c2
        by_cases c3 : (l0_8.length : Int) > 0
        · have p3 : decide (0 < (l0_8.length : Int)) = true := decide_eq_true c3
          have p4 : (0 < l0_8.length) = True := eq_true (by omega)
          by_cases c4 : msg_of.lst a0_0 = false
          · rw [if_pos ⟨c3, c4⟩] at h
            obtain rfl := Option.some.inj h
            clear h c3
            go_wp2
            go_ret
            exact ⟨rfl, ST.out.1⟩
          · rw [if_neg (fun hh => c4 hh.2)] at h
            have c5 : msg_of.lst a0_0 = true := by simpa using c4
            clear c4 c3
            have HX := Aside0.mk (Option.some.inj h)
            clear h
            go_wp2_with (first | (go_at_call 24; (refine (msg_nums.good g1 _).mono ?_); rintro e wn ⟨rfl, hb⟩; replace ST := Aside0.mk (ST.out.below hb); clear hb))
            clear x0 x8 y0 y1
            go_loopg [33] 7 (fun m v33 W => ∃ i : Int, v33 = .int .i64 i ∧ 0 ≤ i ∧ Aside0 (i + m = 7) ∧ Aside0 (msg_wrong.bad (msg_of.bits a0_0) (msg_num a0_1 a0_2 a0_3 a0_4 a0_5 a0_6 a0_7) m i = r) ∧ Aside0 (msg_wrong.St w W g1 g3 #[.int .i64 a0_0, .int .i64 a0_1, .int .i64 a0_2, .int .i64 a0_3, .int .i64 a0_4, .int .i64 a0_5, .int .i64 a0_6, .int .i64 a0_7, .slice A0_8 l0_8.length c0_8] #[.int .u8 (msg_of.bits a0_0), .bool (msg_of.lst a0_0)]))
            case atStart => exact ⟨0, rfl, by omega, ⟨by omega⟩, HX, ST⟩
            case round =>
              clear HX ST
              obtain ⟨i, rfl, hi0, HI, HX, ST⟩ := hrel
              cases gk with
              | zero =>
                have q : decide (i < 7) = false := decide_eq_false (by have := HI.out; omega)
                have hr : false = r := HX.out
                subst hr
                go_wp2
                go_ret
                exact ⟨rfl, ST.out.1⟩
              | succ m =>
                have q : decide (i < 7) = true := decide_eq_true (by have := HI.out; omega)
                have hx := HX.out
                unfold msg_wrong.bad at hx
                have hix := msg_wrong.index g1 i hi0 (of_decide_eq_true q)
                obtain ⟨y0, y1, _, _⟩ := msg_of.cell2 ST.out.2.2
                have z1 := (msg_wrong.cells ST.out.2.1).2.2 i hi0 (of_decide_eq_true q)
                obtain ⟨x, hxx⟩ : ∃ x, msg_num a0_1 a0_2 a0_3 a0_4 a0_5 a0_6 a0_7 i = x := ⟨_, rfl⟩
                rw [hxx] at z1 hx
                have HXX := Aside0.mk hxx
                have hw : IntKind.i64.wrap (i + 1) = i + 1 := by rw [i64_w]; have := HI.out; unfold wrap64; omega
                clear HX
                obtain ⟨t, hbt⟩ : ∃ t, Go.bits .and .u8 (msg_of.bits a0_0 / 2 ^ min i.toNat 8) 1 = t := ⟨_, rfl⟩
                have HBT := Aside0.mk (show msg_bit (msg_of.bits a0_0) i = t from hbt)
                have HXO := Aside0.mk hx
                clear hx
                by_cases d1 : x < 0
                · have e1 : decide (x < 0) = true := decide_eq_true d1
                  have hone : msg_wrong.one (msg_of.bits a0_0) i x = true := by unfold msg_wrong.one; rw [e1]; rfl
                  have hr := HXO.out
                  rw [if_pos hone] at hr
                  subst hr
                  clear hone HXO d1
                  go_wp2
                  go_ret
                  exact ⟨rfl, ST.out.1⟩
                · have e1 : decide (x < 0) = false := decide_eq_false d1
                  by_cases d2 : x ≥ 1099511627776
                  · have e2 : decide (x ≥ 1099511627776) = true := decide_eq_true d2
                    have e2' : decide (1099511627776 ≤ x) = true := decide_eq_true d2
                    have hone : msg_wrong.one (msg_of.bits a0_0) i x = true := by unfold msg_wrong.one; rw [e1, e2]; rfl
                    have hr := HXO.out
                    rw [if_pos hone] at hr
                    subst hr
                    clear hone HXO d1 d2
                    go_wp2
                    go_ret
                    exact ⟨rfl, ST.out.1⟩
                  · have e2 : decide (x ≥ 1099511627776) = false := decide_eq_false d2
                    have e2' : decide (1099511627776 ≤ x) = false := decide_eq_false d2
                    by_cases d3 : x = 0
                    · have hone : msg_wrong.one (msg_of.bits a0_0) i x = false := by unfold msg_wrong.one; rw [e1, e2, d3]; rfl
                      have hr := HXO.out
                      rw [hone, if_neg (by simp)] at hr
                      have HX := Aside0.mk hr
                      clear hone HXO d1 d2 hr HXX
                      subst d3
                      go_wp2
                      go_roundg m
                      case measure => omega
                      case rel => exact ⟨i + 1, by first | rfl | rw [hw], by omega, ⟨by have := HI.out; omega⟩, HX, ST⟩
                    · have e3 : decide (x = 0) = false := decide_eq_false d3
                      have e3' : (x == 0) = false := beq_eq_false_iff_ne.2 d3
                      have e3'' : (x = 0) = False := eq_false d3
                      have e3n : (x != 0) = true := bne_iff_ne.2 d3
                      by_cases d4 : t = 0
                      · have hone : msg_wrong.one (msg_of.bits a0_0) i x = true := by unfold msg_wrong.one; rw [e1, e2, HBT.out, d4]; simp [d3]
                        have hr := HXO.out
                        rw [if_pos hone] at hr
                        subst hr
                        clear hone HXO d1 d2 d3 HBT
                        subst d4
                        go_wp2
                        go_ret
                        exact ⟨rfl, ST.out.1⟩
                      · have hone : msg_wrong.one (msg_of.bits a0_0) i x = false := by unfold msg_wrong.one; rw [e1, e2, HBT.out]; simp [d4]
                        have e4 : decide (t = 0) = false := decide_eq_false d4
                        have e4' : (t == 0) = false := beq_eq_false_iff_ne.2 d4
                        have hr := HXO.out
                        rw [hone, if_neg (by simp)] at hr
                        have HX := Aside0.mk hr
                        clear hone HXO d1 d2 d3 d4 hr HXX HBT
                        go_wp2
                        go_roundg m
                        case measure => omega
                        case rel => exact ⟨i + 1, by first | rfl | rw [hw], by omega, ⟨by have := HI.out; omega⟩, HX, ST⟩
        · rw [if_neg (fun hh => c3 hh.1)] at h
          have p3 : decide (0 < (l0_8.length : Int)) = false := decide_eq_false c3
          have p4 : (0 < l0_8.length) = False := eq_false (by omega)
          clear c3
          have HX := Aside0.mk (Option.some.inj h)
          clear h
          go_wp2_with (first | (go_at_call 24; (refine (msg_nums.good g1 _).mono ?_); rintro e wn ⟨rfl, hb⟩; replace ST := Aside0.mk (ST.out.below hb); clear hb))
          clear x0 x8 y0 y1
          go_loopg [33] 7 (fun m v33 W => ∃ i : Int, v33 = .int .i64 i ∧ 0 ≤ i ∧ Aside0 (i + m = 7) ∧ Aside0 (msg_wrong.bad (msg_of.bits a0_0) (msg_num a0_1 a0_2 a0_3 a0_4 a0_5 a0_6 a0_7) m i = r) ∧ Aside0 (msg_wrong.St w W g1 g3 #[.int .i64 a0_0, .int .i64 a0_1, .int .i64 a0_2, .int .i64 a0_3, .int .i64 a0_4, .int .i64 a0_5, .int .i64 a0_6, .int .i64 a0_7, .slice A0_8 l0_8.length c0_8] #[.int .u8 (msg_of.bits a0_0), .bool (msg_of.lst a0_0)]))
          case atStart => exact ⟨0, rfl, by omega, ⟨by omega⟩, HX, ST⟩
          case round =>
            clear HX ST
            obtain ⟨i, rfl, hi0, HI, HX, ST⟩ := hrel
            cases gk with
            | zero =>
              have q : decide (i < 7) = false := decide_eq_false (by have := HI.out; omega)
              have hr : false = r := HX.out
              subst hr
              go_wp2
              go_ret
              exact ⟨rfl, ST.out.1⟩
            | succ m =>
              have q : decide (i < 7) = true := decide_eq_true (by have := HI.out; omega)
              have hx := HX.out
              unfold msg_wrong.bad at hx
              have hix := msg_wrong.index g1 i hi0 (of_decide_eq_true q)
              obtain ⟨y0, y1, _, _⟩ := msg_of.cell2 ST.out.2.2
              have z1 := (msg_wrong.cells ST.out.2.1).2.2 i hi0 (of_decide_eq_true q)
              obtain ⟨x, hxx⟩ : ∃ x, msg_num a0_1 a0_2 a0_3 a0_4 a0_5 a0_6 a0_7 i = x := ⟨_, rfl⟩
              rw [hxx] at z1 hx
              have HXX := Aside0.mk hxx
              have hw : IntKind.i64.wrap (i + 1) = i + 1 := by rw [i64_w]; have := HI.out; unfold wrap64; omega
              clear HX
              obtain ⟨t, hbt⟩ : ∃ t, Go.bits .and .u8 (msg_of.bits a0_0 / 2 ^ min i.toNat 8) 1 = t := ⟨_, rfl⟩
              have HBT := Aside0.mk (show msg_bit (msg_of.bits a0_0) i = t from hbt)
              have HXO := Aside0.mk hx
              clear hx
              by_cases d1 : x < 0
              · have e1 : decide (x < 0) = true := decide_eq_true d1
                have hone : msg_wrong.one (msg_of.bits a0_0) i x = true := by unfold msg_wrong.one; rw [e1]; rfl
                have hr := HXO.out
                rw [if_pos hone] at hr
                subst hr
                clear hone HXO d1
                go_wp2
                go_ret
                exact ⟨rfl, ST.out.1⟩
              · have e1 : decide (x < 0) = false := decide_eq_false d1
                by_cases d2 : x ≥ 1099511627776
                · have e2 : decide (x ≥ 1099511627776) = true := decide_eq_true d2
                  have e2' : decide (1099511627776 ≤ x) = true := decide_eq_true d2
                  have hone : msg_wrong.one (msg_of.bits a0_0) i x = true := by unfold msg_wrong.one; rw [e1, e2]; rfl
                  have hr := HXO.out
                  rw [if_pos hone] at hr
                  subst hr
                  clear hone HXO d1 d2
                  go_wp2
                  go_ret
                  exact ⟨rfl, ST.out.1⟩
                · have e2 : decide (x ≥ 1099511627776) = false := decide_eq_false d2
                  have e2' : decide (1099511627776 ≤ x) = false := decide_eq_false d2
                  by_cases d3 : x = 0
                  · have hone : msg_wrong.one (msg_of.bits a0_0) i x = false := by unfold msg_wrong.one; rw [e1, e2, d3]; rfl
                    have hr := HXO.out
                    rw [hone, if_neg (by simp)] at hr
                    have HX := Aside0.mk hr
                    clear hone HXO d1 d2 hr HXX
                    subst d3
                    go_wp2
                    go_roundg m
                    case measure => omega
                    case rel => exact ⟨i + 1, by first | rfl | rw [hw], by omega, ⟨by have := HI.out; omega⟩, HX, ST⟩
                  · have e3 : decide (x = 0) = false := decide_eq_false d3
                    have e3' : (x == 0) = false := beq_eq_false_iff_ne.2 d3
                    have e3'' : (x = 0) = False := eq_false d3
                    have e3n : (x != 0) = true := bne_iff_ne.2 d3
                    by_cases d4 : t = 0
                    · have hone : msg_wrong.one (msg_of.bits a0_0) i x = true := by unfold msg_wrong.one; rw [e1, e2, HBT.out, d4]; simp [d3]
                      have hr := HXO.out
                      rw [if_pos hone] at hr
                      subst hr
                      clear hone HXO d1 d2 d3 HBT
                      subst d4
                      go_wp2
                      go_ret
                      exact ⟨rfl, ST.out.1⟩
                    · have hone : msg_wrong.one (msg_of.bits a0_0) i x = false := by unfold msg_wrong.one; rw [e1, e2, HBT.out]; simp [d4]
                      have e4 : decide (t = 0) = false := decide_eq_false d4
                      have e4' : (t == 0) = false := beq_eq_false_iff_ne.2 d4
                      have hr := HXO.out
                      rw [hone, if_neg (by simp)] at hr
                      have HX := Aside0.mk hr
                      clear hone HXO d1 d2 d3 d4 hr HXX HBT
                      go_wp2
                      go_roundg m
                      case measure => omega
                      case rel => exact ⟨i + 1, by first | rfl | rw [hw], by omega, ⟨by have := HI.out; omega⟩, HX, ST⟩
    · rw [if_neg c1] at h
      have c1' : msg_of.ok a0_0 = false := by simpa using c1
      obtain rfl := Option.some.inj h
      clear h c1
      go_wp2
      go_ret
      exact ⟨rfl, ST.out.1⟩
  · rw [if_neg hwf] at h; cases h
/-! ### frame_four: function 34 -/
def frame_four.f (l0 : List Int) (a1 : Int) : Option (List Int) := (some (([(a1 / 16777216) % 256, (a1 / 65536) % 256, (a1 / 256) % 256, (a1) % 256] : List Int) : List Int)).bind fun y102 => (if l0.length + y102.length < 140737488355328 then (some (l0 ++ y102)) else (none))
set_option maxHeartbeats 60000000 in
set_option maxRecDepth 100000 in
theorem frame_four.calls (P0_ : Nat → Prop) (u9000_ : Value) (l0 : List Int) (a1 : Int) (r : List Int) (w0 w : World) (hB : Below w0.heap.size w0 w) (ho0 : Kd.R (Kd.int .u8) 5 w w0.heap.size P0_ u9000_ l0) (h : frame_four.f l0 a1 = some r) :
  Calls Try.prog 34 #[u9000_, .int .u32 a1] w fun e w' => ∃ v0_ : Value, e = .returned (v0_) ∧ Kd.R (Kd.int .u8) 5 w' w0.heap.size (fun k_ => (P0_ k_ ∨ w.heap.size ≤ k_)) v0_ r ∧ Below w0.heap.size w0 w' ∧ Kept w w' (fun k_ => P0_ k_) := by
 have HO0 := Aside0.mk (show Kd.R (Kd.int .u8) 5 w w0.heap.size (fun k_ => (P0_ k_ ∨ w.heap.size ≤ k_)) u9000_ l0 from Kd.R_mono ho0 (fun k_ hk => (.inl hk)))
 have HK := Aside0.mk (Kept.refl w (fun k_ => P0_ k_))
 have HW0 := Aside0.mk hB.size
 have HB := Aside0.mk hB
 clear hB
 have H : ((some (([(a1 / 16777216) % 256, (a1 / 65536) % 256, (a1 / 256) % 256, (a1) % 256] : List Int) : List Int)).bind fun y102 => (if l0.length + y102.length < 140737488355328 then (some (l0 ++ y102)) else (none))) = some r := h
 clear h
 obtain ⟨y102, hy102⟩ : ∃ y_ : List Int, y_ = (([(a1 / 16777216) % 256, (a1 / 65536) % 256, (a1 / 256) % 256, (a1) % 256] : List Int)) := ⟨_, rfl⟩
 replace H : (if l0.length + y102.length < 140737488355328 then (some (l0 ++ y102)) else (none)) = some r := by first | (rw [hy102]; with_reducible exact H) | (have H2_ := (Option.bind_some _ _).symm.trans H; rw [hy102]; with_reducible exact H2_) | (have H2_ := (Option.bind_some _ _).symm.trans H; with_reducible exact H2_) | with_reducible exact H | (rw [hy102]; exact H) | exact H
 have Ny102 := Aside0.mk hy102
 clear hy102
 by_cases c3 : l0.length + y102.length < 140737488355328
 rotate_left
 ·
  rw [if_neg c3] at H
  exact absurd H (by simp)

 rw [if_pos c3] at H
 have LMc3 := Aside0.mk c3
 clear c3
 obtain ⟨y105, hy105⟩ : ∃ y_ : List Int, y_ = (l0 ++ y102) := ⟨_, rfl⟩
 replace H : (some y105) = some r := by first | (rw [hy105]; with_reducible exact H) | (have H2_ := (Option.bind_some _ _).symm.trans H; rw [hy105]; with_reducible exact H2_) | (have H2_ := (Option.bind_some _ _).symm.trans H; with_reducible exact H2_) | with_reducible exact H | (rw [hy105]; exact H) | exact H
 have Ny105 := Aside0.mk hy105
 clear hy105
 obtain rfl := Option.some.inj H
 go_enter Try.func34, Try.ntmps34
 go_wp2_with (first | ((with_reducible refine gate_dst (N := 17) rfl ?_); refine Kd.R_lit (Kd.int .u8) _ 5 ?hg (N := 17) ?hd (xs := ([(a1 / 16777216) % 256, (a1 / 65536) % 256, (a1 / 256) % 256, (a1) % 256] : List Int)) (inner := [.int .u8 ((a1 / 16777216) % 256), .int .u8 ((a1 / 65536) % 256), .int .u8 ((a1 / 256) % 256), .int .u8 ((a1) % 256)]) (ok := fun _ => True) (okp := fun _ => True) ?hr ?hp (fun _ hk => hk) trivial (Below.refl _ _) (Nat.le_refl _) (by simp) ?_; (case hd => rfl); (case hg => rfl); (case hr => first | (go_simp; done) | (go_simp; rfl)); (case hp => exact (Reps.one (show Kd.M (Kd.int .u8) _ _ _ ((a1 / 16777216) % 256) [.int .u8 ((a1 / 16777216) % 256)] from rfl) (Reps.one (show Kd.M (Kd.int .u8) _ _ _ ((a1 / 65536) % 256) [.int .u8 ((a1 / 65536) % 256)] from rfl) (Reps.one (show Kd.M (Kd.int .u8) _ _ _ ((a1 / 256) % 256) [.int .u8 ((a1 / 256) % 256)] from rfl) (Reps.one (show Kd.M (Kd.int .u8) _ _ _ ((a1) % 256) [.int .u8 ((a1) % 256)] from rfl) (Reps.none _ _)))))); intro v103 w4 ho5 hb hg_ hnew_; clear hg_ hnew_; (first | rw [← Ny102.out] at ho5 | (simp only [Int.reduceToNat] at ho5; rw [← Ny102.out] at ho5)); have HO104 := Aside0.mk (Kd.R_lower (Kd.R_new' (Kd.R_newM (M := fun k_ => (P0_ k_ ∨ w.heap.size ≤ k_)) ho5 (by first | exact HK.out.1 | exact (show Kept w _ (fun k_ => P0_ k_) from by repeat (first | (with_reducible first | exact HK.out | apply Kept.alloc | apply Kept.drewN | apply Kept.drew) | exact HK.out)).1) (fun k_ h_ => .inr h_)) (Kd.R_lt (tR_ HO0))) (below_size (bw_ HB))); replace HO0 := Aside0.mk (Kd.R_elder' (tR_ HO0) (Kd.R_base ho5) hb); replace HK := Aside0.mk (Kept.below (S := (fun k_ => P0_ k_)) (by repeat (first | (with_reducible first | exact HK.out | apply Kept.alloc | apply Kept.drewN | apply Kept.drew) | exact HK.out)) hb); replace HB := Aside0.mk (below_step (bw_ HB) hb); clear hb ho5; obtain ⟨Ao7, co7, eo7⟩ := Kd.R_slice HO104.out; subst eo7) | ((with_reducible refine gate_builtin (b := .append) (xs := #[.tmp 5, .tmp 17]) rfl ?_); at_builtin; refine Kd.R_append_rows (Kd.int .u8) (w0 := w0) w0.heap.size rfl (.tmp 5) (.tmp 17) 29 5 (.int .u8 0) 1 rfl Try.underlying29 info5 rfl (by decide) (by omega) u9000_ l0 y102 _ _ _ (fun k_ => (P0_ k_ ∨ w.heap.size ≤ k_) ∧ some k_ ≠ (.slice Ao7 y102.length co7 : Value).ownBlock) (fun _ => False) rfl rfl ?aO ?aR (fun _ _ h => h) (fun _ h => h.elim) ?aF ?aB ?aS ?aL ?_; (case aR => repeat (first | exact (Kd.R_reads' HO104.out).2.2 | (with_reducible refine Kd.C_alloc ?_ _) | (with_reducible refine Kd.C_drewN ?_ _) | (with_reducible refine Kd.C_drew ?_))); (case aB => exact (bw_ HB)); (case aF => exact (fun k_ hk => ⟨(.inr (Nat.le_trans (by first | exact HK.out.1 | exact (show Kept w _ (fun k_ => P0_ k_) from by repeat (first | (with_reducible first | exact HK.out | apply Kept.alloc | apply Kept.drewN | apply Kept.drew) | exact HK.out)).1) hk)), Kd.fresh' (Kd.R_lt (tR_ HO104)) k_ hk⟩)); (case aO => exact (tR_ HO0)); (case aS => exact (below_size (bw_ HB))); (case aL => have := LMc3.out; omega); intro v106 w6 ho hb hg hat; rw [← Ny105.out] at ho; have n0_ := Aside0.mk (Kd.R_after (ok := (fun k_ => (P0_ k_ ∨ w.heap.size ≤ k_))) (by (with_reducible repeat (first | apply Kd.R_alloc | apply Kd.R_drewN | apply Kd.R_drew)); exact Kd.R_mono HO104.out (fun _ hk => ⟨hk.1.1, hk.2⟩)) hg hat); have n1_ := Aside0.mk (hb); have n2_ := Aside0.mk (Kept.of_grown (S := (fun k_ => P0_ k_)) hg (by repeat (first | (with_reducible first | exact HK.out | apply Kept.alloc | apply Kept.drewN | apply Kept.drew) | exact HK.out)) (fun k_ e_ => (HO0.out.1 k_ e_).1)); have n3_ := Aside0.mk (ho); clear HO104; clear HB; clear HK; clear HO0; have HO104 := n0_; have HB := n1_; have HK := n2_; have HO107 := n3_; clear n0_ n1_ n2_ n3_; clear ho hb hg hat))
 go_ret
 exact ⟨_, by first | rfl | (simp [errW_none, errW_some] <;> rfl) | (simp [*, errW_none, errW_some] <;> rfl), by (with_reducible repeat (first | apply Kd.R_alloc | apply Kd.R_drewN | apply Kd.R_drew)); exact Kd.R_mono HO107.out (fun _ hk => hk.1), by repeat (first | (with_reducible first | exact HB.out | apply b_a | apply b_n | apply b_d) | exact HB.out), by repeat (first | (with_reducible first | exact HK.out | apply Kept.alloc | apply Kept.drewN | apply Kept.drew) | exact HK.out)⟩
/-! ### weight_Sum: function 35, by hand -/
def weight_Sum.tab : List Int := [0, 498536548, 997073096, 651767980, 1994146192, 1802195444, 1303535960, 1342533948, 3988292384, 4027552580, 3604390888, 3412177804, 2607071920, 2262029012, 2685067896, 3183342108]
def weight_Sum.h1 (s y : Int) : Int := Go.bits .xor .u32 (rd weight_Sum.tab (Go.bits .and .u32 (Go.bits .xor .u32 s y) 15)) (s / 16)
def weight_Sum.step (s x : Int) : Int := weight_Sum.h1 (weight_Sum.h1 s (IntKind.u32.wrap x)) ((IntKind.u32.wrap x) / 16)
def weight_Sum.piece (s : Int) (l : List Int) : Int := l.foldl weight_Sum.step s
def weight_Sum.rdp (xs : List (List Int)) (i : Int) : (List Int) := xs.getD i.toNat ([] : List Int)
theorem weight_Sum.at {w : World} {A : Option Addr} {n : Nat} {xs : List (List Int)} (h : Kd.C (Kd.slice 5 (Kd.int .u8)) w A n xs) (i : Int) (h0 : 0 ≤ i) (h1 : i < n) : ∃ ad A0 c0, A = some ad ∧ w.cell? (ad.add i.toNat) = some (.slice A0 (weight_Sum.rdp xs i).length c0) ∧ (weight_Sum.rdp xs i).length ≤ c0 ∧ (Kd.int .u8).C w A0 (weight_Sum.rdp xs i).length (weight_Sum.rdp xs i) := by
  obtain ⟨ad, c, e, _, hK, hc0⟩ := Kd.C_get h ([] : List Int) i h0 h1
  have hc : ∀ j u, c[j]? = some u → w.cell? (ad.add (i.toNat * 1 + j)) = some u := hc0
  obtain ⟨A0, c0, rfl, l0, g0⟩ := hK
  exact ⟨ad, A0, c0, e, by have hq := hc 0 _ rfl; rwa [Nat.mul_one, Nat.add_zero] at hq, l0, g0⟩
def weight_Sum.fit (l0 : List (List Int)) : Bool := decide (l0.length < 4611686018427387904) && l0.all (fun l => decide (l.length < 4611686018427387904))
def weight_Sum.f (l0 : List (List Int)) : Option (Int) := if weight_Sum.fit l0 = true then some (Go.bits .xor .u32 4294967295 (l0.foldl weight_Sum.piece 4294967295)) else none
theorem weight_Sum.next (l : List Int) (s : Int) (j : Int) (h0 : 0 ≤ j) (h1 : j < (l.length : Int)) : weight_Sum.piece s (l.drop j.toNat) = weight_Sum.piece (weight_Sum.step s (rd l j)) (l.drop (j + 1).toNat) := by
  have hj : j.toNat < l.length := by omega
  rw [show (j + 1).toNat = j.toNat + 1 by omega, List.drop_eq_getElem_cons hj]
  unfold weight_Sum.piece
  rw [List.foldl_cons]
  congr 2
  simp [rd, List.getD, hj]
theorem weight_Sum.nextL (l0 : List (List Int)) (s : Int) (i : Int) (h0 : 0 ≤ i) (h1 : i < (l0.length : Int)) : (l0.drop i.toNat).foldl weight_Sum.piece s = (l0.drop (i + 1).toNat).foldl weight_Sum.piece (weight_Sum.piece s (weight_Sum.rdp l0 i)) := by
  have hj : i.toNat < l0.length := by omega
  rw [show (i + 1).toNat = i.toNat + 1 by omega, List.drop_eq_getElem_cons hj, List.foldl_cons]
  congr 2
  simp [weight_Sum.rdp, List.getD, hj]
theorem weight_Sum.bound (l0 : List (List Int)) (i : Int) (h : weight_Sum.fit l0 = true) (h0 : 0 ≤ i) (h1 : i < (l0.length : Int)) : (weight_Sum.rdp l0 i).length < 4611686018427387904 := by
  unfold weight_Sum.fit at h
  rw [Bool.and_eq_true, List.all_eq_true] at h
  have hj : i.toNat < l0.length := by omega
  have e : weight_Sum.rdp l0 i = l0[i.toNat] := by simp [weight_Sum.rdp, List.getD, hj]
  rw [e]
  simpa using h.2 _ (List.getElem_mem hj)
theorem weight_Sum.wr (j : Int) (n : Int) (h0 : 0 ≤ j) (h1 : j < n) (h2 : n < 4611686018427387904) : wrap64 (j + 1) = j + 1 := by unfold wrap64; omega
theorem weight_Sum.ret {a b : Int} (h : a = b) : Ending.returned (.int .u32 a) = .returned (.int .u32 b) := by rw [h]
def weight_Sum.Inner (b : List Int) (z : Int) (v4 v18 : Value) : Prop := ∃ (s j : Int), v4 = .int .u32 s ∧ v18 = .int .i64 j ∧ 0 ≤ j ∧ j ≤ (b.length : Int) ∧ Aside0 (weight_Sum.piece s (b.drop j.toNat) = z)
theorem weight_Sum.info : (Try.prog.info? 81).map (·.size) = some 16 := by kernel_rfl
theorem weight_Sum.zero : ((Try.prog.info? 81).bind (·.zero)).map (·.cells.size) = some 16 := by kernel_rfl
theorem weight_Sum.store (w : World) : (storeCells ⟨w.heap.size, 0, none⟩ (List.map (Value.int .u32) weight_Sum.tab)).run Try.prog (w.alloc (.cells #[Value.int .u32 0, Value.int .u32 0, Value.int .u32 0, Value.int .u32 0, Value.int .u32 0, Value.int .u32 0, Value.int .u32 0, Value.int .u32 0, Value.int .u32 0, Value.int .u32 0, Value.int .u32 0, Value.int .u32 0, Value.int .u32 0, Value.int .u32 0, Value.int .u32 0, Value.int .u32 0] 81)) = .ok () (w.alloc (.cells (List.map (Value.int .u32) weight_Sum.tab).toArray 81)) :=
  run_storeCells_new w 81 _ (List.map (Value.int .u32) weight_Sum.tab).toArray weight_Sum.info rfl (by simp [Value.oneCell'])
theorem weight_Sum.cell (w : World) (m : Int) (h0 : 0 ≤ m) (h1 : m < 16) : (w.alloc (.cells (List.map (Value.int .u32) weight_Sum.tab).toArray 81)).cell? ⟨w.heap.size, m.toNat, none⟩ = some (.int .u32 (rd weight_Sum.tab m)) := by
  rw [cell_of_row _ _ _ _ _ _ (heap_alloc_last _ _)]
  have hl : m.toNat < weight_Sum.tab.length := by have : weight_Sum.tab.length = 16 := rfl; omega
  simp [rd, List.getD, hl]
theorem weight_Sum.and15 (x : Int) : 0 ≤ Go.bits .and .u32 x 15 ∧ Go.bits .and .u32 x 15 < 16 := by
  have e : bits .and .u32 x 15 = IntKind.u32.wrap (((BitVec.ofInt 32 x &&& BitVec.ofInt 32 15).toNat : Nat) : Int) := rfl
  have h : (BitVec.ofInt 32 x &&& BitVec.ofInt 32 15).toNat ≤ 15 := by rw [BitVec.toNat_and]; exact Nat.and_le_right
  have hw : ∀ y : Int, IntKind.u32.wrap y = y % 4294967296 := by intro y; simp [IntKind.wrap, IntKind.bits, IntKind.signed]
  rw [e, hw]; omega
set_option maxHeartbeats 60000000 in
set_option maxRecDepth 100000 in
theorem weight_Sum.calls (A0 : Option Addr) (c0 : Nat) (l0 : List (List Int)) (r : Int) (w : World) (hr0 : Kd.C (Kd.slice 5 (Kd.int .u8)) w A0 l0.length l0) (hc0 : l0.length ≤ c0) (h : weight_Sum.f l0 = some r) :
    Calls Try.prog 35 #[.slice A0 l0.length c0] w fun e w' => e = .returned (.int .u32 r) ∧ Below w.heap.size w w' := by
  have HR0 := Aside0.mk hr0
  have HC0 := Aside0.mk hc0
  clear hr0 hc0
  have HB := Aside0.mk (Below.refl w.heap.size w)
  unfold weight_Sum.f at h
  have hfit : weight_Sum.fit l0 = true := by
    by_cases hf : weight_Sum.fit l0 = true
    · exact hf
    · rw [if_neg hf] at h; cases h
  rw [if_pos hfit] at h
  have Hr := Aside0.mk (Option.some.inj h)
  clear h
  have HF := Aside0.mk hfit
  have HLEN : Aside0 ((l0.length : Int) < 4611686018427387904) := ⟨by
    unfold weight_Sum.fit at hfit
    rw [Bool.and_eq_true] at hfit
    have := of_decide_eq_true hfit.1
    omega⟩
  clear hfit
  go_enter Try.func35, Try.ntmps35
  have hst := weight_Sum.store w
  go_wp2_with (first | (refine wpList_buildFlatArr rfl 81 67 16 _ rfl .u32 weight_Sum.tab Try.underlying81 (by kernel_rfl) weight_Sum.zero (by kernel_rfl) ?_))
  clear hst
  obtain ⟨W1, hW1⟩ : ∃ W, W = w.alloc (.cells (List.map (Value.int .u32) weight_Sum.tab).toArray 81) := ⟨_, rfl⟩
  rw [← hW1]
  have HT : Aside0 (∀ m : Int, 0 ≤ m → m < 16 → W1.cell? ⟨w.heap.size, m.toNat, none⟩ = some (.int .u32 (rd weight_Sum.tab m))) := ⟨by rw [hW1]; exact weight_Sum.cell w⟩
  have HB1 : Aside0 (Below w.heap.size w W1) := ⟨by rw [hW1]; exact b_a HB.out _⟩
  clear hW1
  go_loop [4, 12] (fun v4 v12 => ∃ (s i : Int), v4 = .int .u32 s ∧ v12 = .int .i64 i ∧ 0 ≤ i ∧ i ≤ (l0.length : Int) ∧ Aside0 ((l0.drop i.toNat).foldl weight_Sum.piece s = l0.foldl weight_Sum.piece 4294967295)) (fun _ i => l0.length - (intOf i).toNat)
  case atStart => exact ⟨4294967295, 0, rfl, rfl, by omega, by omega, ⟨rfl⟩⟩
  case round =>
    obtain ⟨s, i, rfl, rfl, hi0, hi1, HS⟩ := hrel
    by_cases hlt : i < (l0.length : Int)
    · have q1 : decide (0 ≤ i) = true := decide_eq_true hi0
      have q2 : decide (i < (l0.length : Int)) = true := decide_eq_true hlt
      obtain ⟨ad, A', c', e', hx, hl, hin⟩ := weight_Sum.at HR0.out i hi0 hlt
      cases e'
      replace hx := (HB1.out.cell (World.block_lt_of_cell? w _ hx)).trans hx
      have HR1 := Aside0.mk hin
      have HC1 := Aside0.mk hl
      clear hin hl
      have HBL : Aside0 (((weight_Sum.rdp l0 i).length : Int) < 4611686018427387904) := ⟨by have := weight_Sum.bound l0 i HF.out hi0 hlt; omega⟩
      go_wp2
      go_loop [4, 18] (weight_Sum.Inner (weight_Sum.rdp l0 i) (weight_Sum.piece s (weight_Sum.rdp l0 i))) (fun _ j => (weight_Sum.rdp l0 i).length - (intOf j).toNat)
      case atStart => exact ⟨s, 0, rfl, rfl, by omega, by omega, ⟨rfl⟩⟩
      case round =>
        obtain ⟨t, j, rfl, rfl, hj0, hj1, HJ⟩ := hrel
        by_cases hjt : j < ((weight_Sum.rdp l0 i).length : Int)
        · have p1 : decide (0 ≤ j) = true := decide_eq_true hj0
          have p2 : decide (j < ((weight_Sum.rdp l0 i).length : Int)) = true := decide_eq_true hjt
          obtain ⟨ae, ee, hy⟩ := Kd.at_int HR1.out j hj0 hjt
          cases ee
          replace hy := (HB1.out.cell (World.block_lt_of_cell? w _ hy)).trans hy
          obtain ⟨x, hX⟩ : ∃ x, rd (weight_Sum.rdp l0 i) j = x := ⟨_, rfl⟩
          rw [hX] at hy
          have HX := Aside0.mk hX
          clear hX
          obtain ⟨y, hY⟩ : ∃ y, IntKind.u32.wrap x = y := ⟨_, rfl⟩
          obtain ⟨m, hM⟩ : ∃ m, Go.bits .and .u32 (Go.bits .xor .u32 t y) 15 = m := ⟨_, rfl⟩
          have m0 := (weight_Sum.and15 (Go.bits .xor .u32 t y)).1
          have m1 := (weight_Sum.and15 (Go.bits .xor .u32 t y)).2
          rw [hM] at m0 m1
          have hcm := HT.out m m0 m1
          obtain ⟨g, hG⟩ : ∃ g, Go.bits .xor .u32 (rd weight_Sum.tab m) (t / 16) = g := ⟨_, rfl⟩
          obtain ⟨m', hM'⟩ : ∃ m', Go.bits .and .u32 (Go.bits .xor .u32 g (y / 16)) 15 = m' := ⟨_, rfl⟩
          have m0' := (weight_Sum.and15 (Go.bits .xor .u32 g (y / 16))).1
          have m1' := (weight_Sum.and15 (Go.bits .xor .u32 g (y / 16))).2
          rw [hM'] at m0' m1'
          have hcm' := HT.out m' m0' m1'
          have HST : Aside0 (Go.bits .xor .u32 (rd weight_Sum.tab m') (g / 16) = weight_Sum.step t x) := ⟨by
            unfold weight_Sum.step weight_Sum.h1
            rw [hY, hM, hG, hM']⟩
          go_wp2
          have hw : wrap64 (j + 1) = j + 1 := weight_Sum.wr j _ hj0 hjt HBL.out
          go_round
          case rel => exact ⟨_, j + 1, by rw [HST.out], by rw [hw], by omega, by omega, ⟨by
            rw [← HJ.out, weight_Sum.next (weight_Sum.rdp l0 i) t j hj0 hjt, HX.out]⟩⟩
          case measure => rw [hw]; simp [intOf]; omega
        · have p2 : decide (j < ((weight_Sum.rdp l0 i).length : Int)) = false := decide_eq_false hjt
          have ht : t = weight_Sum.piece s (weight_Sum.rdp l0 i) := by
            have := HJ.out
            rw [List.drop_of_length_le (by omega)] at this
            exact this
          have HT2 := Aside0.mk ht
          clear ht
          go_wp2
          have hw : wrap64 (i + 1) = i + 1 := weight_Sum.wr i _ hi0 hlt HLEN.out
          go_round
          case rel => exact ⟨_, i + 1, rfl, by rw [hw], by omega, by omega, ⟨by
            rw [← HS.out, weight_Sum.nextL l0 s i hi0 hlt, HT2.out]⟩⟩
          case measure => rw [hw]; simp [intOf]; omega
    · have q2 : decide (i < (l0.length : Int)) = false := decide_eq_false hlt
      have hs : s = l0.foldl weight_Sum.piece 4294967295 := by
        have := HS.out
        rw [List.drop_of_length_le (by omega)] at this
        exact this
      have HS2 := Aside0.mk hs
      clear hs
      go_wp2
      go_ret
      exact ⟨weight_Sum.ret (by rw [HS2.out, ← Hr.out]; rfl), HB1.out⟩
/-! ### frame_Pack: function 25, by hand -/
def frame_Pack.f (a0 : Int) (l1 : List Int) : Option (List Int × Int) := if (l1.length : Int) > 1048576 then some ([], 140) else (frame_four.f [80, 76, 1, a0] ((l1.length : Int) % 4294967296)).bind fun b1 => (if b1.length + l1.length < 140737488355328 then ((weight_Sum.f [b1 ++ l1]).bind fun s => ((frame_four.f (b1 ++ l1) s).bind fun r => some (r, 0))) else none)
set_option maxHeartbeats 8000000 in
set_option maxRecDepth 100000 in
theorem frame_Pack.calls (a0 : Int) (A1 : Option Addr) (c1 : Nat) (l1 : List Int) (r1 : List Int) (r2 : Int) (w : World) (hr1 : Kd.C (Kd.int .u8) w A1 l1.length l1) (hc1 : l1.length ≤ c1) (h : frame_Pack.f a0 l1 = some (r1, r2)) :
    Calls Try.prog 25 #[.int .u8 a0, .slice A1 l1.length c1] w fun e w' => ∃ v0_ : Value, e = .returned (.tuple #[v0_, .int .i64 r2]) ∧ Kd.R (Kd.int .u8) 5 w' w.heap.size (fun _ => True) v0_ r1 ∧ Below w.heap.size w w' := by
  have HR1 := Aside0.mk hr1
  have HC1 := Aside0.mk hc1
  clear hr1 hc1
  have HB := Aside0.mk (Below.refl w.heap.size w)
  unfold frame_Pack.f at h
  by_cases c : (l1.length : Int) > 1048576
  · rw [if_pos c] at h
    simp only [Option.some.injEq, Prod.mk.injEq] at h
    obtain ⟨rfl, rfl⟩ := h
    have cb : decide (1048576 < (l1.length : Int)) = true := decide_eq_true c
    go_enter Try.func25, Try.ntmps25
    go_wp2
    go_ret2
    exact ⟨_, rfl, Kd.R_nil _ _ _ _ _, HB.out⟩
  · rw [if_neg c] at h
    have cb : decide (1048576 < (l1.length : Int)) = false := decide_eq_false c
    clear c
    obtain ⟨b1, h1, h⟩ := Option.bind_eq_some_iff.1 h
    have H1 := Aside0.mk h1
    clear h1
    by_cases c2 : b1.length + l1.length < 140737488355328
    · rw [if_pos c2] at h
      have HC2 := Aside0.mk c2
      clear c2
      obtain ⟨s, h2, h⟩ := Option.bind_eq_some_iff.1 h
      obtain ⟨r, h3, h⟩ := Option.bind_eq_some_iff.1 h
      simp only [Option.some.injEq, Prod.mk.injEq] at h
      obtain ⟨rfl, rfl⟩ := h
      obtain ⟨bl, hbl⟩ : ∃ bl, bl = b1 ++ l1 := ⟨_, rfl⟩
      rw [← hbl] at h2 h3
      have H2 := Aside0.mk h2
      have H3 := Aside0.mk h3
      have HBL := Aside0.mk hbl
      clear h2 h3 hbl
      go_enter Try.func25, Try.ntmps25
      go_wp2_with (first | ((with_reducible refine gate_dst (N := 11) rfl ?_); refine Kd.R_lit (Kd.int .u8) _ 5 ?hg (N := 11) ?hd (xs := ([80, 76, 1, a0] : List Int)) (inner := [.int .u8 80, .int .u8 76, .int .u8 1, .int .u8 a0]) (ok := fun _ => True) (okp := fun _ => True) ?hr ?hp (fun _ hk => hk) trivial (Below.refl _ _) (Nat.le_refl _) (by simp) ?_; (case hd => rfl); (case hg => rfl); (case hr => first | (go_simp; done) | (go_simp; rfl)); (case hp => exact (Reps.one (show Kd.M (Kd.int .u8) _ _ _ 80 [.int .u8 80] from rfl) (Reps.one (show Kd.M (Kd.int .u8) _ _ _ 76 [.int .u8 76] from rfl) (Reps.one (show Kd.M (Kd.int .u8) _ _ _ 1 [.int .u8 1] from rfl) (Reps.one (show Kd.M (Kd.int .u8) _ _ _ a0 [.int .u8 a0] from rfl) (Reps.none _ _)))))); intro v1 w1 ho hb hg_ hnew_; clear hg_ hnew_; have HO1 := Aside0.mk ho; have HB1 := Aside0.mk hb; clear ho hb) | (go_at_call 34; (with_reducible refine (frame_four.calls (fun _ => True) v1 [80, 76, 1, a0] ((l1.length : Int) % 4294967296) b1 w _ HB1.out HO1.out H1.out).mono ?_); rintro e w2 ⟨v2, rfl, ho, hb, _⟩; have HO2 := Aside0.mk (Kd.R_mono (ok' := fun _ => True) ho (fun _ _ => trivial)); have HB2 := Aside0.mk hb; clear ho hb) | ((with_reducible refine gate_builtin (b := .append) (xs := #[.tmp 15, .tmp 16]) rfl ?_); at_builtin; refine Kd.R_append_rows (Kd.int .u8) (w0 := w) w.heap.size rfl (.tmp 15) (.tmp 16) 29 5 (.int .u8 0) 1 rfl Try.underlying29 info5 rfl (by decide) (by omega) v2 b1 l1 _ _ _ (fun _ => True) (fun _ => False) rfl rfl ?aO ?aR (fun _ _ h => h) (fun _ h => h.elim) ?aF ?aB ?aS ?aL ?_; (case aR => exact Kd.C_below HR1.out HB2.out); (case aB => exact HB2.out); (case aF => exact fun _ _ => trivial); (case aO => exact HO2.out); (case aS => exact HB2.out.size); (case aL => have := HC2.out; omega); intro v3 w3 ho hb hg hat; rw [← HBL.out] at ho; have HO3 := Aside0.mk ho; have HB3 := Aside0.mk hb; clear ho hb hg hat; obtain ⟨A3, c3, e3⟩ := Kd.R_slice HO3.out; subst e3) | (go_at_call 35; refine (weight_Sum.calls (some ⟨w3.heap.size, 0, none⟩) 1 [bl] s _ ?hC ?hN H2.out).mono ?_; (case hN => exact Nat.le_refl _); (case hC => exact C_blkS (cs := [.slice A3 bl.length c3]) (ls := [bl]) (by simp) (top_alloc _ _ _ rfl) (one_at (Kd.R_reads' HO3.out).2.1 (Kd.C_below (Kd.R_reads' HO3.out).2.2 (b_a (Below.refl _ _) _)))); rintro e w5 ⟨rfl, hb⟩; have HO5 := Aside0.mk (Kd.R_below (Kd.R_alloc HO3.out _) hb); have HB5 := Aside0.mk (below_step (b_a HB3.out _) hb); clear hb) | (go_at_call 34; (with_reducible refine (frame_four.calls (fun _ => True) (.slice A3 bl.length c3) bl s r w _ HB5.out HO5.out H3.out).mono ?_); rintro e w6 ⟨v6, rfl, ho, hb, _⟩; have HO6 := Aside0.mk (Kd.R_mono (ok' := fun _ => True) ho (fun _ _ => trivial)); have HB6 := Aside0.mk hb; clear ho hb))
      go_ret2
      exact ⟨_, rfl, HO6.out, HB6.out⟩
    · rw [if_neg c2] at h; cases h
end Go.Proofs.Ytnkphgiodpledaa.QMsgBack
