-- Written by a program of this session (a turned copy of the print) out of the translation. Lean checks it.
import Derived.Test.YtpaamdppobcmnaaQNetActsx0
namespace Go.Proofs.Ytpaamdppobcmnaa.QNetActs
open Go.RowKit Go.Proofs.YtpaamdppobcmnaaW.PrintWords Go.Proofs.YtpaamdppobcmnaaW.PrintLast Go.Proofs.YtpaamdppobcmnaaW.PrintMore
attribute [local go_sem] max2_int min2_int max_two min_two max_three min_three max_four min_four   -- for this text's walks alone
open Go.Proofs.YtpaamdppobcmnaaW.PrintWords renaming below_alloc → b_a, pw_below_drewN → b_n, below_drew1 → b_d, below_set → b_s, blk_drewN → k_n, blk_drew → k_d, blk_alloc → k_a
open List renaming setIfInBounds_toArray → l_1, set_cons_zero → l_2, set_cons_succ → l_3, map_toArray → l_4, map_cons → l_5, map_nil → l_6, length_drop → l_7, length_take → l_8
set_option linter.unusedVariables false
set_option linter.unusedSimpArgs false

/-! ### net_New: function 7, by hand -/
/-! what a call may change: the blocks of S alone -/
def Upd (S : Nat → Prop) (w W : World) : Prop := W.os = w.os ∧ W.tape = w.tape ∧ W.output = w.output ∧ w.heap.size ≤ W.heap.size ∧ ∀ i, i < w.heap.size → ¬ S i → W.heap[i]? = w.heap[i]?
section
variable {S S' : Nat → Prop} {w w0 W V : World}
theorem Upd.refl (S : Nat → Prop) (w : World) : Upd S w w := ⟨rfl, rfl, rfl, Nat.le_refl _, fun _ _ _ => rfl⟩
theorem Upd.of_below (hb : Below w.heap.size w W) : Upd S w W := ⟨hb.os, hb.tape, hb.output, hb.size, fun i hi _ => hb.block i hi⟩
theorem Upd.of_grown {row : Option Nat} (h : w.grownBy W row) (hr : ∀ k, row = some k → S k) : Upd S w W := ⟨h.os, h.tape, h.output, h.size, fun i hi hs => h.block i hi (fun e => hs (hr i e.symm))⟩
theorem Upd.of_set (g i : Nat) (u : Value) (hg : S g) : Upd S w (w.setCell ⟨g, i, none⟩ u) :=
  ⟨rfl, rfl, rfl, by simp [World.setCell], fun k _ hs => Below.heap_setCell w ⟨g, i, none⟩ u k (fun e => hs (by have e' : k = g := e; rw [e']; exact hg))⟩
theorem Upd.trans (h : Upd S w W) (k : Upd S' W V) (hS : ∀ i, i < w.heap.size → S' i → S i) : Upd S w V :=
  ⟨k.1.trans h.1, k.2.1.trans h.2.1, k.2.2.1.trans h.2.2.1, Nat.le_trans h.2.2.2.1 k.2.2.2.1, fun i hi hs => (k.2.2.2.2 i (Nat.lt_of_lt_of_le hi h.2.2.2.1) (fun h2 => hs (hS i hi h2))).trans (h.2.2.2.2 i hi hs)⟩
theorem Upd.mono (h : Upd S w W) (hS : ∀ i, i < w.heap.size → S i → S' i) : Upd S' w W := ⟨h.1, h.2.1, h.2.2.1, h.2.2.2.1, fun i hi hs => h.2.2.2.2 i hi (fun h2 => hs (hS i hi h2))⟩
theorem Upd.blk {g : Nat} {o : Obj} (h : Upd S w W) (hb : w.heap[g]? = some o) (hg : ¬ S g) : W.heap[g]? = some o := (h.2.2.2.2 g (blk_lt hb) hg).trans hb
theorem Upd.drew (h : Upd S w W) : Upd S w W.drew := h
theorem Upd.size (h : Upd S w W) : w.heap.size ≤ W.heap.size := h.2.2.2.1
theorem Upd.belowB {B : Nat} (hb : Below B w0 w) (hB : B ≤ w.heap.size) (h : Upd S w W) (hS : ∀ i, S i → B ≤ i) : Below B w0 W :=
  ⟨h.1.trans hb.os, h.2.1.trans hb.tape, h.2.2.1.trans hb.output, Nat.le_trans hb.size h.2.2.2.1, fun k hk => (h.2.2.2.2 k (Nat.lt_of_lt_of_le hk hB) (fun h2 => Nat.lt_irrefl _ (Nat.lt_of_lt_of_le hk (hS k h2)))).trans (hb.block k hk)⟩
end
/-- a whole struct or array goes into its block: the block behind, and that nothing else turned -/
theorem stU_ {P : Program} {ops : Array Oper} {rest : List Oper} {o : Oper} {a : Act} {Q : Exit → Act → World → Prop} {W : World} {T : TypeId} {p v : Operand} {g t : Nat} {cs cur : Array Value} (hgd : o.guard = none) (hd : o.dst = none) (hop : o.op = .store T p v) (hp : a.eval p = .pointer (some ⟨g, 0, none⟩)) (hv : a.eval v = .agg cs)
    (hb : W.heap[g]? = some (.cells cur t (0, 0))) (hn : cur.size = cs.size) (hi : (P.info? T).map (·.size) = some cs.size) (h1 : cs.all (·.oneCell') = true)
    (h : ∀ W' : World, W'.heap[g]? = some (.cells cs t (0, 0)) → Upd (fun k => k = g) W W' → wpList P ops Q rest a W') : wpList P ops Q (o :: rest) a W := by
  refine wpList_plain hgd fun K hK => ?_
  have hth : W.there g 0 cs.size := fun j hj => ⟨by
    rw [Nat.zero_add, blk_cell hb j, Array.getElem?_eq_getElem (by omega)]
    rfl, blk_frozen hb _⟩
  have hr := run_storeAt_mid (P := P) W g 0 T cs hth hi h1
  obtain ⟨cur', e1, e2, e3⟩ := setCells_row cs.toList 0 W cur hb (by simp; omega)
  have hc : cur' = cs := by
    apply Array.toList_inj.1
    rw [e3]
    simp [hn]
  subst hc
  unfold Oper.wp execOp
  simp only [hop, hp, hv, Sem.run_bind, hr, Result.andThen_ok]
  obtain ⟨s1, s2, s3, s4⟩ := setCells_same g cur'.toList 0 W
  have h2 := hK (a.put o.dst undef) _ (by rw [hd]; exact h _ e1 ⟨s1, s2, s3, Nat.le_of_eq s4.symm, fun k _ hk => setCells_far hk _ _ _⟩)
  exact h2
/-! a packet: from, to, its bytes; a net: its room, its packets, its counts -/
abbrev NP := Int × Int × List Int
def npk (e : Nat) : Kd NP := Kd.pair (Kd.int .i64) (Kd.pair (Kd.int .i64) (Kd.slice e (Kd.int .u8)))
theorem npk_sz (e : Nat) : (npk e).sz = 3 := rfl
theorem npk_mk {e base : Nat} {w : World} {ok : Nat → Prop} (x y : Int) {v : Value} {b : List Int} (h : (Kd.int .u8).R e w base ok v b) : (npk e).M w base ok (x, y, b) [.int .i64 x, .int .i64 y, v] :=
  ⟨[.int .i64 x], [.int .i64 y, v], rfl, rfl, [.int .i64 y], [v], rfl, rfl, v, rfl, h⟩
theorem npk_inv {e base : Nat} {w : World} {ok : Nat → Prop} {p : NP} {cs : List Value} (h : (npk e).M w base ok p cs) : ∃ v, cs = [.int .i64 p.1, .int .i64 p.2.1, v] ∧ (Kd.int .u8).R e w base ok v p.2.2 := by
  obtain ⟨c0, c1, rfl, h0, c2, c3, rfl, h2, v, rfl, hv⟩ := h
  have e0 : c0 = [.int .i64 p.1] := h0
  have e2 : c2 = [.int .i64 p.2.1] := h2
  subst e0; subst e2
  exact ⟨v, rfl, hv⟩
theorem npk_K {e : Nat} {w : World} {p : NP} {cs : List Value} (h : (npk e).K w p cs) : ∃ A c, cs = [.int .i64 p.1, .int .i64 p.2.1, .slice A p.2.2.length c] ∧ p.2.2.length ≤ c ∧ (Kd.int .u8).C w A p.2.2.length p.2.2 := by
  obtain ⟨c0, c1, rfl, h0, c2, c3, rfl, h2, A, c, rfl, hl, hv⟩ := h
  have e0 : c0 = [.int .i64 p.1] := h0
  have e2 : c2 = [.int .i64 p.2.1] := h2
  subst e0; subst e2
  exact ⟨A, c, rfl, hl, hv⟩
theorem npk_mkK {e : Nat} {w : World} (x y : Int) {A : Option Addr} {c : Nat} {b : List Int} (hl : b.length ≤ c) (h : (Kd.int .u8).C w A b.length b) : (npk e).K w (x, y, b) [.int .i64 x, .int .i64 y, .slice A b.length c] :=
  ⟨[.int .i64 x], [.int .i64 y, .slice A b.length c], rfl, rfl, [.int .i64 y], [.slice A b.length c], rfl, rfl, A, c, rfl, hl, h⟩
def NetAt (T E e : Nat) (W : World) (base g : Nat) (ok : Nat → Prop) (room : Int) (L : List NP) (c0 c1 c2 c3 : Int) (v : Value) : Prop :=
  base ≤ g ∧ ¬ ok g ∧ W.heap[g]? = some (.cells #[.int .i64 room, v, .int .i64 c0, .int .i64 c1, .int .i64 c2, .int .i64 c3] T (0, 0)) ∧ Kd.S (npk e) E W base ok v L
section
variable {T E e base g : Nat} {ok ok' S : Nat → Prop} {w W : World} {room c0 c1 c2 c3 : Int} {L : List NP} {v : Value}
theorem NetAt.upd (h : NetAt T E e w base g ok room L c0 c1 c2 c3 v) (hu : Upd S w W) (hs : ∀ k, ok k → k < w.heap.size → ¬ S k) (hg : ¬ S g) : NetAt T E e W base g ok room L c0 c1 c2 c3 v :=
  ⟨h.1, h.2.1, hu.blk h.2.2.1 hg, Kd.S_step h.2.2.2 (fun k hk hlt => hu.2.2.2.2 k hlt (hs k hk hlt))⟩
theorem NetAt.below (h : NetAt T E e w base g ok room L c0 c1 c2 c3 v) (hb : Below w.heap.size w W) : NetAt T E e W base g ok room L c0 c1 c2 c3 v :=
  ⟨h.1, h.2.1, blk_below h.2.2.1 hb, Kd.S_below h.2.2.2 hb⟩
theorem NetAt.drew (h : NetAt T E e w base g ok room L c0 c1 c2 c3 v) : NetAt T E e w.drew base g ok room L c0 c1 c2 c3 v := ⟨h.1, h.2.1, h.2.2.1, Kd.S_drew h.2.2.2⟩
theorem NetAt.mono (h : NetAt T E e w base g ok room L c0 c1 c2 c3 v) (hok : ∀ k, ok k → ok' k) (hg : ¬ ok' g) : NetAt T E e w base g ok' room L c0 c1 c2 c3 v := ⟨h.1, hg, h.2.2.1, Kd.S_mono h.2.2.2 hok⟩
theorem NetAt.cells (h : NetAt T E e w base g ok room L c0 c1 c2 c3 v) : w.cell? ⟨g, 0, none⟩ = some (.int .i64 room) ∧ w.cell? ⟨g, 1, none⟩ = some v ∧ w.cell? ⟨g, 2, none⟩ = some (.int .i64 c0) ∧ w.cell? ⟨g, 3, none⟩ = some (.int .i64 c1) ∧ w.cell? ⟨g, 4, none⟩ = some (.int .i64 c2) ∧ w.cell? ⟨g, 5, none⟩ = some (.int .i64 c3) ∧ w.frozen? ⟨g, 0, none⟩ = false ∧ w.frozen? ⟨g, 1, none⟩ = false ∧ w.frozen? ⟨g, 2, none⟩ = false ∧ w.frozen? ⟨g, 3, none⟩ = false ∧ w.frozen? ⟨g, 4, none⟩ = false ∧ w.frozen? ⟨g, 5, none⟩ = false :=
  ⟨(blk_cell h.2.2.1 0).trans rfl, (blk_cell h.2.2.1 1).trans rfl, (blk_cell h.2.2.1 2).trans rfl, (blk_cell h.2.2.1 3).trans rfl, (blk_cell h.2.2.1 4).trans rfl, (blk_cell h.2.2.1 5).trans rfl, blk_frozen h.2.2.1 0, blk_frozen h.2.2.1 1, blk_frozen h.2.2.1 2, blk_frozen h.2.2.1 3, blk_frozen h.2.2.1 4, blk_frozen h.2.2.1 5⟩
theorem NetAt.slice_ (h : NetAt T E e w base g ok room L c0 c1 c2 c3 v) : ∃ A c, v = .slice A L.length c ∧ L.length ≤ c ∧ (npk e).C w A L.length L := Kd.S_reads h.2.2.2
end
theorem cells6 {w : World} {g t : Nat} {a b c d e f : Value} (h : w.heap[g]? = some (.cells #[a, b, c, d, e, f] t (0, 0))) : w.cell? ⟨g, 0, none⟩ = some a ∧ w.cell? ⟨g, 1, none⟩ = some b ∧ w.cell? ⟨g, 2, none⟩ = some c ∧ w.cell? ⟨g, 3, none⟩ = some d ∧ w.cell? ⟨g, 4, none⟩ = some e ∧ w.cell? ⟨g, 5, none⟩ = some f ∧ w.frozen? ⟨g, 0, none⟩ = false ∧ w.frozen? ⟨g, 1, none⟩ = false ∧ w.frozen? ⟨g, 2, none⟩ = false ∧ w.frozen? ⟨g, 3, none⟩ = false ∧ w.frozen? ⟨g, 4, none⟩ = false ∧ w.frozen? ⟨g, 5, none⟩ = false :=
  ⟨(blk_cell h 0).trans rfl, (blk_cell h 1).trans rfl, (blk_cell h 2).trans rfl, (blk_cell h 3).trans rfl, (blk_cell h 4).trans rfl, (blk_cell h 5).trans rfl, blk_frozen h 0, blk_frozen h 1, blk_frozen h 2, blk_frozen h 3, blk_frozen h 4, blk_frozen h 5⟩
theorem cells3 {w : World} {g t : Nat} {a b c : Value} (h : w.heap[g]? = some (.cells #[a, b, c] t (0, 0))) : w.cell? ⟨g, 0, none⟩ = some a ∧ w.cell? ⟨g, 1, none⟩ = some b ∧ w.cell? ⟨g, 2, none⟩ = some c ∧ w.frozen? ⟨g, 0, none⟩ = false ∧ w.frozen? ⟨g, 1, none⟩ = false ∧ w.frozen? ⟨g, 2, none⟩ = false :=
  ⟨(blk_cell h 0).trans rfl, (blk_cell h 1).trans rfl, (blk_cell h 2).trans rfl, blk_frozen h 0, blk_frozen h 1, blk_frozen h 2⟩
theorem NetAt.bound {T E e base g : Nat} {ok : Nat → Prop} {w : World} {room c0 c1 c2 c3 : Int} {L : List NP} {v : Value} (h : NetAt T E e w base g ok room L c0 c1 c2 c3 v) : NetAt T E e w base g (fun k => ok k ∧ k < w.heap.size) room L c0 c1 c2 c3 v :=
  ⟨h.1, fun hk => h.2.1 hk.1, h.2.2.1, Kd.S_mono (Kd.S_bound h.2.2.2) (fun _ hk => ⟨hk.1, hk.2.2.1⟩)⟩
theorem NetAt.put {T E e base g : Nat} {ok : Nat → Prop} {w : World} {room c0 c1 c2 c3 : Int} {L : List NP} {v : Value} (h : NetAt T E e w base g ok room L c0 c1 c2 c3 v) (hT : E ≠ T) (he : e ≠ T) (i : Nat) (u : Value) (d0 d1 d2 d3 : Int) (hi : (#[.int .i64 room, v, .int .i64 c0, .int .i64 c1, .int .i64 c2, .int .i64 c3] : Array Value).setIfInBounds i u = #[.int .i64 room, v, .int .i64 d0, .int .i64 d1, .int .i64 d2, .int .i64 d3]) :
    NetAt T E e (w.setCell ⟨g, i, none⟩ u) base g ok room L d0 d1 d2 d3 v :=
  ⟨h.1, h.2.1, (blk_set h.2.2.1 i u).trans (by rw [hi]), Kd.S_far (p := ⟨g, i, none⟩) h.2.2.2 (fun k hk ek => h.2.1 (by have e' : k = g := ek; rw [← e']; exact hk)) u⟩
theorem wpapp {P : Program} {W : World} {ops : Array Oper} {rest : List Oper} {o : Oper} {a : Act} {Q : Exit → Act → World → Prop} (hgd : o.guard = none) (s x : Operand) (t : TypeId) (ho : o.op = .call { callee := .builtin .append, args := #[s, x], argTypes := #[t, t] }) (v u : Value) (hd : a.eval s = v) (hs : a.eval x = u) {v' : Value} {w' : World} (hr : (Builtin.append_ #[t, t] o.type #[v, u]).run P W = .ok v' w') (h : wpList P ops Q rest (a.put o.dst v') w') : wpList P ops Q (o :: rest) a W :=
  wpList_plain hgd fun _ hK => by
    unfold Oper.wp execOp
    simp only [ho, resolve, invoke, builtin, Sem.run_bind, Sem.run_pure, Result.andThen_ok, List.map_toArray, List.map_cons, List.map_nil, hd, hs, hr]
    exact hK _ _ h
theorem net_info31 : (Try.prog.info? 31).map (fun i => (i.zero, i.size, i.bytes)) = some (some (.agg #[.int .i64 0, .int .i64 0, .slice none 0 0]), 3, 40) := by kernel_rfl
theorem bld31_ {P : Program} {ev : Operand → Value} {o : Oper} {W : World} {t e : TypeId} {x : Operand} {v0 v1 v2 : Value} (z0 z1 z2 : Value) (ho : o.op = .buildSlice t 1 #[(0, x)]) (hx : ev x = .agg #[v0, v1, v2]) (hu : P.underlying t = some (.slice e) := by kernel_rfl) (hi : (P.info? e).map (fun i => (i.zero, i.size)) = some (some (.agg #[z0, z1, z2]), 3) := by kernel_rfl) :
    (execOp ev o).run P W = .ok (.value (.slice (some ⟨W.heap.size, 0, none⟩) 1 1)) (W.alloc (.cells #[v0, v1, v2] e)) :=
  bld_ 3 (.agg #[z0, z1, z2]) ho rfl (by simp only [l_4, l_5, l_6, List.map_toArray, List.map_cons, List.map_nil, hx]; kernel_rfl) hu hi rfl rfl
theorem net_ok1 {okA okp : Nat → Prop} {g n : Nat} (h1 : ¬ okA g) (h2 : ∀ k, okp k → ¬ okA k ∧ k ≠ g) (h3 : g < n) : ¬ ((okA g ∨ okp g) ∨ n ≤ g) := by
  rintro ((h | h) | h)
  · exact h1 h
  · exact (h2 g h).2 rfl
  · omega
/-- a net and the box of a packet beside it -/
def net_Box (T : Nat) (W : World) (base g gp : Nat) (okA : Nat → Prop) (room c0 c1 c2 c3 : Int) (L : List NP) (vL : Value) (x y : Int) (vb : Value) : Prop :=
  NetAt T 31 5 W base g okA room L c0 c1 c2 c3 vL ∧ W.heap[gp]? = some (.cells #[.int .i64 x, .int .i64 y, vb] 31 (0, 0)) ∧ (∀ k, okA k → k ≠ gp)
section
variable {T : Nat} {w W W' : World} {base g gp : Nat} {okA : Nat → Prop} {room c0 c1 c2 c3 : Int} {L : List NP} {vL : Value} {x y : Int} {vb : Value}
theorem net_Box.below (h : net_Box T w base g gp okA room c0 c1 c2 c3 L vL x y vb) (hb : Below w.heap.size w W) : net_Box T W base g gp okA room c0 c1 c2 c3 L vL x y vb :=
  ⟨h.1.below hb, blk_below h.2.1 hb, h.2.2⟩
theorem net_Box.held (h : net_Box T w base g gp okA room c0 c1 c2 c3 L vL x y vb) (hb : Below w.heap.size w W) : W.cell? ⟨g, 1, none⟩ = some vL ∧ W.cell? ⟨gp, 0, none⟩ = some (.int .i64 x) ∧ W.cell? ⟨gp, 1, none⟩ = some (.int .i64 y) ∧ W.cell? ⟨gp, 2, none⟩ = some vb :=
  ⟨(blk_cell (h.below hb).1.2.2.1 1).trans rfl, (blk_cell (h.below hb).2.1 0).trans rfl, (blk_cell (h.below hb).2.1 1).trans rfl, (blk_cell (h.below hb).2.1 2).trans rfl⟩
/-- behind the append: what is loaded stands as it stood; the net, once the slice is stored -/
theorem net_Box.grown (hT : 31 ≠ T) {w1 : World} {v1 : Value} {p : NP} {ok1 : Nat → Prop} (h : net_Box T w base g gp okA room c0 c1 c2 c3 L vL x y vb) (hS : Kd.S (npk 5) 31 w1 base ok1 v1 (L ++ [p])) (hg : w.grownBy w1 vL.ownBlock) (h1 : ¬ ok1 g) :
    (w1.cell? ⟨g, 1, none⟩ = some vL ∧ w1.cell? ⟨gp, 0, none⟩ = some (.int .i64 x) ∧ w1.cell? ⟨gp, 1, none⟩ = some (.int .i64 y) ∧ w1.cell? ⟨gp, 2, none⟩ = some vb) ∧ w1.frozen? ⟨g, 1, none⟩ = false ∧
    NetAt T 31 5 (w1.setCell ⟨g, 1, none⟩ v1) base g ok1 room (L ++ [p]) c0 c1 c2 c3 v1 ∧ Upd (fun k => okA k ∨ k = g) w (w1.setCell ⟨g, 1, none⟩ v1) ∧ (w1.setCell ⟨g, 1, none⟩ v1).heap[gp]? = some (.cells #[.int .i64 x, .int .i64 y, vb] 31 (0, 0)) := by
  have hown : ∀ k, vL.ownBlock = some k → okA k := by
    obtain ⟨f, h0, _⟩ := h.1.2.2.2
    exact h0
  have b1 : w1.heap[g]? = _ := (hg.block g (blk_lt h.1.2.2.1) (fun e => h.1.2.1 (hown g e.symm))).trans h.1.2.2.1
  have b2 : w1.heap[gp]? = _ := (hg.block gp (blk_lt h.2.1) (fun e => h.2.2 gp (hown gp e.symm) rfl)).trans h.2.1
  have hne : gp ≠ g := blk_ne h.2.1 h.1.2.2.1 hT
  exact ⟨⟨(blk_cell b1 1).trans rfl, (blk_cell b2 0).trans rfl, (blk_cell b2 1).trans rfl, (blk_cell b2 2).trans rfl⟩, blk_frozen b1 1,
    ⟨h.1.1, h1, blk_put b1 1 v1 rfl, Kd.S_far (p := ⟨g, 1, none⟩) hS (fun k hk e => h1 (by have e' : k = g := e; rw [← e']; exact hk)) v1⟩,
    (Upd.of_grown hg (S := fun k => okA k ∨ k = g) (fun k e => Or.inl (hown k e))).trans (Upd.of_set g 1 v1 (S := fun k => okA k ∨ k = g) (Or.inr rfl)) (fun _ _ hk => hk),
    blk_far b2 (p := ⟨g, 1, none⟩) hne v1⟩
end
set_option maxHeartbeats 8000000 in
set_option maxRecDepth 100000 in
theorem net_New.good (room : Int) (w : World) (base : Nat) (hb : base ≤ w.heap.size) (h0 : 0 ≤ room) (h1 : room ≤ 65536) :
    Calls Try.prog 7 #[.int .i64 room] w fun e w' => ∃ g, e = .returned (.tuple #[.pointer (some ⟨g, 0, none⟩), .int .i64 0]) ∧ NetAt 52 31 5 w' base g (fun _ => False) room [] 0 0 0 0 (.slice none 0 0) ∧ Below w.heap.size w w' ∧ g = w.heap.size := by
  have q1 : decide (room < 0) = false := decide_eq_false (by omega)
  have q2 : decide (65536 < room) = false := decide_eq_false (by omega)
  have HB0 := Aside0.mk hb
  clear hb h0 h1
  go_enter Try.func7, Try.ntmps7
  go_wp2_with (first | ((with_reducible refine gate_dst (N := 12) rfl ?_); refine box_event ?hg (N := 12) ?hd (cs := #[.int .i64 room, .slice none 0 0, .int .i64 0, .int .i64 0, .int .i64 0, .int .i64 0]) (t := 52) ?hr ?_; (case hd => rfl); (case hg => rfl); (case hr => first | (go_simp; done) | (go_simp; rfl)); intro g hg_ w2 hbox hbb; have K := Aside0.mk hbox; have HB := Aside0.mk hbb; have HG := Aside0.mk hg_; clear hbox hbb hg_))
  go_ret2
  exact ⟨g, rfl, ⟨by rw [HG.out]; exact HB0.out, id, K.out, Kd.S_nil _ _ _ _ _⟩, HB.out, HG.out⟩
set_option maxHeartbeats 8000000 in
set_option maxRecDepth 100000 in
theorem net_New.bad (room : Int) (w : World) (h : room < 0 ∨ 65536 < room) :
    Calls Try.prog 7 #[.int .i64 room] w fun e w' => e = .returned (.tuple #[.pointer none, .int .i64 2]) ∧ w = w' := by
  by_cases c : room < 0
  · have q1 : decide (room < 0) = true := decide_eq_true c
    clear h c
    go_enter Try.func7, Try.ntmps7
    go_wp2
    go_ret2
    exact ⟨rfl, rfl⟩
  · have q1 : decide (room < 0) = false := decide_eq_false c
    have q2 : decide (65536 < room) = true := decide_eq_true (by omega)
    clear h c
    go_enter Try.func7, Try.ntmps7
    go_wp2
    go_ret2
    exact ⟨rfl, rfl⟩
/-! ### bytes_Clone: function 25 -/
def bytes_Clone.f (l0 : List Int) : Option (List Int) := (some (([] : List Int) : List Int)).bind fun y101 => (if y101.length + l0.length < 140737488355328 then (some (y101 ++ l0)) else (none))
set_option maxHeartbeats 60000000 in
set_option maxRecDepth 100000 in
theorem bytes_Clone.calls_some (b0 : Addr) (c0 : Nat) (l0 : List Int) (r : List Int) (w : World) (hr0 : Kd.C (Kd.int .u8) w (some b0) l0.length l0) (hc0 : l0.length ≤ c0) (h : bytes_Clone.f l0 = some r) :
  Calls Try.prog 25 #[.slice (some b0) l0.length c0] w fun e w' => ∃ v0_ : Value, e = .returned (v0_) ∧ Kd.R (Kd.int .u8) 5 w' w.heap.size (fun _ => True) v0_ r ∧ Below w.heap.size w w' := by
 have hq_ : ∀ W : World, (binOp .eql 28 (.slice (some b0) l0.length c0) (.slice none 0 0)).run Try.prog W = .ok (.bool false) W := fun W => Go.Lib.run_eql_slice_nil W 28 5 (some b0) l0.length c0 0 0 Try.underlying28
 have HR0 := Aside0.mk hr0
 have HC0 := Aside0.mk hc0
 clear hr0 hc0
 have HB := Aside0.mk (Below.refl w.heap.size w)
 have H : ((some (([] : List Int) : List Int)).bind fun y101 => (if y101.length + l0.length < 140737488355328 then (some (y101 ++ l0)) else (none))) = some r := h
 clear h
 obtain ⟨y101, hy101⟩ : ∃ y_ : List Int, y_ = (([] : List Int)) := ⟨_, rfl⟩
 replace H : (if y101.length + l0.length < 140737488355328 then (some (y101 ++ l0)) else (none)) = some r := by first | (rw [hy101]; with_reducible exact H) | (have H2_ := (Option.bind_some _ _).symm.trans H; rw [hy101]; with_reducible exact H2_) | (have H2_ := (Option.bind_some _ _).symm.trans H; with_reducible exact H2_) | with_reducible exact H | (rw [hy101]; exact H) | exact H
 have Ny101 := Aside0.mk hy101
 clear hy101
 by_cases c2 : y101.length + l0.length < 140737488355328
 rotate_left
 ·
  rw [if_neg c2] at H
  exact absurd H (by simp)

 rw [if_pos c2] at H
 have LMc2 := Aside0.mk c2
 clear c2
 obtain ⟨y104, hy104⟩ : ∃ y_ : List Int, y_ = (y101 ++ l0) := ⟨_, rfl⟩
 replace H : (some y104) = some r := by first | (rw [hy104]; with_reducible exact H) | (have H2_ := (Option.bind_some _ _).symm.trans H; rw [hy104]; with_reducible exact H2_) | (have H2_ := (Option.bind_some _ _).symm.trans H; with_reducible exact H2_) | with_reducible exact H | (rw [hy104]; exact H) | exact H
 have Ny104 := Aside0.mk hy104
 clear hy104
 obtain rfl := Option.some.inj H
 go_enter Try.func25, Try.ntmps25
 go_wp2_with (first | ((with_reducible refine gate_dst (N := 5) rfl ?_); refine Kd.R_lit (Kd.int .u8) _ 5 ?hg (N := 5) ?hd (xs := ([] : List Int)) (inner := []) (ok := fun _ => True) (okp := fun _ => True) ?hr ?hp (fun _ hk => hk) trivial (Below.refl _ _) (Nat.le_refl _) (by simp) ?_; (case hd => rfl); (case hg => rfl); (case hr => first | (go_simp; done) | (go_simp; rfl)); (case hp => exact (Reps.none _ _)); intro v102 w3 ho4 hb hg_ hnew_; clear hg_ hnew_; (first | rw [← Ny101.out] at ho4 | (simp only [Int.reduceToNat] at ho4; rw [← Ny101.out] at ho4)); have HO103 := Aside0.mk (Kd.R_lower ho4 (below_size (bw_ HB))); replace HB := Aside0.mk (below_step (bw_ HB) hb); clear hb ho4) | ((with_reducible refine gate_builtin (b := .append) (xs := #[.tmp 5, .tmp 6]) rfl ?_); at_builtin; refine Kd.R_append_rows (Kd.int .u8) (w0 := w) w.heap.size rfl (.tmp 5) (.tmp 6) 28 5 (.int .u8 0) 1 rfl Try.underlying28 info5 rfl (by decide) (by omega) v102 y101 l0 _ _ _ (fun _ => True) (fun _ => False) rfl rfl ?aO ?aR (fun _ _ h => h) (fun _ h => h.elim) ?aF ?aB ?aS ?aL ?_; (case aR => repeat (first | exact (Kd.C_below HR0.out HB.out) | (with_reducible refine Kd.C_alloc ?_ _) | (with_reducible refine Kd.C_drewN ?_ _) | (with_reducible refine Kd.C_drew ?_))); (case aB => exact (bw_ HB)); (case aF => exact (fun _ _ => trivial)); (case aO => exact (tR_ HO103)); (case aS => exact (below_size (bw_ HB))); (case aL => have := LMc2.out; omega); intro v105 w5 ho hb hg hat; rw [← Ny104.out] at ho; have n0_ := Aside0.mk (hb); have n1_ := Aside0.mk (ho); clear HB; clear HO103; have HB := n0_; have HO106 := n1_; clear n0_ n1_; clear ho hb hg hat))
 go_ret
 exact ⟨_, by first | rfl | (simp [errW_none, errW_some] <;> rfl) | (simp [*, errW_none, errW_some] <;> rfl), by (with_reducible repeat (first | apply Kd.R_alloc | apply Kd.R_drewN | apply Kd.R_drew)); exact HO106.out, by repeat (first | (with_reducible first | exact HB.out | apply b_a | apply b_n | apply b_d) | exact HB.out)⟩
set_option maxHeartbeats 8000000 in
set_option maxRecDepth 100000 in
theorem bytes_Clone.calls (A0 : Option Addr) (c0 : Nat) (l0 : List Int) (r : List Int) (w : World) (hr0 : Kd.C (Kd.int .u8) w A0 l0.length l0) (hc0 : l0.length ≤ c0) (h : bytes_Clone.f l0 = some r) :
  Calls Try.prog 25 #[.slice A0 l0.length c0] w fun e w' => ∃ v0_ : Value, e = .returned (v0_) ∧ Kd.R (Kd.int .u8) 5 w' w.heap.size (fun _ => True) v0_ r ∧ Below w.heap.size w w' := by
 cases A0 with
 | some b0 => exact bytes_Clone.calls_some b0 c0 l0 r w hr0 hc0 h
 | none =>
  have hz : l0 = [] := by
   rcases Nat.eq_zero_or_pos l0.length with h0 | h0
   ·
    exact List.length_eq_zero_iff.1 h0
   ·
    obtain ⟨ad, e_, _⟩ := hr0.2.2 h0
    cases e_
  subst hz
  have hr_ : r = [] := by
   have h2 := h
   simp [bytes_Clone.f] at h2
   exact h2
  subst hr_
  clear h hr0
  have hq_ : ∀ (W : World) (m : Nat), (binOp .eql 28 (.slice none m c0) (.slice none 0 0)).run Try.prog W = .ok (.bool true) W := fun W m => Go.Lib.run_eql_slice_nil W 28 5 none m c0 0 0 Try.underlying28
  go_enter Try.func25, Try.ntmps25
  go_wp2
  go_ret
  exact ⟨.slice none 0 0, rfl, Kd.R_nil _ _ _ _ _, Below.refl _ _⟩

/-! ### net_own: function 18 -/
def net_own.f (a0_0 : Int) (a0_1 : Int) (l0_2 : List Int) : Option (Int × Int × List Int) := (bytes_Clone.f l0_2).bind fun t109 => (some (a0_0, a0_1, t109))
set_option maxHeartbeats 60000000 in
set_option maxRecDepth 100000 in
theorem net_own.calls (a0_0 : Int) (a0_1 : Int) (A0_2 : Option Addr) (c0_2 : Nat) (l0_2 : List Int) (r1 : Int) (r2 : Int) (r3 : List Int) (w : World) (hr0_2 : Kd.C (Kd.int .u8) w A0_2 l0_2.length l0_2) (hc0_2 : l0_2.length ≤ c0_2) (h : net_own.f a0_0 a0_1 l0_2 = some (r1, r2, r3)) :
  Calls Try.prog 18 #[.agg #[.int .i64 a0_0, .int .i64 a0_1, .slice A0_2 l0_2.length c0_2]] w fun e w' => ∃ v2_ : Value, e = .returned (.agg #[.int .i64 r1, .int .i64 r2, v2_]) ∧ Kd.R (Kd.int .u8) 5 w' w.heap.size (fun _ => True) v2_ r3 ∧ Below w.heap.size w w' := by
 have hu31 := Try.underlying31
 have HR0_2 := Aside0.mk hr0_2
 have HC0_2 := Aside0.mk hc0_2
 clear hr0_2 hc0_2
 have HB := Aside0.mk (Below.refl w.heap.size w)
 have H : ((bytes_Clone.f l0_2).bind fun t109 => (some (a0_0, a0_1, t109))) = some (r1, r2, r3) := h
 clear h
 replace H := Option.bind_eq_some_iff.mp H
 obtain ⟨t109, A20, H⟩ := H
 replace H : (some (a0_0, a0_1, t109)) = some (r1, r2, r3) := H
 have A2 := Aside0.mk A20
 clear A20
 simp only [Option.some.injEq, Prod.mk.injEq] at H
 obtain ⟨rfl, rfl, rfl⟩ := H
 go_enter Try.func18, Try.ntmps18
 go_wp2_with (first | ((with_reducible refine gate_dst (N := 1) rfl ?_); refine box_event ?hg (N := 1) ?hd (cs := #[.int .i64 a0_0, .int .i64 a0_1, .slice A0_2 l0_2.length c0_2]) (t := 31) ?hr ?_; (case hd => rfl); (case hg => rfl); (case hr => first | (go_simp; done) | (go_simp; rfl)); intro gb107 hg w3 hbox hb; have BK107 := Aside0.mk (hbox); have GW107 := Aside0.mk ((by rw [hg]; exact (below_size (bw_ HB)) : w.heap.size ≤ gb107)); have GE107 := Aside0.mk ((by rw [hg]; exact (below_size (bw_ HB)) : w.heap.size ≤ gb107)); replace HB := Aside0.mk (below_step (bw_ HB) hb); clear hb hbox hg) | ((with_reducible refine gate_dst (N := 2) rfl ?_); refine box_event ?hg (N := 2) ?hd (cs := #[.int .i64 0, .int .i64 0, .slice none 0 0]) (t := 31) ?hr ?_; (case hd => rfl); (case hg => rfl); (case hr => first | (go_simp; done) | (go_simp; rfl)); intro gb108 hg w4 hbox hb; have BK108 := Aside0.mk (hbox); have GW108 := Aside0.mk ((by rw [hg]; exact (below_size (bw_ HB)) : w.heap.size ≤ gb108)); have GE108 := Aside0.mk ((by rw [hg]; exact (below_size (bw_ HB)) : w.heap.size ≤ gb108)); have NB107_108 := Aside0.mk ((by rw [hg]; exact Nat.ne_of_lt (blk_lt (tk_ BK107)) : gb107 ≠ gb108)); have NB108_107 := Aside0.mk ((by rw [hg]; exact Nat.ne_of_gt (blk_lt (tk_ BK107)) : gb108 ≠ gb107)); replace BK107 := Aside0.mk (blk_below (tk_ BK107) hb); replace HB := Aside0.mk (below_step (bw_ HB) hb); clear hb hbox hg; have hnb5 := NB107_108.out; have hnc5 := NB108_107.out; have hcz6_0 := bc_0 BK107; have hcz6_1 := bc_1 BK107; have hcz6_2 := bc_2 BK107; have hfz6_0 := blk_frozen BK107.out 0; have hfz6_1 := blk_frozen BK107.out 1; have hfz6_2 := blk_frozen BK107.out 2) | ((with_reducible refine gate_callee (f := 25) rfl ?_); refine goesL_ (some 5) rfl rfl Try.func25 (by kernel_rfl) rfl #[.slice A0_2 l0_2.length c0_2] rfl (by (try simp only [l_4, l_5, l_6]); first | done | rfl | (simp only [l_7, l_8]; rfl)) ?_; (with_reducible refine (bytes_Clone.calls _ _ l0_2 t109 _ ?side1 ?side2 A2.out).mono ?_); (case side1 => repeat (first | exact (Kd.C_below HR0_2.out HB.out) | (with_reducible refine Kd.C_alloc ?_ _) | (with_reducible refine Kd.C_drewN ?_ _) | (with_reducible refine Kd.C_drew ?_))); (case side2 => exact HC0_2.out); rintro e w7 ⟨v110, rfl, ho0, hb⟩; (try clear A2); refine ⟨_, rfl, ?_⟩; have HO111 := Aside0.mk (Kd.R_lower ho0 (below_size (bw_ HB))); replace BK107 := Aside0.mk (blk_below (tk_ BK107) hb); replace BK108 := Aside0.mk (blk_below (tk_ BK108) hb); replace HB := Aside0.mk (below_step (bw_ HB) hb); (try clear hb); (try clear hb2); (try clear hk); (try clear hi); (try clear ho0); obtain ⟨Ao8, co8, eo8⟩ := Kd.R_slice HO111.out; subst eo8; have hcz9_0 := bc_0 BK107; have hcz9_1 := bc_1 BK107; have hcz9_2 := bc_2 BK107; have hfz9_0 := blk_frozen BK107.out 0; have hfz9_1 := blk_frozen BK107.out 1; have hfz9_2 := blk_frozen BK107.out 2; have hcz10_0 := bc_0 BK108; have hcz10_1 := bc_1 BK108; have hcz10_2 := bc_2 BK108; have hfz10_0 := blk_frozen BK108.out 0; have hfz10_1 := blk_frozen BK108.out 1; have hfz10_2 := blk_frozen BK108.out 2))
 refine bodyPost_ret (results_cell_row rfl _ _ gb108 31 #[.int .i64 a0_0, .int .i64 a0_1, .slice Ao8 t109.length co8] (0, 0) _ rfl (by (with_reducible repeat (first | refine k_n ?_ _ | refine k_d ?_ | refine k_a ?_ _)); refine blk_put (cs := #[.int .i64 a0_0, .int .i64 a0_1, .slice none 0 0]) ?_ 2 _ rfl; (with_reducible repeat (first | refine k_n ?_ _ | refine k_d ?_ | refine k_a ?_ _)); refine blk_put (cs := #[.int .i64 a0_0, .int .i64 0, .slice none 0 0]) ?_ 1 _ rfl; (with_reducible repeat (first | refine k_n ?_ _ | refine k_d ?_ | refine k_a ?_ _)); refine blk_put (cs := #[.int .i64 0, .int .i64 0, .slice none 0 0]) ?_ 0 _ rfl; (with_reducible repeat (first | refine k_n ?_ _ | refine k_d ?_ | refine k_a ?_ _)); refine blk_far ?_ NB108_107.out _; (with_reducible repeat (first | refine k_n ?_ _ | refine k_d ?_ | refine k_a ?_ _)); exact BK108.out) Try.underlying31 rfl (by kernel_rfl)) rfl ?_
 exact ⟨_, by first | rfl | (simp [errW_none, errW_some] <;> rfl) | (simp [*, errW_none, errW_some] <;> rfl), by (with_reducible repeat (first | apply Kd.R_alloc | apply Kd.R_drewN | apply Kd.R_drew)); exact Kd.R_mono (Kd.R_far (p := ⟨gb108, 2, none⟩) (Kd.R_far (p := ⟨gb108, 1, none⟩) (Kd.R_far (p := ⟨gb108, 0, none⟩) (Kd.R_far (p := ⟨gb107, 2, none⟩) (Kd.R_types (Kd.R_types HO111.out BK107.out (by decide)) BK108.out (by decide)) (fun _ hk => hk.1.2) (.slice Ao8 t109.length co8)) (fun _ hk => hk.2) (.int .i64 a0_0)) (fun _ hk => hk.2) (.int .i64 a0_1)) (fun _ hk => hk.2) (.slice Ao8 t109.length co8)) (fun _ hk => trivial), by repeat (first | (with_reducible first | exact HB.out | apply b_a | apply b_n | apply b_d | refine b_s ?_ GE107.out | refine b_s ?_ GE108.out) | exact HB.out)⟩

/-! ### net_Net_Send: function 8, by hand -/
def net_Send.T8 : Bool × List (List Nat × List Nat) := (true, [([], []), ([], []), ([1], [1]), ([2], [2]), ([3], [3]), ([], []), ([5], [5]), ([6], [6]), ([4, 7, 6], [4, 7]), ([0, 0, 1, 2, 3, 4, 5, 6, 7, 8], [0]), ([9, 0, 1, 2, 3, 4, 5, 6, 7, 8], [9]), ([10, 8, 8, 0, 1, 2, 3, 4, 5, 6, 7, 8], [8, 10])])
def net_Send.B8 : List Nat := [0, 0, 2, 6, 14, 0, 32, 96, 254, 511, 1023, 2047]
theorem net_Send.tab8 : rtab .any (opsOf Try.f8 8) = net_Send.T8 := by kernel_rfl
theorem net_Send.bits8 : waitsOk net_Send.T8.2 net_Send.B8 = true := by kernel_rfl

def net_send (room : Int) : List NP → List NP → Int → Int → Int → List NP × Int × Int × Int
  | [], L, c0, c1, k => (L, c0, c1, k)
  | p :: r, L, c0, c1, k => if room ≤ (L.length : Int) then net_send room r L (wrap64 (c0 + 1)) (wrap64 (c1 + 1)) k else net_send room r (L ++ [p]) (wrap64 (c0 + 1)) c1 (wrap64 (k + 1))
theorem net_send.next {room : Int} {ps : List NP} {i : Int} (h0 : 0 ≤ i) (h1 : i < (ps.length : Int)) (L : List NP) (c0 c1 k : Int) : net_send room (ps.drop i.toNat) L c0 c1 k = if room ≤ (L.length : Int) then net_send room (ps.drop (i + 1).toNat) L (wrap64 (c0 + 1)) (wrap64 (c1 + 1)) k else net_send room (ps.drop (i + 1).toNat) (L ++ [ps.getD i.toNat (0, 0, [])]) (wrap64 (c0 + 1)) c1 (wrap64 (k + 1)) := by
  have hj : i.toNat < ps.length := by omega
  rw [show (i + 1).toNat = i.toNat + 1 by omega, List.drop_eq_getElem_cons hj, net_send]
  simp [List.getD, hj]
theorem npk_FK {W : World} {ok : Nat → Prop} {p : NP} {A : Option Addr} {c : Nat} (h : Kd.FK (npk 5) W ok p [.int .i64 p.1, .int .i64 p.2.1, .slice A p.2.2.length c]) : p.2.2.length ≤ c ∧ (Kd.int .u8).C W A p.2.2.length p.2.2 := by
  obtain ⟨A', c', e, hl, hC⟩ := npk_K (Foot.now h)
  injection e with _ e
  injection e with _ e
  injection e with e _
  injection e with e1 e2 e3
  subst e1; subst e3
  exact ⟨hl, hC⟩
theorem net_own_f {x y : Int} {l : List Int} (h : l.length < 140737488355328) : net_own.f x y l = some (x, y, l) := by
  unfold net_own.f bytes_Clone.f
  simp [h]
def net_sent (w : World) (base g : Nat) (ok : Nat → Prop) (room c2 c3 : Int) (R : List NP × Int × Int × Int) (e : Ending) (w' : World) : Prop :=
  ∃ v', e = .returned (.int .i64 R.2.2.2) ∧ NetAt 52 31 5 w' base g (fun k => ok k ∨ w.heap.size ≤ k) room R.1 R.2.1 R.2.2.1 c2 c3 v' ∧ Upd (fun k => ok k ∨ k = g) w w'
set_option maxHeartbeats 8000000 in
set_option maxRecDepth 100000 in
theorem net_Net_Send.some0_ (room c0 c1 c2 c3 : Int) (L : List NP) (v : Value) (base g : Nat) (okS okF : Nat → Prop) (A : Option Addr) (c : Nat) (ps : List NP) (R : List NP × Int × Int × Int) (w : World) (hlt_ : ∀ k, okS k → k < w.heap.size) (hN : NetAt 52 31 5 w base g okS room L c0 c1 c2 c3 v) (hbw : base ≤ w.heap.size) (hF : Kd.F (npk 5) w okF A ps.length ps) (hc : ps.length ≤ c) (hFS : ∀ k, okF k → k < w.heap.size ∧ ¬ okS k ∧ k ≠ g) (hroom : room ≤ 65536) (hps : ps.length ≤ 4611686018427387903) (hbl : ∀ p ∈ ps, p.2.2.length < 140737488355328)
    (hR : net_send room ps L c0 c1 0 = R) :
    Calls Try.prog 8 #[.pointer (some ⟨g, 0, none⟩), .slice A ps.length c] w (net_sent w base g okS room c2 c3 R) := by
  have HLT := Aside0.mk hlt_
  have HBW := Aside0.mk hbw
  have HGL := Aside0.mk (show g < w.heap.size from blk_lt hN.2.2.1)
  have HS := Aside0.mk hN
  have HF0 := Aside0.mk hF
  have HC := Aside0.mk hc
  have HFS := Aside0.mk hFS
  have HROOM := Aside0.mk hroom
  have HPS0 := Aside0.mk hps
  have HBLS := Aside0.mk hbl
  have HR := Aside0.mk hR
  clear hN hlt_ hbw hF hc hFS hroom hps hbl hR
  have hu31 := Try.underlying31
  have hu43 := Try.underlying43
  go_enter Try.func8, Try.ntmps8
  go_wp2
  go_loopg [5, 10] ps.length (fun m v5 v10 W => ∃ (kk i : Int) (L : List NP) (c0 c1 : Int) (v : Value), v5 = .int .i64 kk ∧ v10 = .int .i64 i ∧ 0 ≤ i ∧ Aside0 (i + m = ps.length) ∧ Aside0 (net_send room (ps.drop i.toNat) L c0 c1 kk = R) ∧ Aside0 (NetAt 52 31 5 W base g (fun k => okS k ∨ w.heap.size ≤ k) room L c0 c1 c2 c3 v) ∧ Aside0 (Upd (fun k => okS k ∨ k = g) w W))
  case atStart => exact ⟨0, 0, L, c0, c1, v, rfl, rfl, by omega, ⟨by omega⟩, HR, ⟨HS.out.mono (fun k hk => Or.inl hk) (fun h => h.elim HS.out.2.1 (fun h2 => absurd HGL.out (Nat.not_lt.2 h2)))⟩, ⟨Upd.refl _ _⟩⟩
  case round =>
    have HNG := Aside0.mk HS.out.2.1
    clear HS HR
    obtain ⟨kk, i, L, c0, c1, v, rfl, rfl, hi0, HI, HR, NT, NU⟩ := hrel
    cases gk with
    | zero =>
      have q1 : decide (i < (ps.length : Int)) = false := decide_eq_false (by have := HI.out; omega)
      have hR : (L, c0, c1, kk) = R := by
        have h := HR.out
        rw [List.drop_of_length_le (by have := HI.out; omega)] at h
        exact h
      subst hR
      go_wp2
      go_ret
      exact ⟨v, rfl, NT.out, NU.out⟩
    | succ m =>
      have hi1 : i < (ps.length : Int) := by have := HI.out; omega
      have HII := Aside0.mk (show 0 ≤ i ∧ i < (ps.length : Int) from ⟨hi0, hi1⟩)
      have q1 : decide (i < (ps.length : Int)) = true := decide_eq_true hi1
      have q2 : decide (0 ≤ i) = true := decide_eq_true hi0
      have q3 : (0 ≤ i) = True := eq_true hi0
      have q4 : (i < (ps.length : Int)) = True := eq_true hi1
      have hw : IntKind.i64.wrap (i + 1) = i + 1 := by rw [i64_w]; have := HPS0.out; unfold wrap64; omega
      have hF := Kd.F_step (W1 := wr) HF0.out (fun k hk hlt => NU.out.2.2.2.2 k hlt (fun h => h.elim (HFS.out k hk).2.1 (HFS.out k hk).2.2))
      obtain ⟨ad, cs, e, hcl, hFK, hcc, _⟩ := Kd.F_get hF (0, 0, []) i hi0 hi1
      cases e
      have HBL := Aside0.mk (HBLS.out (ps.getD i.toNat (0, 0, [])) (by rw [List.getD_eq_getElem?_getD, List.getElem?_eq_getElem (show i.toNat < ps.length by omega)]; exact List.getElem_mem _))
      have HNX := Aside0.mk (net_send.next (room := room) hi0 hi1 L c0 c1 kk)
      obtain ⟨p, hp⟩ : ∃ p, ps.getD i.toNat (0, 0, []) = p := ⟨_, rfl⟩
      rw [hp] at hFK HBL HNX
      obtain ⟨Ab, cb, rfl, _, _⟩ := npk_K (Foot.now hFK)
      have z0 : wr.cell? (ad.add (i.toNat * 3)) = some (.int .i64 p.1) := hcc 0 _ rfl
      have z1 : wr.cell? ⟨(ad.add (i.toNat * 3)).block, (ad.add (i.toNat * 3)).off + 1, none⟩ = some (.int .i64 p.2.1) := by rw [← add_field _ _ 1 (by omega)]; exact hcc 1 _ rfl
      have z2 : wr.cell? ⟨(ad.add (i.toNat * 3)).block, (ad.add (i.toNat * 3)).off + 2, none⟩ = some (.slice Ab p.2.2.length cb) := by rw [← add_field _ _ 2 (by omega)]; exact hcc 2 _ rfl
      have HFK := Aside0.mk hFK
      have HGW := Aside0.mk (show g < wr.heap.size from blk_lt NT.out.2.2.1)
      have HSZ0 := Aside0.mk NU.out.size
      have HFL := Aside0.mk (show ∀ k, okF k → k < wr.heap.size from fun k hk => Nat.lt_of_lt_of_le (HFS.out k hk).1 NU.out.size)
      have HBW0 := Aside0.mk (show base ≤ wr.heap.size from Nat.le_trans HBW.out NU.out.size)
      replace NT := Aside0.mk NT.out.bound
      obtain ⟨okA, hA⟩ : ∃ okA : Nat → Prop, okA = fun k => (okS k ∨ w.heap.size ≤ k) ∧ k < wr.heap.size := ⟨_, rfl⟩
      rw [← hA] at NT
      have HLA0 : Aside0 (∀ k, okA k → k < wr.heap.size) := ⟨fun k hk => by rw [hA] at hk; exact hk.2⟩
      have HSUB : Aside0 (∀ k, okA k → okS k ∨ w.heap.size ≤ k) := ⟨fun k hk => by rw [hA] at hk; exact hk.1⟩
      clear hA hp hFK hcc hcl hF hi1
      go_upto_region 5 with (first | ((with_reducible refine gate_dst (N := 7) rfl ?_); refine box_event ?hg (N := 7) ?hd (cs := #[.int .i64 0, .int .i64 0, .slice none 0 0]) (t := 31) ?hr ?_; (case hd => rfl); (case hg => rfl); (case hr => first | (go_simp; done) | (go_simp; rfl)); intro gp hg_ wb hbox hbb; have HGP := Aside0.mk hg_; replace NT := Aside0.mk (NT.out.below hbb); replace NU := Aside0.mk (NU.out.trans (Upd.of_below (S := fun k => okS k ∨ k = g) hbb) (fun _ _ hk => hk)); replace HFK := Aside0.mk (Kd.FK_below HFK.out hbb); clear hg_; (with_reducible refine gate_store_ rfl ?_); refine stU_ rfl rfl rfl rfl rfl hbox rfl (by kernel_rfl) (by simp [Value.oneCell']) ?_; intro W5 hW1 hW2; clear hbox; have hB : ∀ k, k < wr.heap.size → ¬ k = gp := (fun k hk e => by have := HGP.out; omega); have NT5 := Aside0.mk (NT.out.upd hW2 (fun k hk _ => hB k (HLA0.out k hk)) (fun e => by have := HGP.out; have := HGW.out; omega)); have NU5 := Aside0.mk (NU.out.trans hW2 (fun k hk e => by have := HGP.out; have := HSZ0.out; omega)); have HFK5 := Aside0.mk (Kd.FK_step (W1 := W5) HFK.out (fun k hk hlt => hW2.2.2.2.2 k hlt (hB k (HFL.out k hk)))); have HSZ5 := Aside0.mk (show wr.heap.size ≤ W5.heap.size from Nat.le_trans hbb.size hW2.size); have K7 := Aside0.mk hW1; clear hW1 hW2 hB NT NU HFK hbb))
      obtain ⟨y0, y1, y2, y3, y4, y5, f0, f1, f2, f3, f4, f5⟩ := cells6 NT5.out.2.2.1
      clear y0 y1 y3 y4 y5 f0 f1 f3 f4 f5
      have hw0 : IntKind.i64.wrap (c0 + 1) = wrap64 (c0 + 1) := by rw [i64_w]
      have hgp : gp ≠ g := fun e => by have := HGP.out; have := HGW.out; omega
      go_still_tail 9, (by kernel_rfl)
      change wpList _ _ _ _ _ W5.drew
      go_upto_region 6 with (fail)
      have hB : ∀ k, okF k → ¬ k = g := fun k hk e => (HFS.out k hk).2.2 e
      have NT6 := Aside0.mk ((NT5.out.put (by decide) (by decide) 2 (.int .i64 (wrap64 (c0 + 1))) (wrap64 (c0 + 1)) c1 c2 c3 rfl).drew)
      have NU6 := Aside0.mk ((NU5.out.trans (Upd.of_set g 2 (.int .i64 (wrap64 (c0 + 1))) (S := fun k => okS k ∨ k = g) (Or.inr rfl)) (fun _ _ hk => hk)).drew)
      have HFK6 := Aside0.mk (Kd.FK_step (W1 := (W5.setCell ⟨g, 2, none⟩ (.int .i64 (wrap64 (c0 + 1)))).drew) HFK5.out (fun k hk _ => Below.heap_setCell _ ⟨g, 2, none⟩ _ k (hB k hk)))
      have K76 := Aside0.mk (blk_drew (blk_far K7.out (p := ⟨g, 2, none⟩) hgp (.int .i64 (wrap64 (c0 + 1)))))
      have HSZ6 := Aside0.mk (show wr.heap.size ≤ (W5.setCell ⟨g, 2, none⟩ (.int .i64 (wrap64 (c0 + 1)))).drew.heap.size from Nat.le_trans HSZ5.out (Upd.of_set (S := fun _ => True) g 2 _ trivial).size)
      clear y2 f2 hw0 hB NT5 NU5 HFK5 K7 HSZ5
      generalize (W5.setCell ⟨g, 2, none⟩ (.int .i64 (wrap64 (c0 + 1)))).drew = W6 at *
      obtain ⟨AL, cL, hv, hl, _⟩ := NT6.out.slice_
      subst hv
      clear hl
      obtain ⟨y0, y1, y2, y3, y4, y5, f0, f1, f2, f3, f4, f5⟩ := cells6 NT6.out.2.2.1
      clear y2 y3 y4 y5 f0 f1 f2 f3 f4 f5
      by_cases hr : room ≤ (L.length : Int)
      · have q5 : decide (room ≤ (L.length : Int)) = true := decide_eq_true hr
        have hX := HNX.out.symm.trans HR.out
        rw [if_pos hr] at hX
        have HX := Aside0.mk hX
        clear HR HNX hX hr
        go_quiet (fail)
        go_upto_region 7 with (fail)
        have NT7 := Aside0.mk (NT6.out.below (pw_below_drewN (Below.refl _ _) nq))
        have NU7 := Aside0.mk (NU6.out.trans (Upd.of_below (S := fun k => okS k ∨ k = g) (pw_below_drewN (Below.refl _ _) nq)) (fun _ _ hk => hk))
        clear NT6 NU6 HFK6 K76 HSZ6 y0 y1
        generalize W6.drewN nq = W7 at *
        obtain ⟨y0, y1, y2, y3, y4, y5, f0, f1, f2, f3, f4, f5⟩ := cells6 NT7.out.2.2.1
        clear y0 y1 y2 y4 y5 f0 f1 f2 f4 f5
        have hw1 : IntKind.i64.wrap (c1 + 1) = wrap64 (c1 + 1) := by rw [i64_w]
        go_still_tail 9, (by kernel_rfl)
        change wpList _ _ _ _ _ W7.drew
        go_wp2
        have NT8 := Aside0.mk ((NT7.out.put (by decide) (by decide) 3 (.int .i64 (wrap64 (c1 + 1))) (wrap64 (c0 + 1)) (wrap64 (c1 + 1)) c2 c3 rfl).drew)
        have NU8 := Aside0.mk ((NU7.out.trans (Upd.of_set g 3 (.int .i64 (wrap64 (c1 + 1))) (S := fun k => okS k ∨ k = g) (Or.inr rfl)) (fun _ _ hk => hk)).drew)
        clear NT7 NU7
        go_roundg m
        case measure => omega
        case rel => exact ⟨kk, i + 1, L, _, _, _, rfl, by first | rfl | rw [hw], by omega, ⟨by have := HI.out; omega⟩, HX, ⟨NT8.out.mono HSUB.out (fun h => h.elim HNG.out (fun h2 => absurd HGL.out (Nat.not_lt.2 h2)))⟩, NU8⟩
      · have q5 : decide (room ≤ (L.length : Int)) = false := decide_eq_false hr
        have hX := HNX.out.symm.trans HR.out
        rw [if_neg hr] at hX
        have HX := Aside0.mk hX
        have HLEN : Aside0 ((L.length + 1) * 40 ≤ 140737488355328) := ⟨by have := HROOM.out; omega⟩
        clear HR HNX hX
        go_quiet (fail)
        go_upto_region 8 with (fail)
        have hdn : Below W6.heap.size W6 (W6.drewN nq) := pw_below_drewN (Below.refl _ _) nq
        have NT7 := Aside0.mk (NT6.out.below hdn)
        have NU7 := Aside0.mk (NU6.out.trans (Upd.of_below (S := fun k => okS k ∨ k = g) hdn) (fun _ _ hk => hk))
        have HFK := Aside0.mk (Kd.FK_below HFK6.out hdn)
        have PQ := Aside0.mk (show net_Box 52 (W6.drewN nq) base g gp okA room (wrap64 (c0 + 1)) c1 c2 c3 L (.slice AL L.length cL) p.1 p.2.1 (.slice Ab p.2.2.length cb) from ⟨NT7.out, blk_below K76.out hdn, fun k hk e => by have := HLA0.out k hk; have := HGP.out; omega⟩)
        have HSZ := Aside0.mk (show w.heap.size ≤ (W6.drewN nq).heap.size from Nat.le_trans HSZ0.out (Nat.le_trans HSZ6.out hdn.size))
        have HLA := Aside0.mk (show ∀ k, okA k → k < (W6.drewN nq).heap.size from fun k hk => Nat.lt_of_lt_of_le (HLA0.out k hk) (Nat.le_trans HSZ6.out hdn.size))
        replace HBW0 := Aside0.mk (show base ≤ (W6.drewN nq).heap.size from Nat.le_trans HBW0.out (Nat.le_trans HSZ6.out hdn.size))
        clear NT6 NU6 NT7 HFK6 K76 HSZ6 HSZ0 HLA0 y0 y1 hdn HFL HGW
        generalize W6.drewN nq = W7 at *
        refine start_ (n := 12) (S := fun W_ => W_.cell? ⟨g, 1, none⟩ = some (.slice AL L.length cL) ∧ W_.cell? ⟨gp, 0, none⟩ = some (.int .i64 p.1) ∧ W_.cell? ⟨gp, 1, none⟩ = some (.int .i64 p.2.1) ∧ W_.cell? ⟨gp, 2, none⟩ = some (.slice Ab p.2.2.length cb)) (ds := [11]) #[false, false, false, false, false, false, false, false, false, false, false, false] (by kernel_rfl) rfl rfl (PQ.out.held (below_drew (Below.refl _ _))) (fun hHeld => ?_); refine with_tabW net_Send.tab8 net_Send.bits8 (fun HT_ HW_ => ?_)
        replace PQ := Aside0.mk (PQ.out.below (below_drew (Below.refl _ _)))
        have HDR := Aside0.mk (below_drew (Below.refl W7.heap.size W7))
        revert PQ hHeld HDR
        generalize W7.drew = wv
        intro hHeld PQ HDR
        refine pure_ (i := 0) (N := some 42) (v := ?_) (a' := ?_) #[true, false, false, false, false, false, false, false, false, false, false, false] rfl rfl (any_of HT_.out (by kernel_rfl)) (fun _ _ _ h => h) (Or.inl ⟨by rfl, ?_⟩) ?_ ?_
        rotate_left
        ·
          intro w'
          go_simp
          with_reducible rfl
        rotate_left
        ·
          simp only [Act.put, l_1, l_2, l_3, i64_w, i32_w]
          rfl
        refine pure_ (i := 1) (N := some 43) (v := ?_) (a' := ?_) #[true, true, false, false, false, false, false, false, false, false, false, false] rfl rfl (any_of HT_.out (by kernel_rfl)) (fun _ _ _ h => h) (Or.inl ⟨by rfl, ?_⟩) ?_ ?_
        rotate_left
        ·
          intro w'
          go_simp
          with_reducible rfl
        rotate_left
        ·
          simp only [Act.put, l_1, l_2, l_3, i64_w, i32_w]
          rfl
        refine pure_ (i := 2) (N := some 44) (v := ?_) (a' := ?_) #[true, true, true, false, false, false, false, false, false, false, false, false] rfl rfl (any_of HT_.out (by kernel_rfl)) (fun _ _ _ h => h) (Or.inl ⟨by rfl, ?_⟩) ?_ ?_
        rotate_left
        ·
          intro w'
          go_simp
          with_reducible rfl
        rotate_left
        ·
          simp only [Act.put, l_1, l_2, l_3, i64_w, i32_w]
          rfl
        refine pure_ (i := 3) (N := some 45) (v := ?_) (a' := ?_) #[true, true, true, true, false, false, false, false, false, false, false, false] rfl rfl (any_of HT_.out (by kernel_rfl)) (fun _ _ _ h => h) (Or.inl ⟨by rfl, ?_⟩) ?_ ?_
        rotate_left
        ·
          intro w'
          go_simp
          with_reducible rfl
        rotate_left
        ·
          simp only [Act.put, l_1, l_2, l_3, i64_w, i32_w]
          rfl
        refine take_ (i := 4) (N := some 46) (v := ?_) (a' := ?_) #[true, true, true, true, true, false, false, false, false, false, false, false] rfl rfl (take_ofW HT_.out HW_.out (by kernel_rfl)) (fun _ _ _ h => h) (Or.inl ⟨by rfl, ?_⟩) hHeld ?_ ?_
        rotate_left
        ·
          rintro w' ⟨s0, s1, s2, s3⟩
          go_simp
          with_reducible rfl
        rotate_left
        ·
          simp only [Act.put, l_1, l_2, l_3, i64_w, i32_w]
          rfl
        refine take_ (i := 5) (N := some 47) (v := ?_) (a' := ?_) #[true, true, true, true, true, true, false, false, false, false, false, false] rfl rfl (take_ofW HT_.out HW_.out (by kernel_rfl)) (fun _ _ _ h => h) (Or.inl ⟨by rfl, ?_⟩) hHeld ?_ ?_
        rotate_left
        ·
          rintro w' ⟨s0, s1, s2, s3⟩
          go_simp
          with_reducible rfl
        rotate_left
        ·
          simp only [Act.put, l_1, l_2, l_3, i64_w, i32_w]
          rfl
        have HDS := Aside0.mk HDR.out.size
        have HF8 := Aside0.mk (Kd.FK_below HFK.out HDR.out)
        have NU := Aside0.mk (NU7.out.trans (Upd.of_below (S := fun k => okS k ∨ k = g) HDR.out) (fun _ _ hk => hk))
        clear NU7 HFK
        refine one_ (i := 6) (N := some 48) #[true, true, true, true, true, true, true, false, false, false, false, false] rfl rfl (one_of HT_.out (by kernel_rfl)) (by decide) (fun K hK => ?_)
        refine call_ 18 #[.agg #[.int .i64 p.1, .int .i64 p.2.1, .slice Ab p.2.2.length cb]] (by rfl) rfl ?_ ?_
        · go_simp
        refine (net_own.calls p.1 p.2.1 Ab cb p.2.2 p.1 p.2.1 p.2.2 wv (npk_FK HF8.out).2 (npk_FK HF8.out).1 (net_own_f HBL.out)).mono ?_
        rintro e wo ⟨vb, rfl, hrb, hbo⟩
        refine ⟨_, rfl, ?_⟩
        replace PQ := Aside0.mk (PQ.out.below hbo)
        have HBW := Aside0.mk (Nat.le_trans HBW0.out (Nat.le_trans HDR.out.size hbo.size))
        have NR := Aside0.mk (show (Kd.int .u8).R 5 wo base (fun k => wv.heap.size ≤ k) vb p.2.2 from Kd.R_mono (Kd.R_lower (Kd.R_bound hrb) (Nat.le_trans HBW0.out HDR.out.size)) (fun k hk => hk.2.1))
        replace NU := Aside0.mk (NU.out.trans (Upd.of_below (S := fun k => okS k ∨ k = g) hbo) (fun _ _ hk => hk))
        obtain ⟨okp, hokp⟩ : ∃ okp : Nat → Prop, okp = fun k => wv.heap.size ≤ k := ⟨_, rfl⟩
        rw [← hokp] at NR
        have HOP : Aside0 (∀ k, okp k → ¬ okA k ∧ k ≠ g) := ⟨fun k hk => by rw [hokp] at hk; exact ⟨fun h2 => by have := HLA.out k h2; have := HDS.out; omega, fun e => by have := HGL.out; have := HSZ.out; have := HDS.out; have e' : wv.heap.size ≤ k := hk; omega⟩⟩
        have HPS : Aside0 (∀ k, okp k → w.heap.size ≤ k) := ⟨fun k hk => by rw [hokp] at hk; have e' : wv.heap.size ≤ k := hk; have := HSZ.out; have := HDS.out; omega⟩
        have HWO := Aside0.mk (show w.heap.size ≤ wo.heap.size from by have := HSZ.out; have := HDS.out; have := hbo.size; omega)
        obtain ⟨Av0, cv0, rfl⟩ := Kd.R_slice hrb
        clear hokp hrb hbo HDR
        refine hK.out _ _ (PQ.out.held (Below.refl _ _)) (fun hHeld => ?_)
        clear hK K
        refine norm_ (a' := ?_) ?_ ?_
        rotate_left
        ·
          show Act.put _ (some 48) _ = _
          simp only [Act.put, l_1, l_2, l_3, i64_w, i32_w]
          rfl
        refine one_ (i := 7) (N := some 49) #[true, true, true, true, true, true, true, true, false, false, false, false] rfl rfl (one_of HT_.out (by kernel_rfl)) (by decide) (fun K hK => ?_)
        refine event_step (by rfl) (bld31_ (e := 31) (.int .i64 0) (.int .i64 0) (.slice none 0 0) rfl rfl) ?_
        refine hK.out _ _ (PQ.out.held (below_alloc (Below.refl _ _) _)) (fun hHeld => ?_)
        clear hK K
        refine norm_ (a' := ?_) ?_ ?_
        rotate_left
        ·
          show Act.put _ (some 49) _ = _
          simp only [Act.put, l_1, l_2, l_3, i64_w, i32_w]
          rfl
        refine one_ (i := 8) (N := some 50) #[true, true, true, true, true, true, true, true, true, false, false, false] rfl rfl (one_of HT_.out (by kernel_rfl)) (by decide) (fun K hK => ?_)
        refine Kd.S_append_step (npk 5) (w0 := wo) base (by rfl) (.tmp 46) (.tmp 49) 42 31 (.agg #[.int .i64 0, .int .i64 0, .slice none 0 0]) 40 rfl Try.underlying42 net_info31 rfl (by decide) (by decide) (.slice AL L.length cL) L p [.int .i64 p.1, .int .i64 p.2.1, .slice Av0 p.2.2.length cv0] (fun k => (okA k ∨ okp k) ∨ wo.heap.size ≤ k) okp rfl rfl (npk_mk p.1 p.2.1 NR.out) ?a1 ?a2 ?a3 (Below.refl _ _) HBW.out ?a4 ?_
        case a1 => exact fun k hk => ⟨Or.inl (Or.inr hk), fun e => (HOP.out k hk).1 (by obtain ⟨f, h0, _⟩ := PQ.out.1.2.2.2; exact h0 k e.symm)⟩
        case a2 => exact fun k hk => Or.inr hk
        case a3 => exact Kd.S_mono PQ.out.1.2.2.2 (fun k hk => ⟨Or.inl (Or.inl hk), fun h2 => (HOP.out k h2).1 hk⟩)
        case a4 => exact HLEN.out
        intro v1 wn hS hb1 hg1 hat1
        obtain ⟨Av, cv, hv1⟩ := Kd.S_slice hS
        rw [List.length_append, List.length_singleton] at hv1
        subst hv1
        have SM := Aside0.mk (PQ.out.grown (by decide) (ok1 := fun k => (okA k ∨ okp k) ∨ wo.heap.size ≤ k) hS hg1 (net_ok1 PQ.out.1.2.1 HOP.out (blk_lt PQ.out.1.2.2.1)))
        clear hS hb1 hg1 hat1
        refine hK.out _ _ SM.out.1 (fun hHeld => ?_)
        clear hK K
        refine norm_ (a' := ?_) ?_ ?_
        rotate_left
        ·
          show Act.put _ (some 50) _ = _
          simp only [Act.put, l_1, l_2, l_3, i64_w, i32_w]
          rfl
        refine pure_ (i := 9) (N := some 51) (v := ?_) (a' := ?_) #[true, true, true, true, true, true, true, true, true, true, false, false] rfl rfl (any_of HT_.out (by kernel_rfl)) (fun _ _ _ h => h) (Or.inl ⟨by rfl, ?_⟩) ?_ ?_
        rotate_left
        ·
          intro w'
          go_simp
          with_reducible rfl
        rotate_left
        ·
          simp only [Act.put, l_1, l_2, l_3, i64_w, i32_w]
          rfl
        refine pure_ (i := 10) (N := some 52) (v := ?_) (a' := ?_) #[true, true, true, true, true, true, true, true, true, true, true, false] rfl rfl (any_of HT_.out (by kernel_rfl)) (fun _ _ _ h => h) (Or.inl ⟨by rfl, ?_⟩) ?_ ?_
        rotate_left
        ·
          intro w'
          go_simp
          with_reducible rfl
        rotate_left
        ·
          simp only [Act.put, l_1, l_2, l_3, i64_w, i32_w]
          rfl
        have z1 := SM.out.1.1
        have z2 := SM.out.2.1
        refine last_ (i := 11) (N := none) #[true, true, true, true, true, true, true, true, true, true, true, true] rfl rfl (one_of HT_.out (by kernel_rfl)) (by decide) (fun K hK => ?_)
        refine skip_ (w1 := ?_) (by rfl) rfl ?_ ?_
        rotate_left
        ·
          go_simp
          rfl
        refine hK.out _ _ ?_
        clear hK K
        refine done_ (done_of HT_.out (by kernel_rfl)) ?_
        clear hHeld HT_ HW_ z1 z2
        have NF := Aside0.mk (SM.out.2.2.1.mono (ok' := fun k => okS k ∨ w.heap.size ≤ k) (fun k hk => by
          rcases hk with (hk | hk) | hk
          · exact HSUB.out k hk
          · exact Or.inr (HPS.out k hk)
          · exact Or.inr (Nat.le_trans HWO.out hk)) (fun h => h.elim HNG.out (fun h2 => absurd HGL.out (Nat.not_lt.2 h2))))
        have NU2 := Aside0.mk (show Upd (fun k => okS k ∨ k = g) w _ from NU.out.trans SM.out.2.2.2.1 (fun k hk h => h.elim (fun h2 => (HSUB.out k h2).imp id (fun h3 => absurd hk (Nat.not_lt.2 h3))) Or.inr))
        clear SM NU PQ NR
        generalize wn.setCell ⟨g, 1, none⟩ (.slice Av (L.length + 1) cv) = W9 at *
        have hwk : IntKind.i64.wrap (kk + 1) = wrap64 (kk + 1) := by rw [i64_w]
        go_wp2
        go_roundg m
        case measure => omega
        case rel => exact ⟨_, i + 1, _, _, _, _, by first | rfl | rw [hwk], by first | rfl | rw [hw], by omega, ⟨by have := HI.out; omega⟩, HX, NF, NU2⟩
theorem net_Net_Send.some_ (room c0 c1 c2 c3 : Int) (L : List NP) (v : Value) (base g : Nat) (okS okF : Nat → Prop) (A : Option Addr) (c : Nat) (ps : List NP) (R : List NP × Int × Int × Int) (w : World) (hN : NetAt 52 31 5 w base g okS room L c0 c1 c2 c3 v) (hbw : base ≤ w.heap.size) (hF : Kd.F (npk 5) w okF A ps.length ps) (hc : ps.length ≤ c) (hFS : ∀ k, okF k → ¬ okS k ∧ k ≠ g) (hroom : room ≤ 65536) (hps : ps.length ≤ 4611686018427387903) (hbl : ∀ p ∈ ps, p.2.2.length < 140737488355328)
    (hR : net_send room ps L c0 c1 0 = R) :
    Calls Try.prog 8 #[.pointer (some ⟨g, 0, none⟩), .slice A ps.length c] w (net_sent w base g okS room c2 c3 R) := by
  refine (net_Net_Send.some0_ room c0 c1 c2 c3 L v base g (fun k => okS k ∧ k < w.heap.size) (fun k => okF k ∧ k < w.heap.size) A c ps R w (fun k hk => hk.2) hN.bound hbw (Kd.F_bound hF) hc (fun k hk => ⟨hk.2, fun h => (hFS k hk.1).1 h.1, (hFS k hk.1).2⟩) hroom hps hbl hR).mono ?_
  rintro e w' ⟨v', he, hn, hu⟩
  exact ⟨v', he, hn.mono (fun k hk => hk.imp (·.1) id) (fun hk => hk.elim hN.2.1 (fun h2 => absurd (blk_lt hN.2.2.1) (Nat.not_lt.2 h2))), hu.mono (fun k _ hk => hk.imp (·.1) id)⟩
/-! ### net_Net_of: function 20, by hand -/
/-- a number's place among n -/
def net_idx (a n : Int) : Int := Int.tmod (wrap64 (Int.tmod a n + n)) n
theorem net_idx.bounds (a n : Int) (h0 : 0 < n) (h1 : n ≤ 4611686018427387904) : 0 ≤ net_idx a n ∧ net_idx a n < n := by
  have e1 : -n < Int.tmod a n ∧ Int.tmod a n < n := ⟨Int.lt_tmod_of_pos a h0, Int.tmod_lt_of_pos a h0⟩
  unfold net_idx
  rw [show wrap64 (Int.tmod a n + n) = Int.tmod a n + n from by unfold wrap64; omega]
  exact ⟨Int.tmod_nonneg n (by omega), Int.tmod_lt_of_pos _ h0⟩
set_option maxHeartbeats 8000000 in
set_option maxRecDepth 100000 in
theorem net_Net_of.some_ (a room c0 c1 c2 c3 : Int) (L : List NP) (v : Value) (base g : Nat) (ok : Nat → Prop) (w : World) (hN : NetAt 52 31 5 w base g ok room L c0 c1 c2 c3 v) (h0 : 0 < L.length) (h1 : (L.length : Int) ≤ 4611686018427387904) :
    Calls Try.prog 20 #[.pointer (some ⟨g, 0, none⟩), .int .i64 a] w fun e w' => e = .returned (.tuple #[.int .i64 (net_idx a L.length), .bool true]) ∧ w = w' := by
  obtain ⟨x0, x1, x2, x3, x4, x5, _⟩ := hN.cells
  obtain ⟨A, c, rfl, hl, _⟩ := hN.slice_
  clear hN hl x0 x2 x3 x4 x5
  have e1 : -(L.length : Int) < Int.tmod a L.length ∧ Int.tmod a L.length < (L.length : Int) := ⟨Int.lt_tmod_of_pos a (by omega), Int.tmod_lt_of_pos a (by omega)⟩
  obtain ⟨n, hn⟩ : ∃ n : Int, (L.length : Int) = n := ⟨_, rfl⟩
  have q1 : decide ((L.length : Int) = 0) = false := decide_eq_false (by omega)
  have q2 : ((L.length : Int) == 0) = false := beq_eq_false_iff_ne.2 (by omega)
  have q3 : ((L.length : Int) = 0) = False := eq_false (by omega)
  have q4 : (L.length = 0) = False := eq_false (by omega)
  clear hn h0 h1 e1
  go_enter Try.func20, Try.ntmps20
  go_wp2
  go_ret2
  exact ⟨rfl, rfl⟩
set_option maxHeartbeats 8000000 in
set_option maxRecDepth 100000 in
theorem net_Net_of.none_ (a room c0 c1 c2 c3 : Int) (v : Value) (base g : Nat) (ok : Nat → Prop) (w : World) (hN : NetAt 52 31 5 w base g ok room [] c0 c1 c2 c3 v) :
    Calls Try.prog 20 #[.pointer (some ⟨g, 0, none⟩), .int .i64 a] w fun e w' => e = .returned (.tuple #[.int .i64 0, .bool false]) ∧ w = w' := by
  obtain ⟨x0, x1, x2, x3, x4, x5, _⟩ := hN.cells
  obtain ⟨A, c, rfl, hl, _⟩ := hN.slice_
  replace x1 : w.cell? ⟨g, 1, none⟩ = some (.slice A 0 c) := x1
  clear hN hl x0 x2 x3 x4 x5
  go_enter Try.func20, Try.ntmps20
  go_wp2
  go_ret2
  exact ⟨rfl, rfl⟩
/-! ### api_Packet: function 26, by hand -/
/-- a hole's element is taken out: the others are left, and its blocks are free -/
theorem H_delete_run {α : Type} (d : Kd α) {P : Program} {W : World} (base : Nat) (t ty e : TypeId) (i0 : TypeInfo) (ht : P.underlying t = some (.slice e)) (hi : P.info? e = some i0) (hsz : i0.size = d.sz) {g n c : Nat} {i : Int} {xs : List α} {ok oki : Nat → Prop} {cs : List Value}
    (HO : Kd.H d e W base ok (.slice (some ⟨g, 0, none⟩) n c) xs i oki cs) (h0 : 0 ≤ i) (hk : i < n) {A : Option Addr} (hA : A = if c = i.toNat + 1 then some ⟨g, 0, none⟩ else (some (⟨g, 0, none⟩ : Addr)).map (·.add ((i.toNat + 1) * d.sz))) (c2 : Nat) :
    ∃ w1, (Builtin.append_ #[t, t] ty #[.slice (some ⟨g, 0, none⟩) i.toNat c, .slice A (n - (i.toNat + 1)) c2]).run P W = .ok (.slice (some ⟨g, 0, none⟩) (n - 1) c) w1 ∧ Kd.S d e w1 base (fun k => ok k ∧ ¬ oki k) (.slice (some ⟨g, 0, none⟩) (n - 1) c) (xs.eraseIdx i.toNat) ∧ W.grownBy w1 (some g) := by
  obtain ⟨_, f, HR⟩ := HO
  obtain ⟨w1, h1, h2, h3⟩ := Kd.R_delete_run (Kd.gap f d i.toNat cs) base t ty e i0 ht hi hsz HR (by omega) hA c2
  refine ⟨w1, h1, Kd.S_erase (f := f) ?_, h3⟩
  obtain ⟨h4, inner, h5, h6⟩ := h2
  refine ⟨h4, inner, h5, h6.1, fun j p hj => ?_⟩
  have hp := h6.2 j p hj
  have hne : p.2 ≠ i.toNat := by
    rw [List.getElem?_eraseIdx] at hj
    split at hj
    · rw [List.getElem?_zipIdx] at hj
      obtain ⟨q, _, rfl⟩ := Option.map_eq_some_iff.1 hj
      show 0 + j ≠ i.toNat
      omega
    · rw [List.getElem?_zipIdx] at hj
      obtain ⟨q, _, rfl⟩ := Option.map_eq_some_iff.1 hj
      show 0 + (j + 1) ≠ i.toNat
      omega
  exact d.M_mono (fun k hk => hk) (hp.2 hne)
/-- cells behind a row's end are written: the row stays -/
theorem S_tail {α : Type} {d : Kd α} {e base g n c : Nat} {w : World} {ok : Nat → Prop} {xs : List α} (h : Kd.S d e w base ok (.slice (some ⟨g, 0, none⟩) n c) xs) (o : Nat) (vs : List Value) (ho : n * d.sz ≤ o) (hfit : o + vs.length ≤ c * d.sz) :
    Kd.S d e (w.setCells g o vs) base ok (.slice (some ⟨g, 0, none⟩) n c) xs ∧ w.grownBy (w.setCells g o vs) (some g) := by
  obtain ⟨f, h0, inner, hown, hr⟩ := h
  have hn := (Kd.R_reads' (⟨h0, inner, hown, hr⟩ : (Kd.tag f d).R e w base ok (.slice (some ⟨g, 0, none⟩) n c) xs.zipIdx)).1
  rcases hown.2 with ⟨hv, _⟩ | ⟨g', cap', cur, hv, hb, hh, hl, hcm, hcs, htake⟩
  · cases hv
  injection hv with ha _ hc
  injection ha with ha
  injection ha with hg
  subst hg; subst hc
  obtain ⟨cur', h3, h4, h5⟩ := setCells_row vs o w cur hh (by rw [hcs]; exact hfit)
  obtain ⟨s1, s2, s3, s4⟩ := setCells_same g vs o w
  have hfar : ∀ k', k' ≠ g → (w.setCells g o vs).heap[k']? = w.heap[k']? := fun k' hk' => setCells_far hk' vs _ _
  have hgo : some g = (Value.slice (some ⟨g, 0, none⟩) n c).ownBlock := by simp [Value.ownBlock]
  refine ⟨⟨f, h0, inner, ⟨hown.1, .inr ⟨g, c, cur', by rw [hn], hb, h3, hl, hcm, by rw [h4, hcs], ?_⟩⟩, hr.imp_ fun p q hp => (Kd.tag f d).M_move (fun k' hk' => hfar k' (fun he => hk'.2 (by rw [← hgo, he]))) hp⟩, ⟨s1, s2, s3, by rw [s4]; exact Nat.le_refl _, fun k' _ hk' => hfar k' (fun he => hk' (by rw [he]))⟩⟩
  have hsz : (Kd.tag f d).sz = d.sz := rfl
  rw [h5, ← htake, ← hn]
  rw [List.append_assoc, List.take_append_of_le_length (by rw [List.length_take, hsz]; have : c * d.sz = cur.toList.length := by rw [Array.length_toList, hcs]; rfl
                                                           have := Nat.mul_le_mul_right d.sz hl; omega), List.take_take, Nat.min_eq_left (show n * (Kd.tag f d).sz ≤ o from ho)]
theorem run_clear_one {P : Program} (w : World) (t e ty : TypeId) (z : Value) (zs : List Value) (ht : P.underlying t = some (.slice e)) (hv : ∀ w, (zeroValue e).run P w = .ok z w) (hz : (Builtin.zeroCells z.cells 1).toList = zs) (h1 : ∀ u ∈ zs, u.oneCell' = true) (b o c : Nat)
    (hc : ∀ j, j < zs.length → (w.cell? ⟨b, o + j, none⟩).isSome = true) (hf : ∀ j, j < zs.length → w.frozen? ⟨b, o + j, none⟩ = false) :
    (Builtin.clear_ #[t] ty #[.slice (some ⟨b, o, none⟩) 1 c]).run P w = .ok (.tuple #[]) (w.setCells b o zs) := by
  have hst := run_storeCells_cells (P := P) b o zs 0 w (by simpa using hc) (by simpa using hf) h1
  simp only [Nat.add_zero] at hst
  simp [Builtin.clear_, run_underlying ht, hv, hz, hst]
set_option maxHeartbeats 8000000 in
set_option maxRecDepth 100000 in
theorem net_Delete.good (i : Int) (n c h base : Nat) (L : List NP) (ok oki : Nat → Prop) (cs : List Value) (w : World) (h0 : 0 ≤ i) (h1 : i < n) (HO : Kd.H (npk 5) 31 w base ok (.slice (some ⟨h, 0, none⟩) n c) L i oki cs) :
    Calls Try.prog 26 #[.slice (some ⟨h, 0, none⟩) n c, .int .i64 i, .int .i64 (i + 1)] w fun e w' => e = .returned (.slice (some ⟨h, 0, none⟩) (n - 1) c) ∧ Kd.S (npk 5) 31 w' base (fun k => ok k ∧ ¬ oki k) (.slice (some ⟨h, 0, none⟩) (n - 1) c) (L.eraseIdx i.toNat) ∧ w.grownBy w' (some h) := by
  have hu42 := Try.underlying42
  obtain ⟨i0, hi, hzz⟩ := Option.map_eq_some_iff.1 net_info31
  simp only [Prod.mk.injEq] at hzz
  obtain ⟨hz, hsz, hby⟩ := hzz
  have hnc : n ≤ c := by
    obtain ⟨_, f, HR⟩ := HO
    exact (Kd.R_reads' HR).2.1
  have hcm : c ≤ maxLen := by
    obtain ⟨_, f, _, inner, ho, _⟩ := HO
    rcases ho.2 with ⟨hv, _⟩ | ⟨g', cap', cur, hv, hb, hh, hl, hcm, hcs, htake⟩
    · cases hv
    · injection hv with _ _ e3; omega
  obtain ⟨w1, hr, hS, hg⟩ := H_delete_run (P := Try.prog) (npk 5) (W := w.drew) base 42 42 31 i0 Try.underlying42 hi hsz (HO : Kd.H (npk 5) 31 w.drew base ok (.slice (some ⟨h, 0, none⟩) n c) L i oki cs) h0 h1 rfl (c - (i.toNat + 1))
  have h3 := hsz
  have T1 := S_tail hS ((n - 1) * 3) [.int .i64 0, .int .i64 0, .slice none 0 0] (Nat.le_refl _) (by show (n - 1) * 3 + 3 ≤ c * 3; omega)
  have hcl : ∀ ty c', (Builtin.clear_ #[42] ty #[.slice (some ⟨h, (n - 1) * 3, none⟩) 1 c']).run Try.prog w1 = .ok (.tuple #[]) (w1.setCells h ((n - 1) * 3) [.int .i64 0, .int .i64 0, .slice none 0 0]) := by
    intro ty c'
    obtain ⟨f, _, inner, ho, _⟩ := hS
    rcases ho.2 with ⟨hv, _⟩ | ⟨g', cap', cur, hv, hb, hh, hl, hcm, hcs, htake⟩
    · cases hv
    · injection hv with e1 _ e3
      injection e1 with e1
      injection e1 with e1
      subst e1; subst e3
      have h33 : (Kd.tag f (npk 5)).sz = 3 := rfl
      refine run_clear_one w1 42 31 ty (.agg #[.int .i64 0, .int .i64 0, .slice none 0 0]) [.int .i64 0, .int .i64 0, .slice none 0 0] Try.underlying42 (fun w => by simp [zeroValue, typeInfo, hi, hz]) (by kernel_rfl) (by simp [Value.oneCell']) h _ c' (fun j hj => ?_) (fun j _ => blk_frozen hh _)
      rw [blk_cell hh]
      have : j < 3 := hj
      rw [Array.getElem?_eq_getElem (by rw [hcs, h33]; omega)]
      rfl
  have hc13 : ∀ W : World, (Instr.slice 42 (.slice (some ⟨h, 0, none⟩) n c) (some (.int .i64 i)) (some (.int .i64 (i + 1))) (some (.int .i64 n))).run Try.prog W = .ok (sliced (some ⟨h, 0, none⟩) i.toNat (i + 1).toNat n 3) W := by
    intro W
    have hel : Try.prog.elem 42 = 31 := by simp [Program.elem, Try.underlying42]
    rw [run_slice_lhm W 42 (some ⟨h, 0, none⟩) n c (by rw [hel]; exact Try.underlying42) .i64 .i64 .i64 i (i + 1) n h0 (by omega) (by omega) (by omega), hel]
    simp [sizeOf, typeInfo, hi, hsz, Result.andThen]
  have hc22 : ∀ W : World, (Instr.slice 42 (.slice (some ⟨h, 0, none⟩) n c) none (some (.int .i64 i)) none).run Try.prog W = .ok (.slice (some ⟨h, 0, none⟩) i.toNat c) W := cut_to (P := Try.prog) 42 31 .i64 Try.underlying42 hi _ n c i h0 (by omega) hnc
  have hc25 : ∀ W : World, (Instr.slice 42 (.slice (some ⟨h, 0, none⟩) n c) (some (.int .i64 (i + 1))) none none).run Try.prog W = .ok (.slice (if c = i.toNat + 1 then some ⟨h, 0, none⟩ else (some (⟨h, 0, none⟩ : Addr)).map (·.add ((i.toNat + 1) * 3))) (n - (i.toNat + 1)) (c - (i.toNat + 1))) W := by
    have := cut_from (P := Try.prog) 42 31 .i64 Try.underlying42 hi 3 hsz (some ⟨h, 0, none⟩) n c (i + 1) (by omega) (by omega)
    rw [show (i + 1).toNat = i.toNat + 1 by omega] at this
    exact this
  have hc31 : ∀ W : World, (Instr.slice 42 (.slice (some ⟨h, 0, none⟩) (n - 1) c) (some (.int .i64 ((n - 1 : Nat) : Int))) (some (.int .i64 n)) none).run Try.prog W = .ok (.slice (some ⟨h, (n - 1) * 3, none⟩) 1 (c - (n - 1))) W := by
    intro W
    have hel : Try.prog.elem 42 = 31 := by simp [Program.elem, Try.underlying42]
    rw [run_slice_lh W 42 (some ⟨h, 0, none⟩) (n - 1) c (by rw [hel]; exact Try.underlying42) .i64 .i64 ((n - 1 : Nat) : Int) n (by omega) (by omega) (by omega), hel]
    simp only [sizeOf, typeInfo, hi, hsz, Result.andThen, sliced]
    have e1 : ((n : Int)).toNat - ((n - 1 : Nat) : Int).toNat = 1 := by omega
    have e2 : ¬ (c = n - 1) := by omega
    have e3 : (⟨h, 0, none⟩ : Addr).add ((n - 1) * 3) = ⟨h, (n - 1) * 3, none⟩ := by unfold Addr.add; split <;> simp_all
    simp [hi, hsz, e2, e3]
    omega
  obtain ⟨AA, hAA⟩ : ∃ AA, (if c = i.toNat + 1 then some (⟨h, 0, none⟩ : Addr) else (some (⟨h, 0, none⟩ : Addr)).map (·.add ((i.toNat + 1) * 3))) = AA := ⟨_, rfl⟩
  replace hr : (Builtin.append_ #[42, 42] 42 #[.slice (some ⟨h, 0, none⟩) i.toNat c, .slice AA (n - (i.toNat + 1)) (c - (i.toNat + 1))]).run Try.prog w.drew = .ok (.slice (some ⟨h, 0, none⟩) (n - 1) c) w1 := by rw [← hAA]; exact hr
  rw [hAA] at hc25
  obtain ⟨V3, hV3⟩ : ∃ V3, sliced (some ⟨h, 0, none⟩) i.toNat (i + 1).toNat n 3 = V3 := ⟨_, rfl⟩
  rw [hV3] at hc13
  clear hV3
  have q1 : decide (i = i + 1) = false := decide_eq_false (by omega)
  have q2 : (i == i + 1) = false := beq_eq_false_iff_ne.2 (by omega)
  have hgd : w.grownBy w1 (some h) := ⟨hg.os, hg.tape, hg.output, hg.size, hg.block⟩
  have TT := Aside0.mk T1
  have HG := Aside0.mk hgd
  clear hAA T1 hgd hg hS HO hi hz hsz hby hnc hcm h0 h1 h3 i0
  go_enter Try.func26, Try.ntmps26
  go_upto_region 5 with (fail)
  go_still_tail 6, (by kernel_rfl)
  change wpList _ _ _ _ _ w.drew
  go_wp2_with (first | (at_builtin; refine wpapp rfl _ _ 42 rfl _ _ rfl rfl hr ?_))
  go_ret
  exact ⟨rfl, TT.out.1, ⟨TT.out.2.os.trans HG.out.os, TT.out.2.tape.trans HG.out.tape, TT.out.2.output.trans HG.out.output, Nat.le_trans HG.out.size TT.out.2.size, fun k hk hne => (TT.out.2.block k (Nat.lt_of_lt_of_le hk HG.out.size) hne).trans (HG.out.block k hk hne)⟩⟩
/-! ### net_Net_pull: function 19, by hand -/
def net_pull_St (w W : World) (base g h n cap : Nat) (ok oki : Nat → Prop) (room c0 c1 c2 c3 : Int) (L : List NP) (i : Int) (cs : List Value) (vb : Value) (b : List Int) : Prop :=
  Below w.heap.size w W ∧ W.heap[g]? = some (.cells #[.int .i64 room, .slice (some ⟨h, 0, none⟩) n cap, .int .i64 c0, .int .i64 c1, .int .i64 c2, .int .i64 c3] 52 (0, 0)) ∧ Kd.H (npk 5) 31 W base ok (.slice (some ⟨h, 0, none⟩) n cap) L i oki cs ∧ (Kd.int .u8).R 5 W base oki vb b
theorem net_pull_St.below {w W W' : World} {base g h n cap : Nat} {ok oki : Nat → Prop} {room c0 c1 c2 c3 : Int} {L : List NP} {i : Int} {cs : List Value} {vb : Value} {b : List Int} (H : net_pull_St w W base g h n cap ok oki room c0 c1 c2 c3 L i cs vb b) (hb : Below W.heap.size W W') : net_pull_St w W' base g h n cap ok oki room c0 c1 c2 c3 L i cs vb b :=
  ⟨below_step H.1 hb, blk_below H.2.1 hb, Kd.H_below H.2.2.1 hb, Kd.R_below H.2.2.2 hb⟩
def net_pulled (w : World) (base g : Nat) (ok : Nat → Prop) (room c0 c1 c2 c3 : Int) (L : List NP) (i : Nat) (p : NP) (e : Ending) (w' : World) : Prop :=
  ∃ (okp : Nat → Prop) (vb v' : Value), e = .returned (.tuple #[.agg #[.int .i64 p.1, .int .i64 p.2.1, vb], .bool true]) ∧ (Kd.int .u8).R 5 w' base okp vb p.2.2 ∧ (∀ k, okp k → ok k) ∧ NetAt 52 31 5 w' base g (fun k => ok k ∧ ¬ okp k) room (L.eraseIdx i) c0 c1 c2 c3 v' ∧ Upd (fun k => ok k ∨ k = g) w w'
set_option maxHeartbeats 8000000 in
set_option maxRecDepth 100000 in
theorem net_Net_pull.some0_ (a room c0 c1 c2 c3 : Int) (L : List NP) (v : Value) (base g : Nat) (ok : Nat → Prop) (w : World) (hlt_ : ∀ k, ok k → k < w.heap.size) (hN : NetAt 52 31 5 w base g ok room L c0 c1 c2 c3 v) (h0 : 0 < L.length) (h1 : (L.length : Int) ≤ 4611686018427387904) :
    Calls Try.prog 19 #[.pointer (some ⟨g, 0, none⟩), .int .i64 a] w (net_pulled w base g ok room c0 c1 c2 c3 L (net_idx a L.length).toNat (L.getD (net_idx a L.length).toNat (0, 0, []))) := by
  obtain ⟨hi0, hi1⟩ := net_idx.bounds a L.length (by omega) h1
  have HLT := Aside0.mk hlt_
  clear hlt_
  obtain ⟨h, cap, rfl, hbh, hlt, _⟩ := Kd.S_form hN.2.2.2 h0
  have HOF := Aside0.mk (fun (W : World) (hN : NetAt 52 31 5 W base g ok room L c0 c1 c2 c3 (.slice (some ⟨h, 0, none⟩) L.length cap)) => net_Net_of.some_ a room c0 c1 c2 c3 L _ base g ok W hN h0 h1)
  generalize net_idx a L.length = i at *
  obtain ⟨oki, cs, hcl, hM, hcc, hok, HH⟩ := Kd.S_lend hN.2.2.2 (0, 0, []) i hi0 hi1
  obtain ⟨p, hp⟩ : ∃ p, L.getD i.toNat (0, 0, []) = p := ⟨_, rfl⟩
  rw [hp] at hM
  rw [hp]
  obtain ⟨vb, rfl, hR⟩ := npk_inv hM
  obtain ⟨Ab, cb, rfl⟩ := Kd.R_slice hR
  have z0 : w.cell? ⟨h, i.toNat * 3, none⟩ = some (.int .i64 p.1) := hcc 0 _ rfl
  have z1 : w.cell? ⟨h, i.toNat * 3 + 1, none⟩ = some (.int .i64 p.2.1) := hcc 1 _ rfl
  have z2 : w.cell? ⟨h, i.toNat * 3 + 2, none⟩ = some (.slice Ab p.2.2.length cb) := hcc 2 _ rfl
  have HOK := Aside0.mk hok
  have HBS := Aside0.mk (show base ≤ g ∧ ¬ ok g ∧ ok h ∧ h < w.heap.size ∧ g < w.heap.size from ⟨hN.1, hN.2.1, hN.2.2.2.choose_spec.1 h rfl, hlt, blk_lt hN.2.2.1⟩)
  have ST := Aside0.mk (show net_pull_St w w base g h L.length cap ok oki room c0 c1 c2 c3 L i [.int .i64 p.1, .int .i64 p.2.1, .slice Ab p.2.2.length cb] (.slice Ab p.2.2.length cb) p.2.2 from ⟨Below.refl _ _, hN.2.2.1, HH, hR⟩)
  have HS := Aside0.mk hN
  have q0 : decide (0 ≤ i) = true := decide_eq_true hi0
  have q1 : decide (i < (L.length : Int)) = true := decide_eq_true hi1
  have q2 : (0 ≤ i ∧ i < (L.length : Int)) = True := eq_true ⟨hi0, hi1⟩
  have hw : IntKind.i64.wrap (i + 1) = i + 1 := by rw [i64_w]; unfold wrap64; omega
  have HI := Aside0.mk (show 0 ≤ i ∧ i < (L.length : Int) from ⟨hi0, hi1⟩)
  clear hp hcl hM hcc hok HH hR hN hlt hbh h0 h1 hi0 hi1
  have hu31 := Try.underlying31
  go_enter Try.func19, Try.ntmps19
  go_upto_region 4 with (first
    | ((with_reducible refine gate_dst (N := 4) rfl ?_); refine box_event ?hg (N := 4) ?hd (cs := #[.int .i64 0, .int .i64 0, .slice none 0 0]) (t := 31) ?hr ?_; (case hd => rfl); (case hg => rfl); (case hr => first | (go_simp; done) | (go_simp; rfl)); intro g4 hg_ w4 hbox hbb; have HG4 := Aside0.mk hg_; have K4 := Aside0.mk hbox; replace ST := Aside0.mk (ST.out.below hbb); replace HS := Aside0.mk (HS.out.below hbb); replace z0 := pw_cell_below hbb z0; replace z1 := pw_cell_below hbb z1; replace z2 := pw_cell_below hbb z2; clear hg_ hbox hbb)
    | (go_at_call 20; (with_reducible refine (HOF.out _ HS.out).mono ?_); rintro e wn ⟨rfl, rfl⟩))
  obtain ⟨y0, y1, y2, y3, y4, y5, f0, f1, f2, f3, f4, f5⟩ := cells6 ST.out.2.1
  clear y0 y2 y3 y4 y5 f0 f1 f2 f3 f4 f5 HS HOF
  go_upto_region 5 with (first
    | ((with_reducible refine gate_dst (N := 8) rfl ?_); refine box_event ?hg (N := 8) ?hd (cs := #[.int .i64 0, .int .i64 0, .slice none 0 0]) (t := 31) ?hr ?_; (case hd => rfl); (case hg => rfl); (case hr => first | (go_simp; done) | (go_simp; rfl)); intro g8 hg_ w8 hbox hbb; have H48 := Aside0.mk (show w.heap.size ≤ w4.heap.size from ST.out.1.size); have G84 := Aside0.mk (show g4 ≠ g8 from by rw [hg_]; exact Nat.ne_of_lt (blk_lt K4.out)); have HG8 := Aside0.mk (show w4.heap.size ≤ g8 from Nat.le_of_eq hg_.symm); clear z0 z1 z2 y1 hg_; (with_reducible refine gate_store_ rfl ?_); refine stA_ rfl rfl rfl rfl rfl hbox rfl (by kernel_rfl) (by simp [Value.oneCell']) ?_; intro W' hW1 hW2 hW3 hW4; have K8 := Aside0.mk hW1; replace K4 := Aside0.mk ((hW2 _ G84.out).trans (blk_below K4.out hbb)); replace ST := Aside0.mk (ST.out.below (hW4 w4 HG8.out hbb)); clear hbox hbb hW1 hW2 hW3 hW4))
  obtain ⟨y0, y1, y2, y3, y4, y5, f0, f1, f2, f3, f4, f5⟩ := cells6 ST.out.2.1
  clear y0 y2 y3 y4 y5 f0 f1 f2 f3 f4 f5
  have HH1 := Aside0.mk ST.out.2.2.1
  go_upto_region 6 with (first
    | (go_at_call 26; (with_reducible refine (net_Delete.good i L.length cap h base L ok oki _ _ HI.out.1 HI.out.2 HH1.out).mono ?_); rintro e wd ⟨rfl, hS, hg⟩; clear y1;
       have hgh : g ≠ h := (fun e => HBS.out.2.1 (by rw [e]; exact HBS.out.2.2.1)); have BG := Aside0.mk ((hg.block g (blk_lt ST.out.2.1) (fun e => hgh (by injection e))).trans ST.out.2.1);
       replace K8 := Aside0.mk ((hg.block g8 (blk_lt K8.out) (fun e => by injection e with e; have := HBS.out.2.2.2.1; have := ST.out.1.size; have := HG8.out; have := HG4.out; have h5 := H48.out; omega)).trans K8.out);
       replace K4 := Aside0.mk ((hg.block g4 (blk_lt K4.out) (fun e => by injection e with e; have := HBS.out.2.2.2.1; have := HG4.out; omega)).trans K4.out);
       have HD := Aside0.mk hS; have HR := Aside0.mk (Kd.R_grown ST.out.2.2.2 hg (fun k hk e => (HOK.out k hk).2 (by injection e)));
       have HU := Aside0.mk ((Upd.of_below (S := fun k => ok k ∨ k = g) ST.out.1).trans (Upd.of_grown hg (S := fun k => ok k ∨ k = g) (fun k e => by injection e with e; exact Or.inl (by rw [← e]; exact HBS.out.2.2.1))) (fun _ _ hk => hk)); clear hS hg hgh;
       obtain ⟨y0, y1, y2, y3, y4, y5, f0, f1, f2, f3, f4, f5⟩ := cells6 BG.out; clear y0 y2 y3 y4 y5 f0 f2 f3 f4 f5))
  have hgh : g ≠ h := (fun e => HBS.out.2.1 (by rw [e]; exact HBS.out.2.2.1))
  have h8 : g8 ≠ g := blk_ne K8.out BG.out (by decide)
  have h4 : g4 ≠ g := blk_ne K4.out BG.out (by decide)
  have NA := Aside0.mk (show NetAt 52 31 5 (wd.setCell ⟨g, 1, none⟩ (.slice (some ⟨h, 0, none⟩) (L.length - 1) cap)) base g (fun k => ok k ∧ ¬ oki k) room (L.eraseIdx i.toNat) c0 c1 c2 c3 (.slice (some ⟨h, 0, none⟩) (L.length - 1) cap) from
    ⟨HBS.out.1, fun hk => HBS.out.2.1 hk.1, blk_put BG.out 1 _ rfl, Kd.S_far (p := ⟨g, 1, none⟩) HD.out (fun k hk e => HBS.out.2.1 (by have e' : k = g := e; rw [← e']; exact hk.1)) _⟩)
  have NR := Aside0.mk (Kd.R_far (p := ⟨g, 1, none⟩) HR.out (fun k hk e => HBS.out.2.1 (by have e' : k = g := e; rw [← e']; exact (HOK.out k hk).1)) (.slice (some ⟨h, 0, none⟩) (L.length - 1) cap))
  have NU := Aside0.mk (HU.out.trans (Upd.of_set g 1 (.slice (some ⟨h, 0, none⟩) (L.length - 1) cap) (S := fun k => ok k ∨ k = g) (Or.inr rfl)) (fun _ _ hk => hk))
  replace K8 := Aside0.mk (blk_far K8.out (p := ⟨g, 1, none⟩) h8 (.slice (some ⟨h, 0, none⟩) (L.length - 1) cap))
  replace K4 := Aside0.mk (blk_far K4.out (p := ⟨g, 1, none⟩) h4 (.slice (some ⟨h, 0, none⟩) (L.length - 1) cap))
  clear y1 f1 BG HD HR HU ST HH1 hgh h8
  generalize wd.setCell ⟨g, 1, none⟩ (.slice (some ⟨h, 0, none⟩) (L.length - 1) cap) = W6 at *
  obtain ⟨x0, x1, x2, _⟩ := cells3 K8.out
  go_wp2_with (first
    | ((with_reducible refine gate_store_ rfl ?_); refine stU_ rfl rfl rfl rfl rfl K4.out rfl (by kernel_rfl) (by simp [Value.oneCell']) ?_; intro W7 hW1 hW2; clear x0 x1 x2;
       have hB : ∀ k, ok k → ¬ k = g4 := (fun k hk e => by have := HLT.out k hk; have := HG4.out; omega);
       replace NA := Aside0.mk (NA.out.upd hW2 (fun k hk _ => hB k hk.1) (Ne.symm h4));
       replace NR := Aside0.mk (Kd.R_step (w1 := W7) NR.out (fun k hk hlt => hW2.2.2.2.2 k hlt (hB k (HOK.out k hk).1)));
       replace NU := Aside0.mk (NU.out.trans hW2 (fun k hk e => by have := HG4.out; omega)); replace K4 := Aside0.mk hW1; clear hW1 hW2 hB K8))
  refine bodyPost_ret (results_ct rfl _ _ g4 31 #[.int .i64 p.1, .int .i64 p.2.1, .slice Ab p.2.2.length cb] (0, 0) _ rfl K4.out Try.underlying31 rfl (by kernel_rfl)) rfl ?_
  exact ⟨oki, _, _, rfl, NR.out, fun k hk => (HOK.out k hk).1, NA.out, NU.out⟩
theorem net_Net_pull.some_ (a room c0 c1 c2 c3 : Int) (L : List NP) (v : Value) (base g : Nat) (ok : Nat → Prop) (w : World) (hN : NetAt 52 31 5 w base g ok room L c0 c1 c2 c3 v) (h0 : 0 < L.length) (h1 : (L.length : Int) ≤ 4611686018427387904) :
    Calls Try.prog 19 #[.pointer (some ⟨g, 0, none⟩), .int .i64 a] w (net_pulled w base g ok room c0 c1 c2 c3 L (net_idx a L.length).toNat (L.getD (net_idx a L.length).toNat (0, 0, []))) := by
  refine (net_Net_pull.some0_ a room c0 c1 c2 c3 L v base g (fun k => ok k ∧ k < w.heap.size) w (fun k hk => hk.2) hN.bound h0 h1).mono ?_
  rintro e w' ⟨okp, vb, v', he, hR, hok, hn, hu⟩
  exact ⟨okp, vb, v', he, hR, fun k hk => (hok k hk).1, hn.mono (fun k hk => ⟨hk.1.1, hk.2⟩) (fun hk => hN.2.1 hk.1), hu.mono (fun k _ hk => hk.imp (·.1) id)⟩
set_option maxHeartbeats 8000000 in
set_option maxRecDepth 100000 in
theorem net_Net_pull.none_ (a room c0 c1 c2 c3 : Int) (v : Value) (base g : Nat) (ok : Nat → Prop) (w : World) (hN : NetAt 52 31 5 w base g ok room [] c0 c1 c2 c3 v) :
    Calls Try.prog 19 #[.pointer (some ⟨g, 0, none⟩), .int .i64 a] w fun e w' => e = .returned (.tuple #[.agg #[.int .i64 0, .int .i64 0, .slice none 0 0], .bool false]) ∧ Below w.heap.size w w' := by
  have HS := Aside0.mk hN
  have HB := Aside0.mk (Below.refl w.heap.size w)
  clear hN
  have hu31 := Try.underlying31
  go_enter Try.func19, Try.ntmps19
  go_wp2_with (first
    | ((with_reducible refine gate_dst (N := 4) rfl ?_); refine box_event ?hg (N := 4) ?hd (cs := #[.int .i64 0, .int .i64 0, .slice none 0 0]) (t := 31) ?hr ?_; (case hd => rfl); (case hg => rfl); (case hr => first | (go_simp; done) | (go_simp; rfl)); intro g4 hg_ w4 hbox hbb; have HG4 := Aside0.mk hg_; have K4 := Aside0.mk hbox; replace HS := Aside0.mk (HS.out.below hbb); replace HB := Aside0.mk hbb; clear hg_ hbox hbb)
    | (go_at_call 20; (with_reducible refine (net_Net_of.none_ a room c0 c1 c2 c3 _ base g ok _ HS.out).mono ?_); rintro e wn ⟨rfl, rfl⟩)
    | ((with_reducible refine gate_store_ rfl ?_); refine stU_ rfl rfl rfl rfl rfl K4.out rfl (by kernel_rfl) (by simp [Value.oneCell']) ?_; intro W7 hW1 hW2; replace HB := Aside0.mk (Upd.belowB HB.out HB.out.size hW2 (fun k hk => by have h5 : k = g4 := hk; have := HG4.out; omega)); replace K4 := Aside0.mk hW1; clear hW1 hW2))
  refine bodyPost_ret (results_ct rfl _ _ g4 31 #[.int .i64 0, .int .i64 0, .slice none 0 0] (0, 0) _ rfl K4.out Try.underlying31 rfl (by kernel_rfl)) rfl ?_
  exact ⟨rfl, HB.out⟩
/-! ### net_Net_Take: function 10, by hand -/
set_option maxHeartbeats 8000000 in
set_option maxRecDepth 100000 in
theorem net_Net_Take.some0_ (a room c0 c1 c2 c3 : Int) (L : List NP) (v : Value) (base g : Nat) (ok : Nat → Prop) (w : World) (hlt_ : ∀ k, ok k → k < w.heap.size) (hN : NetAt 52 31 5 w base g ok room L c0 c1 c2 c3 v) (h0 : 0 < L.length) (h1 : (L.length : Int) ≤ 4611686018427387904) :
    Calls Try.prog 10 #[.pointer (some ⟨g, 0, none⟩), .int .i64 a] w (net_pulled w base g ok room c0 c1 (wrap64 (c2 + 1)) c3 L (net_idx a L.length).toNat (L.getD (net_idx a L.length).toNat (0, 0, []))) := by
  have HP := Aside0.mk (fun (W : World) (hN : NetAt 52 31 5 W base g ok room L c0 c1 c2 c3 v) => net_Net_pull.some_ a room c0 c1 c2 c3 L _ base g ok W hN h0 h1)
  generalize (net_idx a L.length).toNat = i at *
  obtain ⟨p, hp⟩ : ∃ p, L.getD i (0, 0, []) = p := ⟨_, rfl⟩
  rw [hp] at HP ⊢
  have HLT := Aside0.mk hlt_
  have HGL := Aside0.mk (show g < w.heap.size from blk_lt hN.2.2.1)
  have HS := Aside0.mk hN
  clear hp hN hlt_ h0 h1
  have hu31 := Try.underlying31
  have hu43 := Try.underlying43
  go_enter Try.func10, Try.ntmps10
  go_upto_region 2 with (first
    | ((with_reducible refine gate_dst (N := 4) rfl ?_); refine box_event ?hg (N := 4) ?hd (cs := #[.int .i64 0, .int .i64 0, .slice none 0 0]) (t := 31) ?hr ?_; (case hd => rfl); (case hg => rfl); (case hr => first | (go_simp; done) | (go_simp; rfl)); intro g4 hg_ w4 hbox hbb; have HG4 := Aside0.mk hg_; have K4 := Aside0.mk hbox; replace HS := Aside0.mk (HS.out.below hbb); have HB4 := Aside0.mk hbb; clear hg_ hbox hbb)
    | (go_at_call 19; (with_reducible refine (HP.out _ HS.out).mono ?_); rintro e wp ⟨okp, vb, v', rfl, hR, hok, hn, hu⟩; obtain ⟨Ab, cb, rfl⟩ := Kd.R_slice hR;
       replace K4 := Aside0.mk (hu.blk K4.out (fun hk => by have h5 := HG4.out; have h6 := HGL.out; rcases hk with hk | hk; · have := HLT.out _ hk; omega
                                                            · omega)); have NR := Aside0.mk hR; have HOK := Aside0.mk hok; have NA := Aside0.mk hn; have NU := Aside0.mk ((Upd.of_below (S := fun k => ok k ∨ k = g) HB4.out).trans hu (fun _ _ hk => hk)); have HWP := Aside0.mk (Nat.le_trans HB4.out.size hu.size); clear hR hok hn hu)
    | ((with_reducible refine gate_dst (N := 6) rfl ?_); refine box_event ?hg (N := 6) ?hd (cs := #[.int .i64 0, .int .i64 0, .slice none 0 0]) (t := 31) ?hr ?_; (case hd => rfl); (case hg => rfl); (case hr => first | (go_simp; done) | (go_simp; rfl)); intro g6 hg_ w6 hbox hbb; have HG6 := Aside0.mk (show w.heap.size ≤ g6 from by rw [hg_]; exact HWP.out);
       have H46 := Aside0.mk (show g4 ≠ g6 from by rw [hg_]; exact Nat.ne_of_lt (blk_lt K4.out)); replace K4 := Aside0.mk (blk_below K4.out hbb); replace NA := Aside0.mk (NA.out.below hbb); replace NR := Aside0.mk (Kd.R_below NR.out hbb); replace NU := Aside0.mk (NU.out.trans (Upd.of_below (S := fun k => ok k ∨ k = g) hbb) (fun _ _ hk => hk)); clear hg_ hbb;
       (with_reducible refine gate_store_ rfl ?_); refine stU_ rfl rfl rfl rfl rfl hbox rfl (by kernel_rfl) (by simp [Value.oneCell']) ?_; intro W7 hW1 hW2; clear hbox;
       have hB : ∀ k, ok k → ¬ k = g6 := (fun k hk e => by have := HLT.out k hk; have := HG6.out; omega);
       replace K4 := Aside0.mk (hW2.blk K4.out H46.out); have K6 := Aside0.mk hW1; have NA7 := Aside0.mk (NA.out.upd hW2 (fun k hk _ => hB k hk.1) (fun e => by have := HG6.out; have := HGL.out; omega)); have NR7 := Aside0.mk (Kd.R_step (w1 := W7) NR.out (fun k hk hlt => hW2.2.2.2.2 k hlt (hB k (HOK.out k hk)))); have NU7 := Aside0.mk (NU.out.trans hW2 (fun k hk e => by have := HG6.out; omega)); clear hW1 hW2 hB NA NR NU))
  go_upto_region 3 with (fail)
  obtain ⟨y0, y1, y2, y3, y4, y5, f0, f1, f2, f3, f4, f5⟩ := cells6 NA7.out.2.2.1
  clear y0 y1 y2 y3 y5 f0 f1 f2 f3 f5
  have hw : IntKind.i64.wrap (c2 + 1) = wrap64 (c2 + 1) := by rw [i64_w]
  go_still_tail 9, (by kernel_rfl)
  change wpList _ _ _ _ _ W7.drew
  go_upto_region 4 with (fail)
  have hg4 : g4 ≠ g := fun e => by have := HG4.out; have := HGL.out; omega
  have hg6 : g6 ≠ g := fun e => by have := HG6.out; have := HGL.out; omega
  replace NA7 := Aside0.mk ((NA7.out.put (by decide) (by decide) 4 (.int .i64 (wrap64 (c2 + 1))) c0 c1 (wrap64 (c2 + 1)) c3 rfl).drew)
  replace NR7 := Aside0.mk (Kd.R_drew (Kd.R_far (p := ⟨g, 4, none⟩) NR7.out (fun k hk e => HS.out.2.1 (by have e' : k = g := e; rw [← e']; exact HOK.out k hk)) (.int .i64 (wrap64 (c2 + 1)))))
  replace NU7 := Aside0.mk ((NU7.out.trans (Upd.of_set g 4 (.int .i64 (wrap64 (c2 + 1))) (S := fun k => ok k ∨ k = g) (Or.inr rfl)) (fun _ _ hk => hk)).drew)
  replace K6 := Aside0.mk (blk_drew (blk_far K6.out (p := ⟨g, 4, none⟩) hg6 (.int .i64 (wrap64 (c2 + 1)))))
  replace K4 := Aside0.mk (blk_drew (blk_far K4.out (p := ⟨g, 4, none⟩) hg4 (.int .i64 (wrap64 (c2 + 1)))))
  clear y4 f4 hw
  generalize (W7.setCell ⟨g, 4, none⟩ (.int .i64 (wrap64 (c2 + 1)))).drew = W8 at *
  obtain ⟨x0, x1, x2, _⟩ := cells3 K6.out
  go_wp2_with (first
    | ((with_reducible refine gate_store_ rfl ?_); refine stU_ rfl rfl rfl rfl rfl K4.out rfl (by kernel_rfl) (by simp [Value.oneCell']) ?_; intro W9 hW1 hW2; clear x0 x1 x2;
       have hB : ∀ k, ok k → ¬ k = g4 := (fun k hk e => by have := HLT.out k hk; have := HG4.out; omega);
       replace NA7 := Aside0.mk (NA7.out.upd hW2 (fun k hk _ => hB k hk.1) (Ne.symm hg4));
       replace NR7 := Aside0.mk (Kd.R_step (w1 := W9) NR7.out (fun k hk hlt => hW2.2.2.2.2 k hlt (hB k (HOK.out k hk))));
       replace NU7 := Aside0.mk (NU7.out.trans hW2 (fun k hk e => by have := HG4.out; omega)); replace K4 := Aside0.mk hW1; clear hW1 hW2 hB))
  refine bodyPost_ret (results_ct rfl _ _ g4 31 #[.int .i64 p.1, .int .i64 p.2.1, .slice Ab p.2.2.length cb] (0, 0) _ rfl K4.out Try.underlying31 rfl (by kernel_rfl)) rfl ?_
  exact ⟨okp, _, _, rfl, NR7.out, fun k hk => HOK.out k hk, NA7.out, NU7.out⟩
theorem net_Net_Take.some_ (a room c0 c1 c2 c3 : Int) (L : List NP) (v : Value) (base g : Nat) (ok : Nat → Prop) (w : World) (hN : NetAt 52 31 5 w base g ok room L c0 c1 c2 c3 v) (h0 : 0 < L.length) (h1 : (L.length : Int) ≤ 4611686018427387904) :
    Calls Try.prog 10 #[.pointer (some ⟨g, 0, none⟩), .int .i64 a] w (net_pulled w base g ok room c0 c1 (wrap64 (c2 + 1)) c3 L (net_idx a L.length).toNat (L.getD (net_idx a L.length).toNat (0, 0, []))) := by
  refine (net_Net_Take.some0_ a room c0 c1 c2 c3 L v base g (fun k => ok k ∧ k < w.heap.size) w (fun k hk => hk.2) hN.bound h0 h1).mono ?_
  rintro e w' ⟨okp, vb, v', he, hR, hok, hn, hu⟩
  exact ⟨okp, vb, v', he, hR, fun k hk => (hok k hk).1, hn.mono (fun k hk => ⟨hk.1.1, hk.2⟩) (fun hk => hN.2.1 hk.1), hu.mono (fun k _ hk => hk.imp (·.1) id)⟩
set_option maxHeartbeats 8000000 in
set_option maxRecDepth 100000 in
theorem net_Net_Take.none_ (a room c0 c1 c2 c3 : Int) (v : Value) (base g : Nat) (ok : Nat → Prop) (w : World) (hN : NetAt 52 31 5 w base g ok room [] c0 c1 c2 c3 v) :
    Calls Try.prog 10 #[.pointer (some ⟨g, 0, none⟩), .int .i64 a] w fun e w' => e = .returned (.tuple #[.agg #[.int .i64 0, .int .i64 0, .slice none 0 0], .bool false]) ∧ Below w.heap.size w w' := by
  have HS := Aside0.mk hN
  have HB := Aside0.mk (Below.refl w.heap.size w)
  clear hN
  have hu31 := Try.underlying31
  go_enter Try.func10, Try.ntmps10
  go_wp2_with (first
    | ((with_reducible refine gate_dst (N := 4) rfl ?_); refine box_event ?hg (N := 4) ?hd (cs := #[.int .i64 0, .int .i64 0, .slice none 0 0]) (t := 31) ?hr ?_; (case hd => rfl); (case hg => rfl); (case hr => first | (go_simp; done) | (go_simp; rfl)); intro g4 hg_ w4 hbox hbb; have HG4 := Aside0.mk hg_; have K4 := Aside0.mk hbox; replace HS := Aside0.mk (HS.out.below hbb); replace HB := Aside0.mk hbb; clear hg_ hbox hbb)
    | (go_at_call 19; (with_reducible refine (net_Net_pull.none_ a room c0 c1 c2 c3 _ base g ok _ HS.out).mono ?_); rintro e wn ⟨rfl, hb⟩; replace K4 := Aside0.mk (blk_below K4.out hb); replace HB := Aside0.mk (below_step HB.out hb); clear hb)
    | ((with_reducible refine gate_dst (N := 6) rfl ?_); refine box_event ?hg (N := 6) ?hd (cs := #[.int .i64 0, .int .i64 0, .slice none 0 0]) (t := 31) ?hr ?_; (case hd => rfl); (case hg => rfl); (case hr => first | (go_simp; done) | (go_simp; rfl)); intro g6 hg_ w6 hbox hbb; have H46 := Aside0.mk (show g4 ≠ g6 from by rw [hg_]; exact Nat.ne_of_lt (blk_lt K4.out)); have HG6 := Aside0.mk (show w.heap.size ≤ g6 from by rw [hg_]; exact HB.out.size); replace K4 := Aside0.mk (blk_below K4.out hbb); replace HB := Aside0.mk (below_step HB.out hbb); clear hg_ hbb;
       (with_reducible refine gate_store_ rfl ?_); refine stU_ rfl rfl rfl rfl rfl hbox rfl (by kernel_rfl) (by simp [Value.oneCell']) ?_; intro W7 hW1 hW2; clear hbox; replace K4 := Aside0.mk (hW2.blk K4.out H46.out); have K6 := Aside0.mk hW1; replace HB := Aside0.mk (Upd.belowB HB.out HB.out.size hW2 (fun k hk => by have h5 : k = g6 := hk; have := HG6.out; omega)); obtain ⟨x0, x1, x2, _⟩ := cells3 hW1; clear hW1 hW2)
    | ((with_reducible refine gate_store_ rfl ?_); refine stU_ rfl rfl rfl rfl rfl K4.out rfl (by kernel_rfl) (by simp [Value.oneCell']) ?_; intro W7 hW1 hW2; replace HB := Aside0.mk (Upd.belowB HB.out HB.out.size hW2 (fun k hk => by have h5 : k = g4 := hk; have := HG4.out; omega)); replace K4 := Aside0.mk hW1; clear hW1 hW2))
  refine bodyPost_ret (results_ct rfl _ _ g4 31 #[.int .i64 0, .int .i64 0, .slice none 0 0] (0, 0) _ rfl K4.out Try.underlying31 rfl (by kernel_rfl)) rfl ?_
  exact ⟨rfl, HB.out⟩
end Go.Proofs.Ytpaamdppobcmnaa.QNetActs
