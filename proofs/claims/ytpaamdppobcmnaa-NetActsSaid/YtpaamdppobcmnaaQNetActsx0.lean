-- Written by a program of this session (a turned copy of the print) out of the translation. Lean checks it.
import Derived.Test.YtpaamdppobcmnaaProg
import Derived.Below
import Derived.Deep.Draws
import Derived.Deep.AppendLies
import Derived.Maps.AppendAt
import Derived.Maps.OwnSet
import Derived.DeepKeys4
import Derived.WideKeyEntry
import Derived.Deep.MidRow
import Derived.Shelf.Bytes.SlJoin
import Derived.Deep.AppendSrc
import Derived.Defers
import Derived.Recover
import Derived.StillTailTactics
import Derived.OwnWalk
import Derived.Laws.BytesArg
import Derived.Laws.MakeOwn
import Derived.Laws.OwnMore
import Derived.Deep.OwnRows
import Derived.Tactics
import Derived.Lib.ConvBytes
import Derived.Laws.Slices
import Derived.WalkKit
import Derived.KernelRfl
import Derived.RowKit3
import Derived.Deep.LoopGhost
import Derived.Deep.QuietTactic
import Derived.BigQuiet
import Derived.WideLaws
import Derived.Deep.DeepCutAuto
import Derived.Deep.CutBlock
import Derived.Deep.RegionHeld3
import Derived.Laws.Rows
import Derived.Lib.AppendStr
import Derived.ArgAppend
import Derived.Laws.IdiomCopy
import Derived.OrdersHeld
import Derived.Laws.BitsLemmas
import Derived.RowKit
import Derived.ChangeKeysEq
import Derived.Lib.SliceRun
import Derived.Great.BuildSlice
import Derived.Deep.WholeRow
import Derived.Lib.SlBytesConst
import Derived.Lib.SmallJoins
import Derived.Test.YtpaamdppobcmnaaWWords
import Derived.Test.YtpaamdppobcmnaaWLast
import Derived.Test.YtpaamdppobcmnaaWTab
import Derived.Test.YtpaamdppobcmnaaWFour
import Derived.Test.YtpaamdppobcmnaaWQPut
import Derived.Test.YtpaamdppobcmnaaWApart
import Derived.Test.YtpaamdppobcmnaaWArr
import Derived.Test.YtpaamdppobcmnaaWZeros
import Derived.Test.YtpaamdppobcmnaaWFoot
import Derived.Test.YtpaamdppobcmnaaWKept
import Derived.Test.YtpaamdppobcmnaaWShare
import Derived.Test.YtpaamdppobcmnaaWN
import Derived.Test.YtpaamdppobcmnaaWFootNe
import Derived.Test.YtpaamdppobcmnaaWAt
import Derived.Test.YtpaamdppobcmnaaWEqStruct
import Derived.Test.YtpaamdppobcmnaaWRepsOne
import Derived.Test.YtpaamdppobcmnaaWInv
import Derived.Test.YtpaamdppobcmnaaWInvWords
import Derived.Test.YtpaamdppobcmnaaWGuard
import Derived.Test.YtpaamdppobcmnaaWNEv
import Derived.Test.YtpaamdppobcmnaaWMore
namespace Go.Proofs.Ytpaamdppobcmnaa.QNetActs
open Go.RowKit Go.Proofs.YtpaamdppobcmnaaW.PrintWords Go.Proofs.YtpaamdppobcmnaaW.PrintLast Go.Proofs.YtpaamdppobcmnaaW.PrintMore
attribute [local go_sem] max2_int min2_int max_two min_two max_three min_three max_four min_four   -- for this text's walks alone
open Go.Proofs.YtpaamdppobcmnaaW.PrintWords renaming below_alloc → b_a, pw_below_drewN → b_n, below_drew1 → b_d, below_set → b_s, blk_drewN → k_n, blk_drew → k_d, blk_alloc → k_a
open List renaming setIfInBounds_toArray → l_1, set_cons_zero → l_2, set_cons_succ → l_3, map_toArray → l_4, map_cons → l_5, map_nil → l_6, length_drop → l_7, length_take → l_8
set_option linter.unusedVariables false
set_option linter.unusedSimpArgs false



def errW : Option Int → Value
 | none => .nilIface
 | some c => .iface 0 (.int .i64 c)
theorem errW_none : errW none = .nilIface := rfl
theorem errW_some (c : Int) : errW (some c) = .iface 0 (.int .i64 c) := rfl

/-! what stands in the walks over and over -/
def bs_ (n k : Nat) : Array Bool := ((List.range n).map k.testBit).toArray
theorem bw_ {A B : Prop} (h : Aside0 A) (f : A → B := by (intro h_; repeat (first | (with_reducible first | exact h_ | apply below_alloc | apply pw_below_drewN | apply below_drew1 | refine below_set ?_ (Aside0.out (by assumption))) | exact h_))) : B := f h.out
theorem tV_ {A B : Prop} (h : Aside0 A) (f : A → B := by (intro h_; (with_reducible repeat (first | apply Kd.V_alloc | apply Kd.V_drewN | apply Kd.V_drew)); exact h_)) : B := f h.out
theorem tN_ {A B : Prop} (h : Aside0 A) (f : A → B := by (intro h_; (with_reducible repeat (first | apply Kd.N_alloc | apply Kd.N_drewN | apply Kd.N_drew)); exact h_)) : B := f h.out
theorem tR_ {A B : Prop} (h : Aside0 A) (f : A → B := by (intro h_; (with_reducible repeat (first | apply Kd.R_alloc | apply Kd.R_drewN | apply Kd.R_drew)); exact h_)) : B := f h.out
theorem tS_ {A B : Prop} (h : Aside0 A) (f : A → B := by (intro h_; (with_reducible repeat (first | apply Kd.S_alloc | apply Kd.S_drewN | apply Kd.S_drew)); exact h_)) : B := f h.out
theorem tk_ {A B : Prop} (h : Aside0 A) (f : A → B := by (intro h_; (with_reducible repeat (first | refine blk_drewN ?_ _ | refine blk_drew ?_ | refine blk_alloc ?_ _)); exact h_)) : B := f h.out
theorem bc_0 {W : World} {g t : Nat} {v0 : Value} {l : List Value} (h : Aside0 (W.heap[g]? = some (.cells (v0 :: l).toArray t (0, 0)))) : W.cell? ⟨g, 0, none⟩ = some v0 := (blk_cell h.out 0).trans rfl
theorem bc_1 {W : World} {g t : Nat} {v0 v1 : Value} {l : List Value} (h : Aside0 (W.heap[g]? = some (.cells (v0 :: v1 :: l).toArray t (0, 0)))) : W.cell? ⟨g, 1, none⟩ = some v1 := (blk_cell h.out 1).trans rfl
theorem bc_2 {W : World} {g t : Nat} {v0 v1 v2 : Value} {l : List Value} (h : Aside0 (W.heap[g]? = some (.cells (v0 :: v1 :: v2 :: l).toArray t (0, 0)))) : W.cell? ⟨g, 2, none⟩ = some v2 := (blk_cell h.out 2).trans rfl
theorem bc_3 {W : World} {g t : Nat} {v0 v1 v2 v3 : Value} {l : List Value} (h : Aside0 (W.heap[g]? = some (.cells (v0 :: v1 :: v2 :: v3 :: l).toArray t (0, 0)))) : W.cell? ⟨g, 3, none⟩ = some v3 := (blk_cell h.out 3).trans rfl
theorem bc_4 {W : World} {g t : Nat} {v0 v1 v2 v3 v4 : Value} {l : List Value} (h : Aside0 (W.heap[g]? = some (.cells (v0 :: v1 :: v2 :: v3 :: v4 :: l).toArray t (0, 0)))) : W.cell? ⟨g, 4, none⟩ = some v4 := (blk_cell h.out 4).trans rfl
theorem bc_5 {W : World} {g t : Nat} {v0 v1 v2 v3 v4 v5 : Value} {l : List Value} (h : Aside0 (W.heap[g]? = some (.cells (v0 :: v1 :: v2 :: v3 :: v4 :: v5 :: l).toArray t (0, 0)))) : W.cell? ⟨g, 5, none⟩ = some v5 := (blk_cell h.out 5).trans rfl
theorem bc_6 {W : World} {g t : Nat} {v0 v1 v2 v3 v4 v5 v6 : Value} {l : List Value} (h : Aside0 (W.heap[g]? = some (.cells (v0 :: v1 :: v2 :: v3 :: v4 :: v5 :: v6 :: l).toArray t (0, 0)))) : W.cell? ⟨g, 6, none⟩ = some v6 := (blk_cell h.out 6).trans rfl
theorem bc_7 {W : World} {g t : Nat} {v0 v1 v2 v3 v4 v5 v6 v7 : Value} {l : List Value} (h : Aside0 (W.heap[g]? = some (.cells (v0 :: v1 :: v2 :: v3 :: v4 :: v5 :: v6 :: v7 :: l).toArray t (0, 0)))) : W.cell? ⟨g, 7, none⟩ = some v7 := (blk_cell h.out 7).trans rfl
theorem cb_ {w W : World} {a : Addr} {v : Value} (hb : Aside0 (Below w.heap.size w W)) (h : w.cell? a = some v) : W.cell? a = some v := (hb.out.cell (World.block_lt_of_cell? w _ h)).trans h
/-- a slice literal's run: the kernel is not to reckon the operands through the whole act -/
theorem bld_ {P : Program} {ev : Operand → Value} {o : Oper} {W : World} {t e : TypeId} {len n : Nat} {parts : Array (Nat × Operand)} {cells : Array Value} (sz : Nat) (z : Value) (ho : o.op = .buildSlice t len parts) (hn : len = n)
    (hf : Instr.fill (fun i => some (i * sz, sz)) ((Array.range (len * sz)).map (z.cells[· % z.cells.size]!)) (parts.map fun (i, x) => (i, ev x)).toList = some cells)
    (hu : P.underlying t = some (.slice e) := by kernel_rfl) (hi : (P.info? e).map (fun i => (i.zero, i.size)) = some (some z, sz) := by kernel_rfl) (hs : decide (len * sz > 2 ^ 24) = false := by rfl) (hp : decide (len * sz = 0) = false := by rfl) :
    (execOp ev o).run P W = .ok (.value (.slice (some ⟨W.heap.size, 0, none⟩) n n)) (W.alloc (.cells cells e)) := by
  cases hie : P.info? e with
  | none => rw [hie] at hi; cases hi
  | some ie =>
    rw [hie, Option.map_some] at hi
    injection hi with hi
    injection hi with h1 h2
    subst hn h2
    have h := run_buildSlice W t e len (parts.map fun (i, x) => (i, ev x)) cells ie z hu hie h1 (of_decide_eq_false hs) (of_decide_eq_false hp) hf
    unfold execOp
    simp only [ho, Sem.run_bind, h, Result.andThen_ok]
    rfl
section
variable {P : Program} {ops : Array Oper} {Q : Exit → Act → World → Prop} {S : World → Prop} {md : Region.Mode} {ds : List Nat} {T : Bool × List (List Nat × List Nat)} {i : Nat} {N : Option Tmp} {oi : Oper} {v : Value} {fuel : Nat} {l : Array Bool} {a a' : Act} {w : World}
theorem pu_ (l' : Array Bool) (hi : ops[i]? = some oi) (hN : oi.dst = N) (hT : Aside0 (rtab md ops = T)) (h : wpAnyLast P md ops Q S ds fuel l' a' w) (hc : anyT T l.toList l'.toList i = true := by kernel_rfl) (hQ : ∀ c a w, Q (.panic c) (a.put oi.dst v) w → Q (.panic c) a w := by exact fun _ _ _ h => h)
    (hw : Region.wanted oi (yielded ops a.tmps) = true := by rfl) (hy : ∀ w', (execOp a.eval oi).run P w' = .ok (.value v) w' := by (intro w'; go_simp; with_reducible rfl)) (ha : a.put N v = a' := by (simp only [Act.put, List.setIfInBounds_toArray, List.set_cons_zero, List.set_cons_succ, i64_w, i32_w]; rfl)) : wpAnyLast P md ops Q S ds (fuel + 1) l a w :=
  pure_ l' hi hN (any_of hT.out hc) hQ (Or.inl ⟨hw, hy⟩) ha h
theorem pn_ (l' : Array Bool) (hi : ops[i]? = some oi) (hN : oi.dst = N) (hT : Aside0 (rtab md ops = T)) (h : wpAnyLast P md ops Q S ds fuel l' a' w) (hc : anyT T l.toList l'.toList i = true := by kernel_rfl) (hQ : ∀ c a w, Q (.panic c) (a.put oi.dst undef) w → Q (.panic c) a w := by exact fun _ _ _ h => h)
    (hw : Region.wanted oi (yielded ops a.tmps) = false := by rfl) (ha : a.put N undef = a' := by (simp only [Act.put, List.setIfInBounds_toArray, List.set_cons_zero, List.set_cons_succ, i64_w, i32_w]; rfl)) : wpAnyLast P md ops Q S ds (fuel + 1) l a w :=
  pure_ l' hi hN (any_of hT.out hc) hQ (Or.inr ⟨hw, rfl⟩) ha h
theorem no_ (h : wpAnyLast P md ops Q S ds fuel l a' w) (ha : a.put N v = a' := by (simp only [Act.put, List.setIfInBounds_toArray, List.set_cons_zero, List.set_cons_succ, i64_w, i32_w]; rfl)) : wpAnyLast P md ops Q S ds fuel l (a.put N v) w := norm_ ha h
end
theorem C_blk {k : IntKind} {w : World} {g : Nat} {l : List Int} {t : TypeId} {fr : Nat × Nat} (hn : l.length ≤ 9223372036854775807) (h : w.heap[g]? = some (.cells (l.map (Value.int k)).toArray t fr)) :
    (Kd.int k).C w (some ⟨g, 0, none⟩) l.length l := by
  refine ⟨rfl, hn, fun _ => ⟨_, rfl, fun j p hj => ⟨[.int k p], rfl, rfl, fun i u hu => ?_⟩⟩⟩
  have hi : i = 0 := by
    have := (List.getElem?_eq_some_iff.1 hu).1
    simp at this; exact this
  subst hi
  have hu' : Value.int k p = u := by simpa using hu
  subst hu'
  have e : (⟨g, 0, none⟩ : Addr).add (j * 1 + 0) = ⟨g, j, none⟩ := by rw [Nat.mul_one, Nat.add_zero]; unfold Addr.add; split <;> simp_all
  show w.cell? ((⟨g, 0, none⟩ : Addr).add (j * 1 + 0)) = _
  rw [e, cell_of_row _ _ _ _ _ _ h]
  simp [hj]
/-- slices that lie in a block of their own -/
theorem C_blkS {α : Type} {e : Nat} {d : Kd α} {w : World} {g : Nat} {t : TypeId} {fr : Nat × Nat} {ls : List (List α)} {cs : List Value} (hn : ls.length ≤ 9223372036854775807) (h : w.heap[g]? = some (.cells cs.toArray t fr))
    (hc : ∀ (j : Nat) (p : List α), ls[j]? = some p → ∃ (A : Option Addr) (c : Nat), cs[j]? = some (Value.slice A p.length c) ∧ p.length ≤ c ∧ d.C w A p.length p) : (Kd.slice e d).C w (some ⟨g, 0, none⟩) ls.length ls := by
  refine ⟨rfl, hn, fun _ => ⟨_, rfl, fun j p hj => ?_⟩⟩
  obtain ⟨A, c, h1, h2, h3⟩ := hc j p hj
  refine ⟨[.slice A p.length c], rfl, ⟨A, c, rfl, h2, h3⟩, fun i u hu => ?_⟩
  have hi : i = 0 := by
    have := (List.getElem?_eq_some_iff.1 hu).1
    simp at this; exact this
  subst hi
  have hu' : Value.slice A p.length c = u := by simpa using hu
  subst hu'
  have e : (⟨g, 0, none⟩ : Addr).add (j * 1 + 0) = ⟨g, j, none⟩ := by rw [Nat.mul_one, Nat.add_zero]; unfold Addr.add; split <;> simp_all
  show w.cell? ((⟨g, 0, none⟩ : Addr).add (j * 1 + 0)) = _
  rw [e, cell_of_row _ _ _ _ _ _ h]
  simp [h1]
/-- a literal of one slice -/
theorem one_at {α : Type} {d : Kd α} {w : World} {A : Option Addr} {c : Nat} {l : List α} (h1 : l.length ≤ c) (h2 : d.C w A l.length l) (j : Nat) (p : List α) (hj : [l][j]? = some p) : ∃ (A' : Option Addr) (c' : Nat), [Value.slice A l.length c][j]? = some (Value.slice A' p.length c') ∧ p.length ≤ c' ∧ d.C w A' p.length p := by
  have h0 : j = 0 := by
    have := (List.getElem?_eq_some_iff.1 hj).1
    simp at this; exact this
  subst h0
  obtain rfl : l = p := by simpa using hj
  exact ⟨A, c, rfl, h1, h2⟩
theorem top_alloc (w : World) (o : Obj) (n : Nat) (h : n = w.heap.size) : (w.alloc o).heap[n]? = some o := by subst h; exact heap_alloc_last w o
theorem old_alloc (w : World) (o : Obj) (n : Nat) {x : Option Obj} (h : n < w.heap.size) (hx : w.heap[n]? = x) : (w.alloc o).heap[n]? = x := by
  rw [← hx]
  show (w.heap.push o)[n]? = w.heap[n]?
  rw [Array.getElem?_push, if_neg (by omega)]

/-- what came in, told as what may be shared -/
theorem C_F {k : IntKind} {W : World} {A : Option Addr} {n : Nat} {xs : List Int} (h : (Kd.int k).C W A n xs) : Kd.F (Kd.int k) W (fun _ => True) A n xs := by
  intro W' hW
  obtain ⟨h1, h2, h3⟩ := h
  refine ⟨h1, h2, fun hn => ?_⟩
  obtain ⟨ad, e, hc⟩ := h3 hn
  refine ⟨ad, e, fun j p hj => ?_⟩
  obtain ⟨c, hs, hK, hcell⟩ := hc j p hj
  refine ⟨c, hs, hK, fun i u hu => ?_⟩
  have h4 := hcell i u hu
  have hlt := World.block_lt_of_cell? _ _ h4
  unfold World.cell? at h4 ⊢
  rw [hW _ trivial hlt]
  exact h4
/-- a struct of nine cells goes into its block: told by itself (the walk's own way sends the kernel out) -/
theorem st9_ {P : Program} {ops : Array Oper} {rest : List Oper} {o : Oper} {a : Act} {Q : Exit → Act → World → Prop} {W : World} {T : TypeId} {p v : Operand} {g t : Nat} {v0 v1 v2 v3 v4 v5 v6 v7 v8 u0 u1 u2 u3 u4 u5 u6 u7 u8 : Value} (hgd : o.guard = none) (hd : o.dst = none) (hop : o.op = .store T p v) (hp : a.eval p = .pointer (some ⟨g, 0, none⟩)) (hv : a.eval v = .agg #[v0, v1, v2, v3, v4, v5, v6, v7, v8])
    (hb : Aside0 (W.heap[g]? = some (.cells #[u0, u1, u2, u3, u4, u5, u6, u7, u8] t (0, 0)))) (hi : (P.info? T).map (·.size) = some 9) (h1 : Array.all #[v0, v1, v2, v3, v4, v5, v6, v7, v8] (·.oneCell') = true) (h : (((((((((W.setCell ⟨g, 0, none⟩ v0).setCell ⟨g, 1, none⟩ v1).setCell ⟨g, 2, none⟩ v2).setCell ⟨g, 3, none⟩ v3).setCell ⟨g, 4, none⟩ v4).setCell ⟨g, 5, none⟩ v5).setCell ⟨g, 6, none⟩ v6).setCell ⟨g, 7, none⟩ v7).setCell ⟨g, 8, none⟩ v8).heap[g]? = some (.cells #[v0, v1, v2, v3, v4, v5, v6, v7, v8] t (0, 0)) → wpList P ops Q rest a (((((((((W.setCell ⟨g, 0, none⟩ v0).setCell ⟨g, 1, none⟩ v1).setCell ⟨g, 2, none⟩ v2).setCell ⟨g, 3, none⟩ v3).setCell ⟨g, 4, none⟩ v4).setCell ⟨g, 5, none⟩ v5).setCell ⟨g, 6, none⟩ v6).setCell ⟨g, 7, none⟩ v7).setCell ⟨g, 8, none⟩ v8)) : wpList P ops Q (o :: rest) a W := by
  refine wpList_plain hgd fun K hK => ?_
  have hth : W.there g 0 9 := fun j hj => ⟨by
    have := blk_cell hb.out (0 + j)
    rw [this]
    simp only [Nat.zero_add]
    rw [Array.getElem?_eq_getElem (show j < 9 from hj)]
    rfl, blk_frozen hb.out _⟩
  have hr := run_storeAt_mid (P := P) W g 0 T #[v0, v1, v2, v3, v4, v5, v6, v7, v8] hth hi h1
  unfold Oper.wp execOp
  simp only [hop, hp, hv, Sem.run_bind, hr, Result.andThen_ok]
  have h2 := hK (a.put o.dst undef) _ (by rw [hd]; exact h (blk_put (cs := #[v0, v1, v2, v3, v4, v5, v6, v7, u8]) (blk_put (cs := #[v0, v1, v2, v3, v4, v5, v6, u7, u8]) (blk_put (cs := #[v0, v1, v2, v3, v4, v5, u6, u7, u8]) (blk_put (cs := #[v0, v1, v2, v3, v4, u5, u6, u7, u8]) (blk_put (cs := #[v0, v1, v2, v3, u4, u5, u6, u7, u8]) (blk_put (cs := #[v0, v1, v2, u3, u4, u5, u6, u7, u8]) (blk_put (cs := #[v0, v1, u2, u3, u4, u5, u6, u7, u8]) (blk_put (cs := #[v0, u1, u2, u3, u4, u5, u6, u7, u8]) (blk_put (cs := #[u0, u1, u2, u3, u4, u5, u6, u7, u8]) hb.out 0 v0 rfl) 1 v1 rfl) 2 v2 rfl) 3 v3 rfl) 4 v4 rfl) 5 v5 rfl) 6 v6 rfl) 7 v7 rfl) 8 v8 rfl))
  exact h2
/-- a whole number goes into a field of a struct whose block is told -/
theorem st1_ {P : Program} {ops : Array Oper} {rest : List Oper} {o : Oper} {a : Act} {Q : Exit → Act → World → Prop} {W : World} {T : TypeId} {p v : Operand} {g i t : Nat} {k : IntKind} {n : Int} {cs : Array Value} (hgd : o.guard = none) (hd : o.dst = none) (hop : o.op = .store T p v) (hp : a.eval p = .pointer (some ⟨g, i, none⟩)) (hv : a.eval v = .int k n)
    (hb : Aside0 (W.heap[g]? = some (.cells cs t (0, 0)))) (hi : i < cs.size) (hT : (P.info? T).map (·.size) = some 1) (h : wpList P ops Q rest a (W.setCell ⟨g, i, none⟩ (.int k n))) : wpList P ops Q (o :: rest) a W := by
  refine wpList_plain hgd fun K hK => ?_
  have hc : (W.cell? ⟨g, i, none⟩).isSome = true := by
    rw [blk_cell hb.out i, Array.getElem?_eq_getElem hi]
    rfl
  have hf : W.frozen? ⟨g, i, none⟩ = false := blk_frozen hb.out i
  have hs := run_storeCells_cells (P := P) g i [.int k n] 0 W (fun j hj => by
    have : j = 0 := by simpa using hj
    subst this; exact hc) (fun j hj => by
    have : j = 0 := by simpa using hj
    subst this; exact hf) (fun v hv => by
    have : v = .int k n := by simpa using hv
    subst this; rfl)
  have hr : (Instr.storeAt T (.pointer (some ⟨g, i, none⟩)) (.int k n)).run P W = .ok () (W.setCell ⟨g, i, none⟩ (.int k n)) := by
    cases hq : P.info? T with
    | none => simp [hq] at hT
    | some z =>
      have hz : z.size = 1 := by simpa [hq] using hT
      have hs' : (storeCells ⟨g, i, none⟩ [.int k n]).run P W = .ok () (W.setCell ⟨g, i, none⟩ (.int k n)) := hs
      simp [Instr.storeAt, Instr.sureAddr, storeVar, sizeOf, typeInfo, hq, Value.cells, hz, hs', Result.andThen]
  unfold Oper.wp execOp
  simp only [hop, hp, hv, Sem.run_bind, hr, Result.andThen_ok]
  have h2 := hK (a.put o.dst undef) _ (by rw [hd]; exact h)
  exact h2
theorem gate_store_ {P : Program} {ops : Array Oper} {rest : List Oper} {o : Oper} {a : Act} {Q : Exit → Act → World → Prop} {W : World} {T : TypeId} {p v : Operand} (_hop : o.op = .store T p v) (h : wpList P ops Q (o :: rest) a W) : wpList P ops Q (o :: rest) a W := h
theorem setCells_far {g k : Nat} (hne : k ≠ g) : ∀ (vs : List Value) (o : Nat) (w : World), (w.setCells g o vs).heap[k]? = w.heap[k]?
  | [], _, _ => rfl
  | v :: r, o, w => (setCells_far hne r (o + 1) (w.setCell ⟨g, o, none⟩ v)).trans (Below.heap_setCell _ _ _ _ hne)
theorem setCells_below {g : Nat} {w0 : World} (hg : w0.heap.size ≤ g) : ∀ (vs : List Value) (o : Nat) (w : World), Below w0.heap.size w0 w → Below w0.heap.size w0 (w.setCells g o vs)
  | [], _, _, h => h
  | v :: r, o, w, h => setCells_below hg r (o + 1) _ (below_set h hg)
/-- a whole struct or array goes into its block: the world behind is told by what holds of it alone -/
theorem stA_ {P : Program} {ops : Array Oper} {rest : List Oper} {o : Oper} {a : Act} {Q : Exit → Act → World → Prop} {W : World} {T : TypeId} {p v : Operand} {g t : Nat} {cs cur : Array Value} (hgd : o.guard = none) (hd : o.dst = none) (hop : o.op = .store T p v) (hp : a.eval p = .pointer (some ⟨g, 0, none⟩)) (hv : a.eval v = .agg cs)
    (hb : W.heap[g]? = some (.cells cur t (0, 0))) (hn : cur.size = cs.size) (hi : (P.info? T).map (·.size) = some cs.size) (h1 : cs.all (·.oneCell') = true)
    (h : ∀ W' : World, W'.heap[g]? = some (.cells cs t (0, 0)) → (∀ k, k ≠ g → W'.heap[k]? = W.heap[k]?) → W'.heap.size = W.heap.size → (∀ w0 : World, w0.heap.size ≤ g → Below w0.heap.size w0 W → Below w0.heap.size w0 W') → wpList P ops Q rest a W') : wpList P ops Q (o :: rest) a W := by
  refine wpList_plain hgd fun K hK => ?_
  have hth : W.there g 0 cs.size := fun j hj => ⟨by
    rw [Nat.zero_add, blk_cell hb j, Array.getElem?_eq_getElem (by omega)]
    rfl, blk_frozen hb _⟩
  have hr := run_storeAt_mid (P := P) W g 0 T cs hth hi h1
  obtain ⟨cur', e1, e2, e3⟩ := setCells_row cs.toList 0 W cur hb (by simp; omega)
  have hc : cur' = cs := by
    apply Array.toList_inj.1
    rw [e3]
    simp [hn]
  subst hc
  unfold Oper.wp execOp
  simp only [hop, hp, hv, Sem.run_bind, hr, Result.andThen_ok]
  have h2 := hK (a.put o.dst undef) _ (by rw [hd]; exact h _ e1 (fun k hk => setCells_far hk _ _ _) (setCells_same g _ 0 W).2.2.2 (fun w0 hg hB => setCells_below hg _ _ _ hB))
  exact h2
/-- a slice literal of one struct of nine cells -/
theorem bld9_ {P : Program} {ev : Operand → Value} {o : Oper} {W : World} {t e : TypeId} {x : Operand} {v0 v1 v2 v3 v4 v5 v6 v7 v8 : Value} (z0 z1 z2 z3 z4 z5 z6 z7 z8 : Value) (ho : o.op = .buildSlice t 1 #[(0, x)]) (hx : ev x = .agg #[v0, v1, v2, v3, v4, v5, v6, v7, v8]) (hu : P.underlying t = some (.slice e) := by kernel_rfl) (hi : (P.info? e).map (fun i => (i.zero, i.size)) = some (some (.agg #[z0, z1, z2, z3, z4, z5, z6, z7, z8]), 9) := by kernel_rfl) :
    (execOp ev o).run P W = .ok (.value (.slice (some ⟨W.heap.size, 0, none⟩) 1 1)) (W.alloc (.cells #[v0, v1, v2, v3, v4, v5, v6, v7, v8] e)) :=
  bld_ 9 (.agg #[z0, z1, z2, z3, z4, z5, z6, z7, z8]) ho rfl (by simp only [l_4, l_5, l_6, List.map_toArray, List.map_cons, List.map_nil, hx]; kernel_rfl) hu hi rfl rfl
theorem bld92_ {P : Program} {ev : Operand → Value} {o : Oper} {W : World} {t e : TypeId} {x y : Operand} {v0 v1 v2 v3 v4 v5 v6 v7 v8 u0 u1 u2 u3 u4 u5 u6 u7 u8 : Value} (z0 z1 z2 z3 z4 z5 z6 z7 z8 : Value) (ho : o.op = .buildSlice t 2 #[(0, x), (1, y)]) (hx : ev x = .agg #[v0, v1, v2, v3, v4, v5, v6, v7, v8]) (hy : ev y = .agg #[u0, u1, u2, u3, u4, u5, u6, u7, u8]) (hu : P.underlying t = some (.slice e) := by kernel_rfl) (hi : (P.info? e).map (fun i => (i.zero, i.size)) = some (some (.agg #[z0, z1, z2, z3, z4, z5, z6, z7, z8]), 9) := by kernel_rfl) :
    (execOp ev o).run P W = .ok (.value (.slice (some ⟨W.heap.size, 0, none⟩) 2 2)) (W.alloc (.cells #[v0, v1, v2, v3, v4, v5, v6, v7, v8, u0, u1, u2, u3, u4, u5, u6, u7, u8] e)) :=
  bld_ 9 (.agg #[z0, z1, z2, z3, z4, z5, z6, z7, z8]) ho rfl (by simp only [l_4, l_5, l_6, List.map_toArray, List.map_cons, List.map_nil, hx, hy]; kernel_rfl) hu hi rfl rfl
theorem mid_args {l : List Int} {A : Option Addr} {c : Nat} {x y : Int} (h : x ≤ (l.length : Int)) : (#[Value.slice A (x.toNat - y.toNat) c] : Array Value) = #[.slice A ((l.take x.toNat).drop y.toNat).length c] := by
  rw [List.length_drop, List.length_take, Nat.min_eq_left (by omega)]
theorem info5 : (Try.prog.info? 5).map (fun i => (i.zero, i.size, i.bytes)) = some (some (.int .u8 0), 1, 1) := by kernel_rfl
-- the values' own types

end Go.Proofs.Ytpaamdppobcmnaa.QNetActs
