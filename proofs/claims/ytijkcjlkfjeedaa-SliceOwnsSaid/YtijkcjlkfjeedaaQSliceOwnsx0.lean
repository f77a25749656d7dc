-- Written by a program of this session (a turned copy of the print) out of the translation. Lean checks it.
import Derived.Test.YtijkcjlkfjeedaaProg
import Derived.Below
import Derived.Deep.Draws
import Derived.Deep.AppendLies
import Derived.Maps.AppendAt
import Derived.Maps.OwnSet
import Derived.DeepKeys4
import Derived.WideKeyEntry
import Derived.OwnWalk
import Derived.Laws.BytesArg
import Derived.Laws.MakeOwn
import Derived.Laws.OwnMore
import Derived.Deep.OwnRows
import Derived.Tactics
import Derived.Lib.ConvBytes
import Derived.Laws.Slices
import Derived.WalkKit
import Derived.KernelRfl
import Derived.RowKit3
import Derived.Deep.LoopGhost
import Derived.Deep.QuietTactic
import Derived.BigQuiet
import Derived.WideLaws
import Derived.Deep.DeepCutAuto
import Derived.Deep.CutBlock
import Derived.Deep.RegionHeld3
import Derived.Laws.Rows
import Derived.Lib.AppendStr
import Derived.ArgAppend
import Derived.Laws.IdiomCopy
import Derived.OrdersHeld
import Derived.Laws.BitsLemmas
import Derived.RowKit
import Derived.ChangeKeysEq
import Derived.Lib.SliceRun
import Derived.Great.BuildSlice
import Derived.Deep.WholeRow
import Derived.Lib.SlBytesConst
import Derived.Lib.SmallJoins
import Derived.Test.YtijkcjlkfjeedaaWWords
import Derived.Test.YtijkcjlkfjeedaaWLast
import Derived.Test.YtijkcjlkfjeedaaWTab
import Derived.Test.YtijkcjlkfjeedaaWFour
import Derived.Test.YtijkcjlkfjeedaaWQPut
import Derived.Test.YtijkcjlkfjeedaaWApart
import Derived.Test.YtijkcjlkfjeedaaWArr
import Derived.Test.YtijkcjlkfjeedaaWZeros
import Derived.Test.YtijkcjlkfjeedaaWFoot
import Derived.Test.YtijkcjlkfjeedaaWKept
import Derived.Test.YtijkcjlkfjeedaaWShare
import Derived.Test.YtijkcjlkfjeedaaWN
import Derived.Test.YtijkcjlkfjeedaaWFootNe
import Derived.Test.YtijkcjlkfjeedaaWAt
import Derived.Test.YtijkcjlkfjeedaaWEqStruct
import Derived.Test.YtijkcjlkfjeedaaWRepsOne
import Derived.Test.YtijkcjlkfjeedaaWInv
import Derived.Test.YtijkcjlkfjeedaaWInvWords
import Derived.Test.YtijkcjlkfjeedaaWGuard
import Derived.Test.YtijkcjlkfjeedaaWNEv
import Derived.Test.YtijkcjlkfjeedaaWMore
namespace Go.Proofs.Ytijkcjlkfjeedaa.QSliceOwns
open Go.RowKit Go.Proofs.YtijkcjlkfjeedaaW.PrintWords Go.Proofs.YtijkcjlkfjeedaaW.PrintLast Go.Proofs.YtijkcjlkfjeedaaW.PrintMore
attribute [local go_sem] max2_int min2_int max_two min_two max_three min_three max_four min_four   -- for this text's walks alone
open Go.Proofs.YtijkcjlkfjeedaaW.PrintWords renaming below_alloc → b_a, pw_below_drewN → b_n, below_drew1 → b_d, below_set → b_s, blk_drewN → k_n, blk_drew → k_d, blk_alloc → k_a
open List renaming setIfInBounds_toArray → l_1, set_cons_zero → l_2, set_cons_succ → l_3, map_toArray → l_4, map_cons → l_5, map_nil → l_6, length_drop → l_7, length_take → l_8
set_option linter.unusedVariables false
set_option linter.unusedSimpArgs false



def errW : Option Int → Value
 | none => .nilIface
 | some c => .iface 0 (.int .i64 c)
theorem errW_none : errW none = .nilIface := rfl
theorem errW_some (c : Int) : errW (some c) = .iface 0 (.int .i64 c) := rfl

section
variable {P : Program} {d c : Nat} {xs ys : Array Value} {e : TypeId} {i : Nat} {is : List Nat} {a b : Value} {r s : Bool} {w : World}
theorem eqi_cons (ha : (part e xs (i * c)).run P w = .ok a w) (hb : (part e ys (i * c)).run P w = .ok b w) (he : (Op.equalIn d e a b).run P w = .ok r w) (hr : (Op.eqItems d e c xs ys is).run P w = .ok s w) : (Op.eqItems d e c xs ys (i :: is)).run P w = .ok (r && s) w := by
 simp only [Op.eqItems, Sem.run_bind, ha, hb, he, Result.andThen_ok]
 cases r
 ·
  simp
 ·
  simpa using hr
theorem eqi_last (ha : (part e xs (i * c)).run P w = .ok a w) (hb : (part e ys (i * c)).run P w = .ok b w) (he : (Op.equalIn d e a b).run P w = .ok r w) : (Op.eqItems d e c xs ys [i]).run P w = .ok r w := by
 have h := eqi_cons (is := []) (s := true) ha hb he (by simp [Op.eqItems])
 rwa [Bool.and_true] at h
theorem eqi_of {t : TypeId} {n : Nat} (hu : P.underlying t = some (.array n e)) (hi : (P.info? e).isSome = true) (hC : P.cellsOf e = c) (h : (Op.eqItems d e c xs ys (List.range n)).run P w = .ok r w) : (Op.equalIn (d + 1) t (.agg xs) (.agg ys)).run P w = .ok r w := by
 obtain ⟨i, hi⟩ := Option.isSome_iff_exists.1 hi
 rw [run_equalIn_array w d xs ys hu hi, hC]
 exact h
end

/-! what stands in the walks over and over -/
def bs_ (n k : Nat) : Array Bool := ((List.range n).map k.testBit).toArray
theorem bw_ {A B : Prop} (h : Aside0 A) (f : A → B := by (intro h_; repeat (first | (with_reducible first | exact h_ | apply below_alloc | apply pw_below_drewN | apply below_drew1 | refine below_set ?_ (Aside0.out (by assumption))) | exact h_))) : B := f h.out
theorem tV_ {A B : Prop} (h : Aside0 A) (f : A → B := by (intro h_; (with_reducible repeat (first | apply Kd.V_alloc | apply Kd.V_drewN | apply Kd.V_drew)); exact h_)) : B := f h.out
theorem tN_ {A B : Prop} (h : Aside0 A) (f : A → B := by (intro h_; (with_reducible repeat (first | apply Kd.N_alloc | apply Kd.N_drewN | apply Kd.N_drew)); exact h_)) : B := f h.out
theorem tR_ {A B : Prop} (h : Aside0 A) (f : A → B := by (intro h_; (with_reducible repeat (first | apply Kd.R_alloc | apply Kd.R_drewN | apply Kd.R_drew)); exact h_)) : B := f h.out
theorem tS_ {A B : Prop} (h : Aside0 A) (f : A → B := by (intro h_; (with_reducible repeat (first | apply Kd.S_alloc | apply Kd.S_drewN | apply Kd.S_drew)); exact h_)) : B := f h.out
theorem tk_ {A B : Prop} (h : Aside0 A) (f : A → B := by (intro h_; (with_reducible repeat (first | refine blk_drewN ?_ _ | refine blk_drew ?_ | refine blk_alloc ?_ _)); exact h_)) : B := f h.out
theorem bc_0 {W : World} {g t : Nat} {v0 : Value} {l : List Value} (h : Aside0 (W.heap[g]? = some (.cells (v0 :: l).toArray t (0, 0)))) : W.cell? ⟨g, 0, none⟩ = some v0 := (blk_cell h.out 0).trans rfl
theorem bc_1 {W : World} {g t : Nat} {v0 v1 : Value} {l : List Value} (h : Aside0 (W.heap[g]? = some (.cells (v0 :: v1 :: l).toArray t (0, 0)))) : W.cell? ⟨g, 1, none⟩ = some v1 := (blk_cell h.out 1).trans rfl
theorem bc_2 {W : World} {g t : Nat} {v0 v1 v2 : Value} {l : List Value} (h : Aside0 (W.heap[g]? = some (.cells (v0 :: v1 :: v2 :: l).toArray t (0, 0)))) : W.cell? ⟨g, 2, none⟩ = some v2 := (blk_cell h.out 2).trans rfl
theorem bc_3 {W : World} {g t : Nat} {v0 v1 v2 v3 : Value} {l : List Value} (h : Aside0 (W.heap[g]? = some (.cells (v0 :: v1 :: v2 :: v3 :: l).toArray t (0, 0)))) : W.cell? ⟨g, 3, none⟩ = some v3 := (blk_cell h.out 3).trans rfl
theorem bc_4 {W : World} {g t : Nat} {v0 v1 v2 v3 v4 : Value} {l : List Value} (h : Aside0 (W.heap[g]? = some (.cells (v0 :: v1 :: v2 :: v3 :: v4 :: l).toArray t (0, 0)))) : W.cell? ⟨g, 4, none⟩ = some v4 := (blk_cell h.out 4).trans rfl
theorem bc_5 {W : World} {g t : Nat} {v0 v1 v2 v3 v4 v5 : Value} {l : List Value} (h : Aside0 (W.heap[g]? = some (.cells (v0 :: v1 :: v2 :: v3 :: v4 :: v5 :: l).toArray t (0, 0)))) : W.cell? ⟨g, 5, none⟩ = some v5 := (blk_cell h.out 5).trans rfl
theorem bc_6 {W : World} {g t : Nat} {v0 v1 v2 v3 v4 v5 v6 : Value} {l : List Value} (h : Aside0 (W.heap[g]? = some (.cells (v0 :: v1 :: v2 :: v3 :: v4 :: v5 :: v6 :: l).toArray t (0, 0)))) : W.cell? ⟨g, 6, none⟩ = some v6 := (blk_cell h.out 6).trans rfl
theorem bc_7 {W : World} {g t : Nat} {v0 v1 v2 v3 v4 v5 v6 v7 : Value} {l : List Value} (h : Aside0 (W.heap[g]? = some (.cells (v0 :: v1 :: v2 :: v3 :: v4 :: v5 :: v6 :: v7 :: l).toArray t (0, 0)))) : W.cell? ⟨g, 7, none⟩ = some v7 := (blk_cell h.out 7).trans rfl
theorem cb_ {w W : World} {a : Addr} {v : Value} (hb : Aside0 (Below w.heap.size w W)) (h : w.cell? a = some v) : W.cell? a = some v := (hb.out.cell (World.block_lt_of_cell? w _ h)).trans h
/-- a slice literal's run: the kernel is not to reckon the operands through the whole act -/
theorem bld_ {P : Program} {ev : Operand → Value} {o : Oper} {W : World} {t e : TypeId} {len n : Nat} {parts : Array (Nat × Operand)} {cells : Array Value} (sz : Nat) (z : Value) (ho : o.op = .buildSlice t len parts) (hn : len = n)
    (hf : Instr.fill (fun i => some (i * sz, sz)) ((Array.range (len * sz)).map (z.cells[· % z.cells.size]!)) (parts.map fun (i, x) => (i, ev x)).toList = some cells)
    (hu : P.underlying t = some (.slice e) := by kernel_rfl) (hi : (P.info? e).map (fun i => (i.zero, i.size)) = some (some z, sz) := by kernel_rfl) (hs : decide (len * sz > 2 ^ 24) = false := by rfl) (hp : decide (len * sz = 0) = false := by rfl) :
    (execOp ev o).run P W = .ok (.value (.slice (some ⟨W.heap.size, 0, none⟩) n n)) (W.alloc (.cells cells e)) := by
  cases hie : P.info? e with
  | none => rw [hie] at hi; cases hi
  | some ie =>
    rw [hie, Option.map_some] at hi
    injection hi with hi
    injection hi with h1 h2
    subst hn h2
    have h := run_buildSlice W t e len (parts.map fun (i, x) => (i, ev x)) cells ie z hu hie h1 (of_decide_eq_false hs) (of_decide_eq_false hp) hf
    unfold execOp
    simp only [ho, Sem.run_bind, h, Result.andThen_ok]
    rfl
section
variable {P : Program} {ops : Array Oper} {Q : Exit → Act → World → Prop} {S : World → Prop} {md : Region.Mode} {ds : List Nat} {T : Bool × List (List Nat × List Nat)} {i : Nat} {N : Option Tmp} {oi : Oper} {v : Value} {fuel : Nat} {l : Array Bool} {a a' : Act} {w : World}
theorem pu_ (l' : Array Bool) (hi : ops[i]? = some oi) (hN : oi.dst = N) (hT : Aside0 (rtab md ops = T)) (h : wpAnyLast P md ops Q S ds fuel l' a' w) (hc : anyT T l.toList l'.toList i = true := by kernel_rfl) (hQ : ∀ c a w, Q (.panic c) (a.put oi.dst v) w → Q (.panic c) a w := by exact fun _ _ _ h => h)
    (hw : Region.wanted oi (yielded ops a.tmps) = true := by rfl) (hy : ∀ w', (execOp a.eval oi).run P w' = .ok (.value v) w' := by (intro w'; go_simp; with_reducible rfl)) (ha : a.put N v = a' := by (simp only [Act.put, List.setIfInBounds_toArray, List.set_cons_zero, List.set_cons_succ, i64_w, i32_w]; rfl)) : wpAnyLast P md ops Q S ds (fuel + 1) l a w :=
  pure_ l' hi hN (any_of hT.out hc) hQ (Or.inl ⟨hw, hy⟩) ha h
theorem pn_ (l' : Array Bool) (hi : ops[i]? = some oi) (hN : oi.dst = N) (hT : Aside0 (rtab md ops = T)) (h : wpAnyLast P md ops Q S ds fuel l' a' w) (hc : anyT T l.toList l'.toList i = true := by kernel_rfl) (hQ : ∀ c a w, Q (.panic c) (a.put oi.dst undef) w → Q (.panic c) a w := by exact fun _ _ _ h => h)
    (hw : Region.wanted oi (yielded ops a.tmps) = false := by rfl) (ha : a.put N undef = a' := by (simp only [Act.put, List.setIfInBounds_toArray, List.set_cons_zero, List.set_cons_succ, i64_w, i32_w]; rfl)) : wpAnyLast P md ops Q S ds (fuel + 1) l a w :=
  pure_ l' hi hN (any_of hT.out hc) hQ (Or.inr ⟨hw, rfl⟩) ha h
theorem no_ (h : wpAnyLast P md ops Q S ds fuel l a' w) (ha : a.put N v = a' := by (simp only [Act.put, List.setIfInBounds_toArray, List.set_cons_zero, List.set_cons_succ, i64_w, i32_w]; rfl)) : wpAnyLast P md ops Q S ds fuel l (a.put N v) w := norm_ ha h
end
theorem C_blk {k : IntKind} {w : World} {g : Nat} {l : List Int} {t : TypeId} {fr : Nat × Nat} (hn : l.length ≤ 9223372036854775807) (h : w.heap[g]? = some (.cells (l.map (Value.int k)).toArray t fr)) :
    (Kd.int k).C w (some ⟨g, 0, none⟩) l.length l := by
  refine ⟨rfl, hn, fun _ => ⟨_, rfl, fun j p hj => ⟨[.int k p], rfl, rfl, fun i u hu => ?_⟩⟩⟩
  have hi : i = 0 := by
    have := (List.getElem?_eq_some_iff.1 hu).1
    simp at this; exact this
  subst hi
  have hu' : Value.int k p = u := by simpa using hu
  subst hu'
  have e : (⟨g, 0, none⟩ : Addr).add (j * 1 + 0) = ⟨g, j, none⟩ := by rw [Nat.mul_one, Nat.add_zero]; unfold Addr.add; split <;> simp_all
  show w.cell? ((⟨g, 0, none⟩ : Addr).add (j * 1 + 0)) = _
  rw [e, cell_of_row _ _ _ _ _ _ h]
  simp [hj]
/-- slices that lie in a block of their own -/
theorem C_blkS {α : Type} {e : Nat} {d : Kd α} {w : World} {g : Nat} {t : TypeId} {fr : Nat × Nat} {ls : List (List α)} {cs : List Value} (hn : ls.length ≤ 9223372036854775807) (h : w.heap[g]? = some (.cells cs.toArray t fr))
    (hc : ∀ (j : Nat) (p : List α), ls[j]? = some p → ∃ (A : Option Addr) (c : Nat), cs[j]? = some (Value.slice A p.length c) ∧ p.length ≤ c ∧ d.C w A p.length p) : (Kd.slice e d).C w (some ⟨g, 0, none⟩) ls.length ls := by
  refine ⟨rfl, hn, fun _ => ⟨_, rfl, fun j p hj => ?_⟩⟩
  obtain ⟨A, c, h1, h2, h3⟩ := hc j p hj
  refine ⟨[.slice A p.length c], rfl, ⟨A, c, rfl, h2, h3⟩, fun i u hu => ?_⟩
  have hi : i = 0 := by
    have := (List.getElem?_eq_some_iff.1 hu).1
    simp at this; exact this
  subst hi
  have hu' : Value.slice A p.length c = u := by simpa using hu
  subst hu'
  have e : (⟨g, 0, none⟩ : Addr).add (j * 1 + 0) = ⟨g, j, none⟩ := by rw [Nat.mul_one, Nat.add_zero]; unfold Addr.add; split <;> simp_all
  show w.cell? ((⟨g, 0, none⟩ : Addr).add (j * 1 + 0)) = _
  rw [e, cell_of_row _ _ _ _ _ _ h]
  simp [h1]
/-- a literal of one slice -/
theorem one_at {α : Type} {d : Kd α} {w : World} {A : Option Addr} {c : Nat} {l : List α} (h1 : l.length ≤ c) (h2 : d.C w A l.length l) (j : Nat) (p : List α) (hj : [l][j]? = some p) : ∃ (A' : Option Addr) (c' : Nat), [Value.slice A l.length c][j]? = some (Value.slice A' p.length c') ∧ p.length ≤ c' ∧ d.C w A' p.length p := by
  have h0 : j = 0 := by
    have := (List.getElem?_eq_some_iff.1 hj).1
    simp at this; exact this
  subst h0
  obtain rfl : l = p := by simpa using hj
  exact ⟨A, c, rfl, h1, h2⟩
theorem top_alloc (w : World) (o : Obj) (n : Nat) (h : n = w.heap.size) : (w.alloc o).heap[n]? = some o := by subst h; exact heap_alloc_last w o
theorem old_alloc (w : World) (o : Obj) (n : Nat) {x : Option Obj} (h : n < w.heap.size) (hx : w.heap[n]? = x) : (w.alloc o).heap[n]? = x := by
  rw [← hx]
  show (w.heap.push o)[n]? = w.heap[n]?
  rw [Array.getElem?_push, if_neg (by omega)]

/-- what came in, told as what may be shared -/
theorem C_F {k : IntKind} {W : World} {A : Option Addr} {n : Nat} {xs : List Int} (h : (Kd.int k).C W A n xs) : Kd.F (Kd.int k) W (fun _ => True) A n xs := by
  intro W' hW
  obtain ⟨h1, h2, h3⟩ := h
  refine ⟨h1, h2, fun hn => ?_⟩
  obtain ⟨ad, e, hc⟩ := h3 hn
  refine ⟨ad, e, fun j p hj => ?_⟩
  obtain ⟨c, hs, hK, hcell⟩ := hc j p hj
  refine ⟨c, hs, hK, fun i u hu => ?_⟩
  have h4 := hcell i u hu
  have hlt := World.block_lt_of_cell? _ _ h4
  unfold World.cell? at h4 ⊢
  rw [hW _ trivial hlt]
  exact h4
theorem info3 : (Try.prog.info? 3).map (fun i => (i.zero, i.size, i.bytes)) = some (some (.int .i64 0), 1, 8) := by kernel_rfl
-- the values' own types

end Go.Proofs.Ytijkcjlkfjeedaa.QSliceOwns
