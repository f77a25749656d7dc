-- Written by a program of this session (a turned copy of the print) out of the translation. Lean checks it.
import Derived.Test.YtboffchjmcdkaaaProg
import Derived.Below
import Derived.Deep.Draws
import Derived.Deep.AppendLies
import Derived.Maps.AppendAt
import Derived.OwnWalk
import Derived.Laws.BytesArg
import Derived.Laws.MakeOwn
import Derived.Laws.OwnMore
import Derived.Deep.OwnRows
import Derived.Tactics
import Derived.Lib.ConvBytes
import Derived.Laws.Slices
import Derived.WalkKit
import Derived.KernelRfl
import Derived.RowKit3
import Derived.Deep.LoopGhost
import Derived.Deep.QuietTactic
import Derived.BigQuiet
import Derived.WideLaws
import Derived.Deep.DeepCutAuto
import Derived.Deep.CutBlock
import Derived.Deep.RegionHeld3
import Derived.Laws.Rows
import Derived.Lib.AppendStr
import Derived.ArgAppend
import Derived.Laws.IdiomCopy
import Derived.OrdersHeld
import Derived.Laws.BitsLemmas
import Derived.RowKit
import Derived.ChangeKeysEq
import Derived.Lib.SliceRun
import Derived.Great.BuildSlice
import Derived.Deep.WholeRow
import Derived.Lib.SlBytesConst
import Derived.Lib.SmallJoins
import Derived.Test.YtboffchjmcdkaaaWWords
import Derived.Test.YtboffchjmcdkaaaWLast
import Derived.Test.YtboffchjmcdkaaaWTab
import Derived.Test.YtboffchjmcdkaaaWFour
import Derived.Test.YtboffchjmcdkaaaWQPut
import Derived.Test.YtboffchjmcdkaaaWApart
import Derived.Test.YtboffchjmcdkaaaWArr
import Derived.Test.YtboffchjmcdkaaaWZeros
import Derived.Test.YtboffchjmcdkaaaWFoot
import Derived.Test.YtboffchjmcdkaaaWKept
import Derived.Test.YtboffchjmcdkaaaWShare
import Derived.Test.YtboffchjmcdkaaaWN
import Derived.Test.YtboffchjmcdkaaaWFootNe
import Derived.Test.YtboffchjmcdkaaaWAt
import Derived.Test.YtboffchjmcdkaaaWEqStruct
import Derived.Test.YtboffchjmcdkaaaWRepsOne
import Derived.Test.YtboffchjmcdkaaaWInv
import Derived.Test.YtboffchjmcdkaaaWInvWords
import Derived.Test.YtboffchjmcdkaaaWGuard
import Derived.Test.YtboffchjmcdkaaaWNEv
import Derived.Test.YtboffchjmcdkaaaWMore
namespace Go.Proofs.Ytboffchjmcdkaaa.QWeightShapes
open Go.RowKit Go.Proofs.YtboffchjmcdkaaaW.PrintWords Go.Proofs.YtboffchjmcdkaaaW.PrintLast Go.Proofs.YtboffchjmcdkaaaW.PrintMore
attribute [local go_sem] max2_int min2_int max_two min_two max_three min_three max_four min_four   -- for this text's walks alone
open Go.Proofs.YtboffchjmcdkaaaW.PrintWords renaming below_alloc → b_a, pw_below_drewN → b_n, below_drew1 → b_d, below_set → b_s, blk_drewN → k_n, blk_drew → k_d, blk_alloc → k_a
open List renaming setIfInBounds_toArray → l_1, set_cons_zero → l_2, set_cons_succ → l_3, map_toArray → l_4, map_cons → l_5, map_nil → l_6, length_drop → l_7, length_take → l_8
set_option linter.unusedVariables false
set_option linter.unusedSimpArgs false



def errW : Option Int → Value
 | none => .nilIface
 | some c => .iface 0 (.int .i64 c)
theorem errW_none : errW none = .nilIface := rfl
theorem errW_some (c : Int) : errW (some c) = .iface 0 (.int .i64 c) := rfl

theorem C_blk {k : IntKind} {w : World} {g : Nat} {l : List Int} {t : TypeId} {fr : Nat × Nat} (hn : l.length ≤ 9223372036854775807) (h : w.heap[g]? = some (.cells (l.map (Value.int k)).toArray t fr)) :
    (Kd.int k).C w (some ⟨g, 0, none⟩) l.length l := by
  refine ⟨rfl, hn, fun _ => ⟨_, rfl, fun j p hj => ⟨[.int k p], rfl, rfl, fun i u hu => ?_⟩⟩⟩
  have hi : i = 0 := by
    have := (List.getElem?_eq_some_iff.1 hu).1
    simp at this; exact this
  subst hi
  have hu' : Value.int k p = u := by simpa using hu
  subst hu'
  have e : (⟨g, 0, none⟩ : Addr).add (j * 1 + 0) = ⟨g, j, none⟩ := by rw [Nat.mul_one, Nat.add_zero]; unfold Addr.add; split <;> simp_all
  show w.cell? ((⟨g, 0, none⟩ : Addr).add (j * 1 + 0)) = _
  rw [e, cell_of_row _ _ _ _ _ _ h]
  simp [hj]
/-- slices that lie in a block of their own -/
theorem C_blkS {α : Type} {e : Nat} {d : Kd α} {w : World} {g : Nat} {t : TypeId} {fr : Nat × Nat} {ls : List (List α)} {cs : List Value} (hn : ls.length ≤ 9223372036854775807) (h : w.heap[g]? = some (.cells cs.toArray t fr))
    (hc : ∀ (j : Nat) (p : List α), ls[j]? = some p → ∃ (A : Option Addr) (c : Nat), cs[j]? = some (Value.slice A p.length c) ∧ p.length ≤ c ∧ d.C w A p.length p) : (Kd.slice e d).C w (some ⟨g, 0, none⟩) ls.length ls := by
  refine ⟨rfl, hn, fun _ => ⟨_, rfl, fun j p hj => ?_⟩⟩
  obtain ⟨A, c, h1, h2, h3⟩ := hc j p hj
  refine ⟨[.slice A p.length c], rfl, ⟨A, c, rfl, h2, h3⟩, fun i u hu => ?_⟩
  have hi : i = 0 := by
    have := (List.getElem?_eq_some_iff.1 hu).1
    simp at this; exact this
  subst hi
  have hu' : Value.slice A p.length c = u := by simpa using hu
  subst hu'
  have e : (⟨g, 0, none⟩ : Addr).add (j * 1 + 0) = ⟨g, j, none⟩ := by rw [Nat.mul_one, Nat.add_zero]; unfold Addr.add; split <;> simp_all
  show w.cell? ((⟨g, 0, none⟩ : Addr).add (j * 1 + 0)) = _
  rw [e, cell_of_row _ _ _ _ _ _ h]
  simp [h1]
theorem top_alloc (w : World) (o : Obj) (n : Nat) (h : n = w.heap.size) : (w.alloc o).heap[n]? = some o := by subst h; exact heap_alloc_last w o
theorem old_alloc (w : World) (o : Obj) (n : Nat) {x : Option Obj} (h : n < w.heap.size) (hx : w.heap[n]? = x) : (w.alloc o).heap[n]? = x := by
  rw [← hx]
  show (w.heap.push o)[n]? = w.heap[n]?
  rw [Array.getElem?_push, if_neg (by omega)]
theorem info35 : (Try.prog.info? 35).map (fun i => (i.zero, i.size, i.bytes)) = some (some (.agg #[(.bool false), (.int .i64 0)]), 2, 16) := by kernel_rfl
-- the values' own types
/-! #### struct type 35 -/
structure S35 where
 f0 : Bool
 f1 : Int
def z35 : S35 := ⟨false, (0 : Int)⟩
def k35 : Kd S35 := Kd.iso (Kd.pair Kd.bool (Kd.int .i64)) (fun x : S35 => (x.f0, x.f1))
theorem k35_open {w : World} {x : S35} {cs : List Value} (h : k35.K w x cs) : cs = [.bool x.f0, .int .i64 x.f1] := by
 obtain ⟨_, _, rfl, rfl, rfl⟩ := h
 exact rfl
theorem k35_openM {w : World} {base : Nat} {ok : Nat → Prop} {x : S35} {cs : List Value} (h : k35.M w base ok x cs) : cs = [.bool x.f0, .int .i64 x.f1] := by
 obtain ⟨_, _, rfl, rfl, rfl⟩ := h
 exact rfl
theorem k35_mk (w : World) (x : S35)  : k35.K w x [.bool x.f0, .int .i64 x.f1] := ⟨[.bool x.f0], [.int .i64 x.f1], rfl, rfl, rfl⟩
theorem k35_mkM (w : World) (base : Nat) (ok : Nat → Prop) (x : S35)  : k35.M w base ok x [.bool x.f0, .int .i64 x.f1] := ⟨[.bool x.f0], [.int .i64 x.f1], rfl, rfl, rfl⟩
def rd_T35 (xs : List S35) (i : Int) : S35 := xs.getD i.toNat z35
theorem at_T35 {w : World} {A : Option Addr} {n : Nat} {xs : List S35} (h : Kd.C k35 w A n xs) (i : Int) (h0 : 0 ≤ i) (h1 : i < n) : ∃ ad , A = some ad ∧ w.cell? (ad.add (i.toNat * 2)) = some (.bool (rd_T35 xs i).f0) ∧ w.cell? ⟨(ad.add (i.toNat * 2)).block, (ad.add (i.toNat * 2)).off + 1, none⟩ = some (.int .i64 (rd_T35 xs i).f1) := by
 obtain ⟨ad, c, e, _, hK, hc0⟩ := Kd.C_get h z35 i h0 h1
 have hc : ∀ j u, c[j]? = some u → w.cell? (ad.add (i.toNat * 2 + j)) = some u := hc0
 obtain rfl := k35_open hK
 exact ⟨ad, e, hc 0 _ rfl, by rw [← add_field _ _ 1 (by omega)]; exact hc 1 _ rfl⟩

end Go.Proofs.Ytboffchjmcdkaaa.QWeightShapes
