-- Written by a program of this session (a turned copy of the print) out of the translation. Lean checks it.
import Derived.Test.YtofoimndhndffaaProg
import Derived.Below
import Derived.Deep.Draws
import Derived.Deep.AppendLies
import Derived.Maps.AppendAt
import Derived.OwnWalk
import Derived.Laws.BytesArg
import Derived.Laws.MakeOwn
import Derived.Laws.OwnMore
import Derived.Deep.OwnRows
import Derived.Tactics
import Derived.Lib.ConvBytes
import Derived.Laws.Slices
import Derived.WalkKit
import Derived.KernelRfl
import Derived.RowKit3
import Derived.Deep.LoopGhost
import Derived.Deep.QuietTactic
import Derived.BigQuiet
import Derived.WideLaws
import Derived.Deep.DeepCutAuto
import Derived.Deep.CutBlock
import Derived.Deep.RegionHeld3
import Derived.Laws.Rows
import Derived.Lib.AppendStr
import Derived.ArgAppend
import Derived.Laws.IdiomCopy
import Derived.OrdersHeld
import Derived.Laws.BitsLemmas
import Derived.RowKit
import Derived.ChangeKeysEq
import Derived.Lib.SliceRun
import Derived.Great.BuildSlice
import Derived.Deep.WholeRow
import Derived.Lib.SlBytesConst
import Derived.Lib.SmallJoins
import Derived.Test.YtofoimndhndffaaWWords
import Derived.Test.YtofoimndhndffaaWLast
import Derived.Test.YtofoimndhndffaaWTab
import Derived.Test.YtofoimndhndffaaWFour
import Derived.Test.YtofoimndhndffaaWQPut
import Derived.Test.YtofoimndhndffaaWApart
import Derived.Test.YtofoimndhndffaaWArr
import Derived.Test.YtofoimndhndffaaWZeros
import Derived.Test.YtofoimndhndffaaWFoot
import Derived.Test.YtofoimndhndffaaWKept
import Derived.Test.YtofoimndhndffaaWShare
import Derived.Test.YtofoimndhndffaaWN
import Derived.Test.YtofoimndhndffaaWFootNe
import Derived.Test.YtofoimndhndffaaWAt
import Derived.Test.YtofoimndhndffaaWEqStruct
import Derived.Test.YtofoimndhndffaaWRepsOne
import Derived.Test.YtofoimndhndffaaWInv
import Derived.Test.YtofoimndhndffaaWInvWords
import Derived.Test.YtofoimndhndffaaWGuard
import Derived.Test.YtofoimndhndffaaWNEv
import Derived.Test.YtofoimndhndffaaWMore
namespace Go.Proofs.Ytofoimndhndffaa.QFrameCatches
open Go.RowKit Go.Proofs.YtofoimndhndffaaW.PrintWords Go.Proofs.YtofoimndhndffaaW.PrintLast Go.Proofs.YtofoimndhndffaaW.PrintMore
attribute [local go_sem] max2_int min2_int max_two min_two max_three min_three max_four min_four   -- for this text's walks alone
open Go.Proofs.YtofoimndhndffaaW.PrintWords renaming below_alloc → b_a, pw_below_drewN → b_n, below_drew1 → b_d, below_set → b_s, blk_drewN → k_n, blk_drew → k_d, blk_alloc → k_a
open List renaming setIfInBounds_toArray → l_1, set_cons_zero → l_2, set_cons_succ → l_3, map_toArray → l_4, map_cons → l_5, map_nil → l_6, length_drop → l_7, length_take → l_8
set_option linter.unusedVariables false
set_option linter.unusedSimpArgs false



def errW : Option Int → Value
 | none => .nilIface
 | some c => .iface 0 (.int .i64 c)
theorem errW_none : errW none = .nilIface := rfl
theorem errW_some (c : Int) : errW (some c) = .iface 0 (.int .i64 c) := rfl

theorem C_blk {k : IntKind} {w : World} {g : Nat} {l : List Int} {t : TypeId} {fr : Nat × Nat} (hn : l.length ≤ 9223372036854775807) (h : w.heap[g]? = some (.cells (l.map (Value.int k)).toArray t fr)) :
    (Kd.int k).C w (some ⟨g, 0, none⟩) l.length l := by
  refine ⟨rfl, hn, fun _ => ⟨_, rfl, fun j p hj => ⟨[.int k p], rfl, rfl, fun i u hu => ?_⟩⟩⟩
  have hi : i = 0 := by
    have := (List.getElem?_eq_some_iff.1 hu).1
    simp at this; exact this
  subst hi
  have hu' : Value.int k p = u := by simpa using hu
  subst hu'
  have e : (⟨g, 0, none⟩ : Addr).add (j * 1 + 0) = ⟨g, j, none⟩ := by rw [Nat.mul_one, Nat.add_zero]; unfold Addr.add; split <;> simp_all
  show w.cell? ((⟨g, 0, none⟩ : Addr).add (j * 1 + 0)) = _
  rw [e, cell_of_row _ _ _ _ _ _ h]
  simp [hj]
/-- slices that lie in a block of their own -/
theorem C_blkS {α : Type} {e : Nat} {d : Kd α} {w : World} {g : Nat} {t : TypeId} {fr : Nat × Nat} {ls : List (List α)} {cs : List Value} (hn : ls.length ≤ 9223372036854775807) (h : w.heap[g]? = some (.cells cs.toArray t fr))
    (hc : ∀ (j : Nat) (p : List α), ls[j]? = some p → ∃ (A : Option Addr) (c : Nat), cs[j]? = some (Value.slice A p.length c) ∧ p.length ≤ c ∧ d.C w A p.length p) : (Kd.slice e d).C w (some ⟨g, 0, none⟩) ls.length ls := by
  refine ⟨rfl, hn, fun _ => ⟨_, rfl, fun j p hj => ?_⟩⟩
  obtain ⟨A, c, h1, h2, h3⟩ := hc j p hj
  refine ⟨[.slice A p.length c], rfl, ⟨A, c, rfl, h2, h3⟩, fun i u hu => ?_⟩
  have hi : i = 0 := by
    have := (List.getElem?_eq_some_iff.1 hu).1
    simp at this; exact this
  subst hi
  have hu' : Value.slice A p.length c = u := by simpa using hu
  subst hu'
  have e : (⟨g, 0, none⟩ : Addr).add (j * 1 + 0) = ⟨g, j, none⟩ := by rw [Nat.mul_one, Nat.add_zero]; unfold Addr.add; split <;> simp_all
  show w.cell? ((⟨g, 0, none⟩ : Addr).add (j * 1 + 0)) = _
  rw [e, cell_of_row _ _ _ _ _ _ h]
  simp [h1]
/-- a literal of one slice -/
theorem one_at {α : Type} {d : Kd α} {w : World} {A : Option Addr} {c : Nat} {l : List α} (h1 : l.length ≤ c) (h2 : d.C w A l.length l) (j : Nat) (p : List α) (hj : [l][j]? = some p) : ∃ (A' : Option Addr) (c' : Nat), [Value.slice A l.length c][j]? = some (Value.slice A' p.length c') ∧ p.length ≤ c' ∧ d.C w A' p.length p := by
  have h0 : j = 0 := by
    have := (List.getElem?_eq_some_iff.1 hj).1
    simp at this; exact this
  subst h0
  obtain rfl : l = p := by simpa using hj
  exact ⟨A, c, rfl, h1, h2⟩
theorem top_alloc (w : World) (o : Obj) (n : Nat) (h : n = w.heap.size) : (w.alloc o).heap[n]? = some o := by subst h; exact heap_alloc_last w o
theorem old_alloc (w : World) (o : Obj) (n : Nat) {x : Option Obj} (h : n < w.heap.size) (hx : w.heap[n]? = x) : (w.alloc o).heap[n]? = x := by
  rw [← hx]
  show (w.heap.push o)[n]? = w.heap[n]?
  rw [Array.getElem?_push, if_neg (by omega)]

/-- what came in, told as what may be shared -/
theorem C_F {k : IntKind} {W : World} {A : Option Addr} {n : Nat} {xs : List Int} (h : (Kd.int k).C W A n xs) : Kd.F (Kd.int k) W (fun _ => True) A n xs := by
  intro W' hW
  obtain ⟨h1, h2, h3⟩ := h
  refine ⟨h1, h2, fun hn => ?_⟩
  obtain ⟨ad, e, hc⟩ := h3 hn
  refine ⟨ad, e, fun j p hj => ?_⟩
  obtain ⟨c, hs, hK, hcell⟩ := hc j p hj
  refine ⟨c, hs, hK, fun i u hu => ?_⟩
  have h4 := hcell i u hu
  have hlt := World.block_lt_of_cell? _ _ h4
  unfold World.cell? at h4 ⊢
  rw [hW _ trivial hlt]
  exact h4
theorem info5 : (Try.prog.info? 5).map (fun i => (i.zero, i.size, i.bytes)) = some (some (.int .u8 0), 1, 1) := by kernel_rfl
theorem info22 : (Try.prog.info? 22).map (fun i => (i.zero, i.size, i.bytes)) = some (some (.slice none 0 0), 1, 24) := by kernel_rfl
-- the values' own types
def rd_L1 (xs : List (List Int)) (i : Int) : (List Int) := xs.getD i.toNat ([] : List Int)
theorem at_L1 {w : World} {A : Option Addr} {n : Nat} {xs : List (List Int)} (h : Kd.C (Kd.slice 5 (Kd.int .u8)) w A n xs) (i : Int) (h0 : 0 ≤ i) (h1 : i < n) : ∃ ad A0 c0, A = some ad ∧ w.cell? (ad.add i.toNat) = some (.slice A0 (rd_L1 xs i).length c0) ∧ (rd_L1 xs i).length ≤ c0 ∧ (Kd.int .u8).C w A0 (rd_L1 xs i).length (rd_L1 xs i) := by
 obtain ⟨ad, c, e, _, hK, hc0⟩ := Kd.C_get h ([] : List Int) i h0 h1
 have hc : ∀ j u, c[j]? = some u → w.cell? (ad.add (i.toNat * 1 + j)) = some u := hc0
 obtain ⟨A0, c0, rfl, l0, g0⟩ := hK
 exact ⟨ad, A0, c0, e, by have hq := hc 0 _ rfl; rwa [Nat.mul_one, Nat.add_zero] at hq, l0, g0⟩

end Go.Proofs.Ytofoimndhndffaa.QFrameCatches
