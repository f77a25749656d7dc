/-
  No cell of these rows narrows 'for every input' (looked for: loops, veiled, ifaces, maps, wideKeys, modest, calm, conditions, laid).
  DERIVED. THE GIVEN ROWS OF THIS SEAT. 4 by the template 'for every input the law returns true; each argument reads behind the call as it read before'; 0 by the template 'total and deterministic' (their statements: YtijkcjlkfjeedaaTotals.lean).
  GIVEN WITH THE SEED: the statements are not yours to turn. If you find one false, say at which input.
  Laid BY PROGRAM, IN A SANDBOX (cutbox-rows.mjs): the forced cells as the released guide's own fill.sh prints them over the translation 69fbc8493c878f8d… (all of the seat's roots in one cut). By AI agents, Wed Nov 11 2026. No macro, syntax, notation, axiom, sorry.
-/
import Derived.Test.YtijkcjlkfjeedaaChecked
import GoSem.Claim
import GoSem.ClaimJoined
import GoSem.ClaimMapViews
import Derived.JoinedTies
import Derived.KernelRfl
namespace Go.Proofs.Ytijkcjlkfjeedaa
/- THE CELL 'sum', in the pinned program and in every row, IS THE sha256 OF THE DUMP (.gsa) THAT YtijkcjlkfjeedaaProg.lean LOADS. Nothing in Lean hashes anything: it is a label: what it is worth is what the hold of that sum in a sandbox is worth. -/
noncomputable def Try.pinned : Pinned := { name := "ytijkcjlkfjeedaa", sum := "69fbc8493c878f8d12929f8c491332dd50ed0382eaad310f66066a222bd3c6b4", checked := Try.checked }
namespace Rows
def none {H : Type} : Left H := { results := [], args := [] }

/-- 'pelotonlaw10.SliceCuts': WHATEVER THE INPUT: true; the input reads as it did. -/
def sliceCutsSpec : ChangeSpec := { name := "sliceCuts", fn := fun _ => fun
  | [d1, d2, d3] => { results := [.lit (.bool true)], args := [d1, d2, d3] }
  | _ => none }
def sliceCutsRow : OpenClaim := { program := "ytijkcjlkfjeedaa", sum := "69fbc8493c878f8d12929f8c491332dd50ed0382eaad310f66066a222bd3c6b4", func := "peloton/pelotonlaw10.SliceCuts", spec := "sliceCuts", plainKeys := false, apart := false }
def SliceCutsSaid : Prop := sliceCutsRow.holds Try.pinned (OpenSpec.ofChange sliceCutsSpec)

/-- ITS FALSE NEIGHBOUR: 'it returns false'. Refute it at one input. -/
def sliceCutsWrong : ChangeSpec := { name := "sliceCuts", fn := fun _ => fun
  | [d1, d2, d3] => { results := [.lit (.bool false)], args := [d1, d2, d3] }
  | _ => none }
def SliceCutsWrongFalsely : Prop := sliceCutsRow.holds Try.pinned (OpenSpec.ofChange sliceCutsWrong)

/-- 'pelotonlaw10.SliceEven': WHATEVER THE INPUT: true; the input reads as it did. -/
def sliceEvenSpec : ChangeSpec := { name := "sliceEven", fn := fun _ => fun
  | [d1, d2, d3] => { results := [.lit (.bool true)], args := [d1, d2, d3] }
  | _ => none }
def sliceEvenRow : OpenClaim := { program := "ytijkcjlkfjeedaa", sum := "69fbc8493c878f8d12929f8c491332dd50ed0382eaad310f66066a222bd3c6b4", func := "peloton/pelotonlaw10.SliceEven", spec := "sliceEven", plainKeys := false, apart := false }
def SliceEvenSaid : Prop := sliceEvenRow.holds Try.pinned (OpenSpec.ofChange sliceEvenSpec)

/-- ITS FALSE NEIGHBOUR: 'it returns false'. Refute it at one input. -/
def sliceEvenWrong : ChangeSpec := { name := "sliceEven", fn := fun _ => fun
  | [d1, d2, d3] => { results := [.lit (.bool false)], args := [d1, d2, d3] }
  | _ => none }
def SliceEvenWrongFalsely : Prop := sliceEvenRow.holds Try.pinned (OpenSpec.ofChange sliceEvenWrong)

/-- 'pelotonlaw10.SliceNumbers': WHATEVER THE INPUT: true; the input reads as it did. -/
def sliceNumbersSpec : ChangeSpec := { name := "sliceNumbers", fn := fun _ => fun
  | [d1, d2, d3] => { results := [.lit (.bool true)], args := [d1, d2, d3] }
  | _ => none }
def sliceNumbersRow : OpenClaim := { program := "ytijkcjlkfjeedaa", sum := "69fbc8493c878f8d12929f8c491332dd50ed0382eaad310f66066a222bd3c6b4", func := "peloton/pelotonlaw10.SliceNumbers", spec := "sliceNumbers", plainKeys := false, apart := false }
def SliceNumbersSaid : Prop := sliceNumbersRow.holds Try.pinned (OpenSpec.ofChange sliceNumbersSpec)

/-- ITS FALSE NEIGHBOUR: 'it returns false'. Refute it at one input. -/
def sliceNumbersWrong : ChangeSpec := { name := "sliceNumbers", fn := fun _ => fun
  | [d1, d2, d3] => { results := [.lit (.bool false)], args := [d1, d2, d3] }
  | _ => none }
def SliceNumbersWrongFalsely : Prop := sliceNumbersRow.holds Try.pinned (OpenSpec.ofChange sliceNumbersWrong)

/-- 'pelotonlaw10.SliceOwns': WHATEVER THE INPUT: true; the input reads as it did. -/
def sliceOwnsSpec : ChangeSpec := { name := "sliceOwns", fn := fun _ => fun
  | [d1, d2, d3] => { results := [.lit (.bool true)], args := [d1, d2, d3] }
  | _ => none }
def sliceOwnsRow : OpenClaim := { program := "ytijkcjlkfjeedaa", sum := "69fbc8493c878f8d12929f8c491332dd50ed0382eaad310f66066a222bd3c6b4", func := "peloton/pelotonlaw10.SliceOwns", spec := "sliceOwns", plainKeys := false, apart := false }
def SliceOwnsSaid : Prop := sliceOwnsRow.holds Try.pinned (OpenSpec.ofChange sliceOwnsSpec)

/-- ITS FALSE NEIGHBOUR: 'it returns false'. Refute it at one input. -/
def sliceOwnsWrong : ChangeSpec := { name := "sliceOwns", fn := fun _ => fun
  | [d1, d2, d3] => { results := [.lit (.bool false)], args := [d1, d2, d3] }
  | _ => none }
def SliceOwnsWrongFalsely : Prop := sliceOwnsRow.holds Try.pinned (OpenSpec.ofChange sliceOwnsWrong)

/- THE SECOND FORM. 'bulk': how many values and letters a reading holds, each counted each time it is reached (what is shared counts as often as it is met; a slice's spare places count too). A statement '..UptoSaid' is the law's where the arguments, and the package variables that the reading takes, are together of bulk at most 1048576: NARROWER than '..Said'. Prove '..Said' where nothing that the law and all that it calls make is longer than what came in: it says more and counts as full. Else prove '..UptoSaid'. A law counts once. -/
mutual
def uptoBulk {H : Type} : DataW H → Nat
  | .lit (.string bytes) => bytes.length + 1
  | .lit _ => 1
  | .nil => 1
  | .ptr d => uptoBulk d + 1
  | .slice elems spare => uptoBulkAll elems + uptoBulkAll spare + 1
  | .agg parts => uptoBulkAll parts + 1
  | .iface _ d => uptoBulk d + 1
  | .map entries => uptoBulkEntries entries + 1
  | .held _ => 1
def uptoBulkAll {H : Type} : List (DataW H) → Nat
  | [] => 0
  | d :: r => uptoBulk d + uptoBulkAll r
def uptoBulkEntries {H : Type} : List (Lit × DataW H) → Nat
  | [] => 0
  | x :: r => uptoBulkEntry x + uptoBulkEntries r
def uptoBulkEntry {H : Type} : Lit × DataW H → Nat
  | (.string bytes, d) => bytes.length + uptoBulk d + 1
  | (_, d) => uptoBulk d + 1
 end
def uptoSmall : (H : Type) → List (DataW H) → Bool := fun _ ds => decide (uptoBulkAll ds ≤ 1048576)
def OpenSpec.upto (s : _root_.Go.ChangeSpec) : _root_.Go.OpenSpec := { _root_.Go.OpenSpec.ofChange s with cond := some uptoSmall }

/-- 'pelotonlaw10.SliceCuts', WHERE WHAT IT READS IS OF BULK AT MOST 1048576: true; the input reads as it did. -/
def sliceCutsUptoRow : OpenClaim := { program := "ytijkcjlkfjeedaa", sum := "69fbc8493c878f8d12929f8c491332dd50ed0382eaad310f66066a222bd3c6b4", func := "peloton/pelotonlaw10.SliceCuts", spec := "sliceCuts", plainKeys := false, apart := false, narrowed := true }
def SliceCutsUptoSaid : Prop := sliceCutsUptoRow.holds Try.pinned (OpenSpec.upto sliceCutsSpec)

/-- 'pelotonlaw10.SliceEven', WHERE WHAT IT READS IS OF BULK AT MOST 1048576: true; the input reads as it did. -/
def sliceEvenUptoRow : OpenClaim := { program := "ytijkcjlkfjeedaa", sum := "69fbc8493c878f8d12929f8c491332dd50ed0382eaad310f66066a222bd3c6b4", func := "peloton/pelotonlaw10.SliceEven", spec := "sliceEven", plainKeys := false, apart := false, narrowed := true }
def SliceEvenUptoSaid : Prop := sliceEvenUptoRow.holds Try.pinned (OpenSpec.upto sliceEvenSpec)

/-- 'pelotonlaw10.SliceNumbers', WHERE WHAT IT READS IS OF BULK AT MOST 1048576: true; the input reads as it did. -/
def sliceNumbersUptoRow : OpenClaim := { program := "ytijkcjlkfjeedaa", sum := "69fbc8493c878f8d12929f8c491332dd50ed0382eaad310f66066a222bd3c6b4", func := "peloton/pelotonlaw10.SliceNumbers", spec := "sliceNumbers", plainKeys := false, apart := false, narrowed := true }
def SliceNumbersUptoSaid : Prop := sliceNumbersUptoRow.holds Try.pinned (OpenSpec.upto sliceNumbersSpec)

/-- 'pelotonlaw10.SliceOwns', WHERE WHAT IT READS IS OF BULK AT MOST 1048576: true; the input reads as it did. -/
def sliceOwnsUptoRow : OpenClaim := { program := "ytijkcjlkfjeedaa", sum := "69fbc8493c878f8d12929f8c491332dd50ed0382eaad310f66066a222bd3c6b4", func := "peloton/pelotonlaw10.SliceOwns", spec := "sliceOwns", plainKeys := false, apart := false, narrowed := true }
def SliceOwnsUptoSaid : Prop := sliceOwnsUptoRow.holds Try.pinned (OpenSpec.upto sliceOwnsSpec)

end Rows
end Go.Proofs.Ytijkcjlkfjeedaa
