/-
  No cell of these rows narrows 'for every input' (looked for: loops, veiled, ifaces, maps, wideKeys, modest, calm, conditions, laid).
  DERIVED. THE GIVEN ROWS OF THIS SEAT. 7 by the template 'for every input the law returns true; each argument reads behind the call as it read before'; 0 by the template 'total and deterministic' (their statements: YtggcgacndknlaaaTotals.lean).
  GIVEN WITH THE SEED: the statements are not yours to turn. If you find one false, say at which input.
  Laid BY PROGRAM, IN A SANDBOX (cutbox-rows.mjs): the forced cells as the released guide's own fill.sh prints them over the translation f454e2932c0f0a89… (all of the seat's roots in one cut). By AI agents, Wed Nov 11 2026. No macro, syntax, notation, axiom, sorry.
-/
import Derived.Test.YtggcgacndknlaaaChecked
import GoSem.Claim
import GoSem.ClaimJoined
import GoSem.ClaimMapViews
import Derived.JoinedTies
import Derived.KernelRfl
namespace Go.Proofs.Ytggcgacndknlaaa
/- THE CELL 'sum', in the pinned program and in every row, IS THE sha256 OF THE DUMP (.gsa) THAT YtggcgacndknlaaaProg.lean LOADS. Nothing in Lean hashes anything: it is a label: what it is worth is what the hold of that sum in a sandbox is worth. -/
noncomputable def Try.pinned : Pinned := { name := "ytggcgacndknlaaa", sum := "f454e2932c0f0a898e42caee59d018febd0dc69bed9e82529971bac1ce0fca51", checked := Try.checked }
namespace Rows
def none {H : Type} : Left H := { results := [], args := [] }

/-- 'pelotonlaw03.GridTimes': WHATEVER THE INPUT: true; the input reads as it did. -/
def gridTimesSpec : ChangeSpec := { name := "gridTimes", fn := fun _ => fun
  | [d1, d2] => { results := [.lit (.bool true)], args := [d1, d2] }
  | _ => none }
def gridTimesRow : OpenClaim := { program := "ytggcgacndknlaaa", sum := "f454e2932c0f0a898e42caee59d018febd0dc69bed9e82529971bac1ce0fca51", func := "peloton/pelotonlaw03.GridTimes", spec := "gridTimes", unfollowed := true, recurses := true, apart := false }
def GridTimesSaid : Prop := gridTimesRow.holds Try.pinned (OpenSpec.ofChange gridTimesSpec)

/-- ITS FALSE NEIGHBOUR: 'it returns false'. Refute it at one input. -/
def gridTimesWrong : ChangeSpec := { name := "gridTimes", fn := fun _ => fun
  | [d1, d2] => { results := [.lit (.bool false)], args := [d1, d2] }
  | _ => none }
def GridTimesWrongFalsely : Prop := gridTimesRow.holds Try.pinned (OpenSpec.ofChange gridTimesWrong)

/-- 'pelotonlaw03.GridCells': WHATEVER THE INPUT: true; the input reads as it did. -/
def gridCellsSpec : ChangeSpec := { name := "gridCells", fn := fun _ => fun
  | [d1, d2, d3] => { results := [.lit (.bool true)], args := [d1, d2, d3] }
  | _ => none }
def gridCellsRow : OpenClaim := { program := "ytggcgacndknlaaa", sum := "f454e2932c0f0a898e42caee59d018febd0dc69bed9e82529971bac1ce0fca51", func := "peloton/pelotonlaw03.GridCells", spec := "gridCells", unfollowed := true, recurses := true, apart := false }
def GridCellsSaid : Prop := gridCellsRow.holds Try.pinned (OpenSpec.ofChange gridCellsSpec)

/-- ITS FALSE NEIGHBOUR: 'it returns false'. Refute it at one input. -/
def gridCellsWrong : ChangeSpec := { name := "gridCells", fn := fun _ => fun
  | [d1, d2, d3] => { results := [.lit (.bool false)], args := [d1, d2, d3] }
  | _ => none }
def GridCellsWrongFalsely : Prop := gridCellsRow.holds Try.pinned (OpenSpec.ofChange gridCellsWrong)

/-- 'pelotonlaw03.GridSpreads': WHATEVER THE INPUT: true; the input reads as it did. -/
def gridSpreadsSpec : ChangeSpec := { name := "gridSpreads", fn := fun _ => fun
  | [d1, d2, d3] => { results := [.lit (.bool true)], args := [d1, d2, d3] }
  | _ => none }
def gridSpreadsRow : OpenClaim := { program := "ytggcgacndknlaaa", sum := "f454e2932c0f0a898e42caee59d018febd0dc69bed9e82529971bac1ce0fca51", func := "peloton/pelotonlaw03.GridSpreads", spec := "gridSpreads", unfollowed := true, recurses := true, apart := false }
def GridSpreadsSaid : Prop := gridSpreadsRow.holds Try.pinned (OpenSpec.ofChange gridSpreadsSpec)

/-- ITS FALSE NEIGHBOUR: 'it returns false'. Refute it at one input. -/
def gridSpreadsWrong : ChangeSpec := { name := "gridSpreads", fn := fun _ => fun
  | [d1, d2, d3] => { results := [.lit (.bool false)], args := [d1, d2, d3] }
  | _ => none }
def GridSpreadsWrongFalsely : Prop := gridSpreadsRow.holds Try.pinned (OpenSpec.ofChange gridSpreadsWrong)

/-- 'pelotonlaw03.GridLays': WHATEVER THE INPUT: true; the input reads as it did. -/
def gridLaysSpec : ChangeSpec := { name := "gridLays", fn := fun _ => fun
  | [d] => { results := [.lit (.bool true)], args := [d] }
  | _ => none }
def gridLaysRow : OpenClaim := { program := "ytggcgacndknlaaa", sum := "f454e2932c0f0a898e42caee59d018febd0dc69bed9e82529971bac1ce0fca51", func := "peloton/pelotonlaw03.GridLays", spec := "gridLays", unfollowed := true, recurses := true, apart := false }
def GridLaysSaid : Prop := gridLaysRow.holds Try.pinned (OpenSpec.ofChange gridLaysSpec)

/-- ITS FALSE NEIGHBOUR: 'it returns false'. Refute it at one input. -/
def gridLaysWrong : ChangeSpec := { name := "gridLays", fn := fun _ => fun
  | [d] => { results := [.lit (.bool false)], args := [d] }
  | _ => none }
def GridLaysWrongFalsely : Prop := gridLaysRow.holds Try.pinned (OpenSpec.ofChange gridLaysWrong)

/-- 'pelotonlaw03.GridCuts': WHATEVER THE INPUT: true; the input reads as it did. -/
def gridCutsSpec : ChangeSpec := { name := "gridCuts", fn := fun _ => fun
  | [d1, d2, d3] => { results := [.lit (.bool true)], args := [d1, d2, d3] }
  | _ => none }
def gridCutsRow : OpenClaim := { program := "ytggcgacndknlaaa", sum := "f454e2932c0f0a898e42caee59d018febd0dc69bed9e82529971bac1ce0fca51", func := "peloton/pelotonlaw03.GridCuts", spec := "gridCuts", unfollowed := true, recurses := true, apart := false }
def GridCutsSaid : Prop := gridCutsRow.holds Try.pinned (OpenSpec.ofChange gridCutsSpec)

/-- ITS FALSE NEIGHBOUR: 'it returns false'. Refute it at one input. -/
def gridCutsWrong : ChangeSpec := { name := "gridCuts", fn := fun _ => fun
  | [d1, d2, d3] => { results := [.lit (.bool false)], args := [d1, d2, d3] }
  | _ => none }
def GridCutsWrongFalsely : Prop := gridCutsRow.holds Try.pinned (OpenSpec.ofChange gridCutsWrong)

/-- 'pelotonlaw03.GridBack': WHATEVER THE INPUT: true; the input reads as it did. -/
def gridBackSpec : ChangeSpec := { name := "gridBack", fn := fun _ => fun
  | [d1, d2] => { results := [.lit (.bool true)], args := [d1, d2] }
  | _ => none }
def gridBackRow : OpenClaim := { program := "ytggcgacndknlaaa", sum := "f454e2932c0f0a898e42caee59d018febd0dc69bed9e82529971bac1ce0fca51", func := "peloton/pelotonlaw03.GridBack", spec := "gridBack", unfollowed := true, recurses := true, apart := false }
def GridBackSaid : Prop := gridBackRow.holds Try.pinned (OpenSpec.ofChange gridBackSpec)

/-- ITS FALSE NEIGHBOUR: 'it returns false'. Refute it at one input. -/
def gridBackWrong : ChangeSpec := { name := "gridBack", fn := fun _ => fun
  | [d1, d2] => { results := [.lit (.bool false)], args := [d1, d2] }
  | _ => none }
def GridBackWrongFalsely : Prop := gridBackRow.holds Try.pinned (OpenSpec.ofChange gridBackWrong)

/-- 'pelotonlaw03.GridParts': WHATEVER THE INPUT: true; the input reads as it did. -/
def gridPartsSpec : ChangeSpec := { name := "gridParts", fn := fun _ => fun
  | [d1, d2, d3] => { results := [.lit (.bool true)], args := [d1, d2, d3] }
  | _ => none }
def gridPartsRow : OpenClaim := { program := "ytggcgacndknlaaa", sum := "f454e2932c0f0a898e42caee59d018febd0dc69bed9e82529971bac1ce0fca51", func := "peloton/pelotonlaw03.GridParts", spec := "gridParts", unfollowed := true, recurses := true, apart := false }
def GridPartsSaid : Prop := gridPartsRow.holds Try.pinned (OpenSpec.ofChange gridPartsSpec)

/-- ITS FALSE NEIGHBOUR: 'it returns false'. Refute it at one input. -/
def gridPartsWrong : ChangeSpec := { name := "gridParts", fn := fun _ => fun
  | [d1, d2, d3] => { results := [.lit (.bool false)], args := [d1, d2, d3] }
  | _ => none }
def GridPartsWrongFalsely : Prop := gridPartsRow.holds Try.pinned (OpenSpec.ofChange gridPartsWrong)

/- THE SECOND FORM. 'bulk': how many values and letters a reading holds, each counted each time it is reached (what is shared counts as often as it is met; a slice's spare places count too). A statement '..UptoSaid' is the law's where the arguments, and the package variables that the reading takes, are together of bulk at most 1048576: NARROWER than '..Said'. Prove '..Said' where nothing that the law and all that it calls make is longer than what came in: it says more and counts as full. Else prove '..UptoSaid'. A law counts once. -/
mutual
def uptoBulk {H : Type} : DataW H → Nat
  | .lit (.string bytes) => bytes.length + 1
  | .lit _ => 1
  | .nil => 1
  | .ptr d => uptoBulk d + 1
  | .slice elems spare => uptoBulkAll elems + uptoBulkAll spare + 1
  | .agg parts => uptoBulkAll parts + 1
  | .iface _ d => uptoBulk d + 1
  | .map entries => uptoBulkEntries entries + 1
  | .held _ => 1
def uptoBulkAll {H : Type} : List (DataW H) → Nat
  | [] => 0
  | d :: r => uptoBulk d + uptoBulkAll r
def uptoBulkEntries {H : Type} : List (Lit × DataW H) → Nat
  | [] => 0
  | x :: r => uptoBulkEntry x + uptoBulkEntries r
def uptoBulkEntry {H : Type} : Lit × DataW H → Nat
  | (.string bytes, d) => bytes.length + uptoBulk d + 1
  | (_, d) => uptoBulk d + 1
 end
def uptoSmall : (H : Type) → List (DataW H) → Bool := fun _ ds => decide (uptoBulkAll ds ≤ 1048576)
def OpenSpec.upto (s : _root_.Go.ChangeSpec) : _root_.Go.OpenSpec := { _root_.Go.OpenSpec.ofChange s with cond := some uptoSmall }

/-- 'pelotonlaw03.GridTimes', WHERE WHAT IT READS IS OF BULK AT MOST 1048576: true; the input reads as it did. -/
def gridTimesUptoRow : OpenClaim := { program := "ytggcgacndknlaaa", sum := "f454e2932c0f0a898e42caee59d018febd0dc69bed9e82529971bac1ce0fca51", func := "peloton/pelotonlaw03.GridTimes", spec := "gridTimes", unfollowed := true, recurses := true, apart := false, narrowed := true }
def GridTimesUptoSaid : Prop := gridTimesUptoRow.holds Try.pinned (OpenSpec.upto gridTimesSpec)

/-- 'pelotonlaw03.GridCells', WHERE WHAT IT READS IS OF BULK AT MOST 1048576: true; the input reads as it did. -/
def gridCellsUptoRow : OpenClaim := { program := "ytggcgacndknlaaa", sum := "f454e2932c0f0a898e42caee59d018febd0dc69bed9e82529971bac1ce0fca51", func := "peloton/pelotonlaw03.GridCells", spec := "gridCells", unfollowed := true, recurses := true, apart := false, narrowed := true }
def GridCellsUptoSaid : Prop := gridCellsUptoRow.holds Try.pinned (OpenSpec.upto gridCellsSpec)

/-- 'pelotonlaw03.GridSpreads', WHERE WHAT IT READS IS OF BULK AT MOST 1048576: true; the input reads as it did. -/
def gridSpreadsUptoRow : OpenClaim := { program := "ytggcgacndknlaaa", sum := "f454e2932c0f0a898e42caee59d018febd0dc69bed9e82529971bac1ce0fca51", func := "peloton/pelotonlaw03.GridSpreads", spec := "gridSpreads", unfollowed := true, recurses := true, apart := false, narrowed := true }
def GridSpreadsUptoSaid : Prop := gridSpreadsUptoRow.holds Try.pinned (OpenSpec.upto gridSpreadsSpec)

/-- 'pelotonlaw03.GridLays', WHERE WHAT IT READS IS OF BULK AT MOST 1048576: true; the input reads as it did. -/
def gridLaysUptoRow : OpenClaim := { program := "ytggcgacndknlaaa", sum := "f454e2932c0f0a898e42caee59d018febd0dc69bed9e82529971bac1ce0fca51", func := "peloton/pelotonlaw03.GridLays", spec := "gridLays", unfollowed := true, recurses := true, apart := false, narrowed := true }
def GridLaysUptoSaid : Prop := gridLaysUptoRow.holds Try.pinned (OpenSpec.upto gridLaysSpec)

/-- 'pelotonlaw03.GridCuts', WHERE WHAT IT READS IS OF BULK AT MOST 1048576: true; the input reads as it did. -/
def gridCutsUptoRow : OpenClaim := { program := "ytggcgacndknlaaa", sum := "f454e2932c0f0a898e42caee59d018febd0dc69bed9e82529971bac1ce0fca51", func := "peloton/pelotonlaw03.GridCuts", spec := "gridCuts", unfollowed := true, recurses := true, apart := false, narrowed := true }
def GridCutsUptoSaid : Prop := gridCutsUptoRow.holds Try.pinned (OpenSpec.upto gridCutsSpec)

/-- 'pelotonlaw03.GridBack', WHERE WHAT IT READS IS OF BULK AT MOST 1048576: true; the input reads as it did. -/
def gridBackUptoRow : OpenClaim := { program := "ytggcgacndknlaaa", sum := "f454e2932c0f0a898e42caee59d018febd0dc69bed9e82529971bac1ce0fca51", func := "peloton/pelotonlaw03.GridBack", spec := "gridBack", unfollowed := true, recurses := true, apart := false, narrowed := true }
def GridBackUptoSaid : Prop := gridBackUptoRow.holds Try.pinned (OpenSpec.upto gridBackSpec)

/-- 'pelotonlaw03.GridParts', WHERE WHAT IT READS IS OF BULK AT MOST 1048576: true; the input reads as it did. -/
def gridPartsUptoRow : OpenClaim := { program := "ytggcgacndknlaaa", sum := "f454e2932c0f0a898e42caee59d018febd0dc69bed9e82529971bac1ce0fca51", func := "peloton/pelotonlaw03.GridParts", spec := "gridParts", unfollowed := true, recurses := true, apart := false, narrowed := true }
def GridPartsUptoSaid : Prop := gridPartsUptoRow.holds Try.pinned (OpenSpec.upto gridPartsSpec)

end Rows
end Go.Proofs.Ytggcgacndknlaaa
