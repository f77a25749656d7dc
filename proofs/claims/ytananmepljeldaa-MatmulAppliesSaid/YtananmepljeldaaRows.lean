/-
  No cell of these rows narrows 'for every input' (looked for: loops, veiled, ifaces, maps, wideKeys, modest, calm, conditions, laid).
  DERIVED. THE GIVEN ROWS OF THIS SEAT. 7 by the template 'for every input the law returns true; each argument reads behind the call as it read before'; 0 by the template 'total and deterministic' (their statements: YtananmepljeldaaTotals.lean).
  GIVEN WITH THE SEED: the statements are not yours to turn. If you find one false, say at which input.
  Laid BY PROGRAM, IN A SANDBOX (cutbox-rows.mjs): the forced cells as the released guide's own fill.sh prints them over the translation f923e120a75fc4ff… (all of the seat's roots in one cut). By AI agents, Wed Nov 11 2026. No macro, syntax, notation, axiom, sorry.
-/
import Derived.Test.YtananmepljeldaaChecked
import GoSem.Claim
import GoSem.ClaimJoined
import GoSem.ClaimMapViews
import Derived.JoinedTies
import Derived.KernelRfl
namespace Go.Proofs.Ytananmepljeldaa
/- THE CELL 'sum', in the pinned program and in every row, IS THE sha256 OF THE DUMP (.gsa) THAT YtananmepljeldaaProg.lean LOADS. Nothing in Lean hashes anything: it is a label: what it is worth is what the hold of that sum in a sandbox is worth. -/
noncomputable def Try.pinned : Pinned := { name := "ytananmepljeldaa", sum := "f923e120a75fc4ff63b3061deae4ea9cecff28384b39eb19fd7fb408bbd279c0", checked := Try.checked }
namespace Rows
def none {H : Type} : Left H := { results := [], args := [] }

/-- 'pelotonlaw04.MatmulSpans': WHATEVER THE INPUT: true; the input reads as it did. -/
def matmulSpansSpec : ChangeSpec := { name := "matmulSpans", fn := fun _ => fun
  | [d1, d2] => { results := [.lit (.bool true)], args := [d1, d2] }
  | _ => none }
def matmulSpansRow : OpenClaim := { program := "ytananmepljeldaa", sum := "f923e120a75fc4ff63b3061deae4ea9cecff28384b39eb19fd7fb408bbd279c0", func := "peloton/pelotonlaw04.MatmulSpans", spec := "matmulSpans", apart := false }
def MatmulSpansSaid : Prop := matmulSpansRow.holds Try.pinned (OpenSpec.ofChange matmulSpansSpec)

/-- ITS FALSE NEIGHBOUR: 'it returns false'. Refute it at one input. -/
def matmulSpansWrong : ChangeSpec := { name := "matmulSpans", fn := fun _ => fun
  | [d1, d2] => { results := [.lit (.bool false)], args := [d1, d2] }
  | _ => none }
def MatmulSpansWrongFalsely : Prop := matmulSpansRow.holds Try.pinned (OpenSpec.ofChange matmulSpansWrong)

/-- 'pelotonlaw04.MatmulOne': WHATEVER THE INPUT: true; the input reads as it did. -/
def matmulOneSpec : ChangeSpec := { name := "matmulOne", fn := fun _ => fun
  | [d1, d2] => { results := [.lit (.bool true)], args := [d1, d2] }
  | _ => none }
def matmulOneRow : OpenClaim := { program := "ytananmepljeldaa", sum := "f923e120a75fc4ff63b3061deae4ea9cecff28384b39eb19fd7fb408bbd279c0", func := "peloton/pelotonlaw04.MatmulOne", spec := "matmulOne", apart := false }
def MatmulOneSaid : Prop := matmulOneRow.holds Try.pinned (OpenSpec.ofChange matmulOneSpec)

/-- ITS FALSE NEIGHBOUR: 'it returns false'. Refute it at one input. -/
def matmulOneWrong : ChangeSpec := { name := "matmulOne", fn := fun _ => fun
  | [d1, d2] => { results := [.lit (.bool false)], args := [d1, d2] }
  | _ => none }
def MatmulOneWrongFalsely : Prop := matmulOneRow.holds Try.pinned (OpenSpec.ofChange matmulOneWrong)

/-- 'pelotonlaw04.MatmulApplies': WHATEVER THE INPUT: true; the input reads as it did. -/
def matmulAppliesSpec : ChangeSpec := { name := "matmulApplies", fn := fun _ => fun
  | [d1, d2, d3] => { results := [.lit (.bool true)], args := [d1, d2, d3] }
  | _ => none }
def matmulAppliesRow : OpenClaim := { program := "ytananmepljeldaa", sum := "f923e120a75fc4ff63b3061deae4ea9cecff28384b39eb19fd7fb408bbd279c0", func := "peloton/pelotonlaw04.MatmulApplies", spec := "matmulApplies", unfollowed := true, recurses := true, apart := false }
def MatmulAppliesSaid : Prop := matmulAppliesRow.holds Try.pinned (OpenSpec.ofChange matmulAppliesSpec)

/-- ITS FALSE NEIGHBOUR: 'it returns false'. Refute it at one input. -/
def matmulAppliesWrong : ChangeSpec := { name := "matmulApplies", fn := fun _ => fun
  | [d1, d2, d3] => { results := [.lit (.bool false)], args := [d1, d2, d3] }
  | _ => none }
def MatmulAppliesWrongFalsely : Prop := matmulAppliesRow.holds Try.pinned (OpenSpec.ofChange matmulAppliesWrong)

/-- 'pelotonlaw04.MatmulParts': WHATEVER THE INPUT: true; the input reads as it did. -/
def matmulPartsSpec : ChangeSpec := { name := "matmulParts", fn := fun _ => fun
  | [d1, d2, d3] => { results := [.lit (.bool true)], args := [d1, d2, d3] }
  | _ => none }
def matmulPartsRow : OpenClaim := { program := "ytananmepljeldaa", sum := "f923e120a75fc4ff63b3061deae4ea9cecff28384b39eb19fd7fb408bbd279c0", func := "peloton/pelotonlaw04.MatmulParts", spec := "matmulParts", apart := false }
def MatmulPartsSaid : Prop := matmulPartsRow.holds Try.pinned (OpenSpec.ofChange matmulPartsSpec)

/-- ITS FALSE NEIGHBOUR: 'it returns false'. Refute it at one input. -/
def matmulPartsWrong : ChangeSpec := { name := "matmulParts", fn := fun _ => fun
  | [d1, d2, d3] => { results := [.lit (.bool false)], args := [d1, d2, d3] }
  | _ => none }
def MatmulPartsWrongFalsely : Prop := matmulPartsRow.holds Try.pinned (OpenSpec.ofChange matmulPartsWrong)

/-- 'pelotonlaw04.MatmulNarrows': WHATEVER THE INPUT: true; the input reads as it did. -/
def matmulNarrowsSpec : ChangeSpec := { name := "matmulNarrows", fn := fun _ => fun
  | [d1, d2, d3] => { results := [.lit (.bool true)], args := [d1, d2, d3] }
  | _ => none }
def matmulNarrowsRow : OpenClaim := { program := "ytananmepljeldaa", sum := "f923e120a75fc4ff63b3061deae4ea9cecff28384b39eb19fd7fb408bbd279c0", func := "peloton/pelotonlaw04.MatmulNarrows", spec := "matmulNarrows", unfollowed := true, recurses := true, apart := false }
def MatmulNarrowsSaid : Prop := matmulNarrowsRow.holds Try.pinned (OpenSpec.ofChange matmulNarrowsSpec)

/-- ITS FALSE NEIGHBOUR: 'it returns false'. Refute it at one input. -/
def matmulNarrowsWrong : ChangeSpec := { name := "matmulNarrows", fn := fun _ => fun
  | [d1, d2, d3] => { results := [.lit (.bool false)], args := [d1, d2, d3] }
  | _ => none }
def MatmulNarrowsWrongFalsely : Prop := matmulNarrowsRow.holds Try.pinned (OpenSpec.ofChange matmulNarrowsWrong)

/-- 'pelotonlaw04.MatmulCuts': WHATEVER THE INPUT: true; the input reads as it did. -/
def matmulCutsSpec : ChangeSpec := { name := "matmulCuts", fn := fun _ => fun
  | [d1, d2, d3] => { results := [.lit (.bool true)], args := [d1, d2, d3] }
  | _ => none }
def matmulCutsRow : OpenClaim := { program := "ytananmepljeldaa", sum := "f923e120a75fc4ff63b3061deae4ea9cecff28384b39eb19fd7fb408bbd279c0", func := "peloton/pelotonlaw04.MatmulCuts", spec := "matmulCuts", apart := false }
def MatmulCutsSaid : Prop := matmulCutsRow.holds Try.pinned (OpenSpec.ofChange matmulCutsSpec)

/-- ITS FALSE NEIGHBOUR: 'it returns false'. Refute it at one input. -/
def matmulCutsWrong : ChangeSpec := { name := "matmulCuts", fn := fun _ => fun
  | [d1, d2, d3] => { results := [.lit (.bool false)], args := [d1, d2, d3] }
  | _ => none }
def MatmulCutsWrongFalsely : Prop := matmulCutsRow.holds Try.pinned (OpenSpec.ofChange matmulCutsWrong)

/-- 'pelotonlaw04.MatmulGrids': WHATEVER THE INPUT: true; the input reads as it did. -/
def matmulGridsSpec : ChangeSpec := { name := "matmulGrids", fn := fun _ => fun
  | [d1, d2] => { results := [.lit (.bool true)], args := [d1, d2] }
  | _ => none }
def matmulGridsRow : OpenClaim := { program := "ytananmepljeldaa", sum := "f923e120a75fc4ff63b3061deae4ea9cecff28384b39eb19fd7fb408bbd279c0", func := "peloton/pelotonlaw04.MatmulGrids", spec := "matmulGrids", unfollowed := true, recurses := true, apart := false }
def MatmulGridsSaid : Prop := matmulGridsRow.holds Try.pinned (OpenSpec.ofChange matmulGridsSpec)

/-- ITS FALSE NEIGHBOUR: 'it returns false'. Refute it at one input. -/
def matmulGridsWrong : ChangeSpec := { name := "matmulGrids", fn := fun _ => fun
  | [d1, d2] => { results := [.lit (.bool false)], args := [d1, d2] }
  | _ => none }
def MatmulGridsWrongFalsely : Prop := matmulGridsRow.holds Try.pinned (OpenSpec.ofChange matmulGridsWrong)

/- THE SECOND FORM. 'bulk': how many values and letters a reading holds, each counted each time it is reached (what is shared counts as often as it is met; a slice's spare places count too). A statement '..UptoSaid' is the law's where the arguments, and the package variables that the reading takes, are together of bulk at most 1048576: NARROWER than '..Said'. Prove '..Said' where nothing that the law and all that it calls make is longer than what came in: it says more and counts as full. Else prove '..UptoSaid'. A law counts once. -/
mutual
def uptoBulk {H : Type} : DataW H → Nat
  | .lit (.string bytes) => bytes.length + 1
  | .lit _ => 1
  | .nil => 1
  | .ptr d => uptoBulk d + 1
  | .slice elems spare => uptoBulkAll elems + uptoBulkAll spare + 1
  | .agg parts => uptoBulkAll parts + 1
  | .iface _ d => uptoBulk d + 1
  | .map entries => uptoBulkEntries entries + 1
  | .held _ => 1
def uptoBulkAll {H : Type} : List (DataW H) → Nat
  | [] => 0
  | d :: r => uptoBulk d + uptoBulkAll r
def uptoBulkEntries {H : Type} : List (Lit × DataW H) → Nat
  | [] => 0
  | x :: r => uptoBulkEntry x + uptoBulkEntries r
def uptoBulkEntry {H : Type} : Lit × DataW H → Nat
  | (.string bytes, d) => bytes.length + uptoBulk d + 1
  | (_, d) => uptoBulk d + 1
 end
def uptoSmall : (H : Type) → List (DataW H) → Bool := fun _ ds => decide (uptoBulkAll ds ≤ 1048576)
def OpenSpec.upto (s : _root_.Go.ChangeSpec) : _root_.Go.OpenSpec := { _root_.Go.OpenSpec.ofChange s with cond := some uptoSmall }

/-- 'pelotonlaw04.MatmulSpans', WHERE WHAT IT READS IS OF BULK AT MOST 1048576: true; the input reads as it did. -/
def matmulSpansUptoRow : OpenClaim := { program := "ytananmepljeldaa", sum := "f923e120a75fc4ff63b3061deae4ea9cecff28384b39eb19fd7fb408bbd279c0", func := "peloton/pelotonlaw04.MatmulSpans", spec := "matmulSpans", apart := false, narrowed := true }
def MatmulSpansUptoSaid : Prop := matmulSpansUptoRow.holds Try.pinned (OpenSpec.upto matmulSpansSpec)

/-- 'pelotonlaw04.MatmulOne', WHERE WHAT IT READS IS OF BULK AT MOST 1048576: true; the input reads as it did. -/
def matmulOneUptoRow : OpenClaim := { program := "ytananmepljeldaa", sum := "f923e120a75fc4ff63b3061deae4ea9cecff28384b39eb19fd7fb408bbd279c0", func := "peloton/pelotonlaw04.MatmulOne", spec := "matmulOne", apart := false, narrowed := true }
def MatmulOneUptoSaid : Prop := matmulOneUptoRow.holds Try.pinned (OpenSpec.upto matmulOneSpec)

/-- 'pelotonlaw04.MatmulApplies', WHERE WHAT IT READS IS OF BULK AT MOST 1048576: true; the input reads as it did. -/
def matmulAppliesUptoRow : OpenClaim := { program := "ytananmepljeldaa", sum := "f923e120a75fc4ff63b3061deae4ea9cecff28384b39eb19fd7fb408bbd279c0", func := "peloton/pelotonlaw04.MatmulApplies", spec := "matmulApplies", unfollowed := true, recurses := true, apart := false, narrowed := true }
def MatmulAppliesUptoSaid : Prop := matmulAppliesUptoRow.holds Try.pinned (OpenSpec.upto matmulAppliesSpec)

/-- 'pelotonlaw04.MatmulParts', WHERE WHAT IT READS IS OF BULK AT MOST 1048576: true; the input reads as it did. -/
def matmulPartsUptoRow : OpenClaim := { program := "ytananmepljeldaa", sum := "f923e120a75fc4ff63b3061deae4ea9cecff28384b39eb19fd7fb408bbd279c0", func := "peloton/pelotonlaw04.MatmulParts", spec := "matmulParts", apart := false, narrowed := true }
def MatmulPartsUptoSaid : Prop := matmulPartsUptoRow.holds Try.pinned (OpenSpec.upto matmulPartsSpec)

/-- 'pelotonlaw04.MatmulNarrows', WHERE WHAT IT READS IS OF BULK AT MOST 1048576: true; the input reads as it did. -/
def matmulNarrowsUptoRow : OpenClaim := { program := "ytananmepljeldaa", sum := "f923e120a75fc4ff63b3061deae4ea9cecff28384b39eb19fd7fb408bbd279c0", func := "peloton/pelotonlaw04.MatmulNarrows", spec := "matmulNarrows", unfollowed := true, recurses := true, apart := false, narrowed := true }
def MatmulNarrowsUptoSaid : Prop := matmulNarrowsUptoRow.holds Try.pinned (OpenSpec.upto matmulNarrowsSpec)

/-- 'pelotonlaw04.MatmulCuts', WHERE WHAT IT READS IS OF BULK AT MOST 1048576: true; the input reads as it did. -/
def matmulCutsUptoRow : OpenClaim := { program := "ytananmepljeldaa", sum := "f923e120a75fc4ff63b3061deae4ea9cecff28384b39eb19fd7fb408bbd279c0", func := "peloton/pelotonlaw04.MatmulCuts", spec := "matmulCuts", apart := false, narrowed := true }
def MatmulCutsUptoSaid : Prop := matmulCutsUptoRow.holds Try.pinned (OpenSpec.upto matmulCutsSpec)

/-- 'pelotonlaw04.MatmulGrids', WHERE WHAT IT READS IS OF BULK AT MOST 1048576: true; the input reads as it did. -/
def matmulGridsUptoRow : OpenClaim := { program := "ytananmepljeldaa", sum := "f923e120a75fc4ff63b3061deae4ea9cecff28384b39eb19fd7fb408bbd279c0", func := "peloton/pelotonlaw04.MatmulGrids", spec := "matmulGrids", unfollowed := true, recurses := true, apart := false, narrowed := true }
def MatmulGridsUptoSaid : Prop := matmulGridsUptoRow.holds Try.pinned (OpenSpec.upto matmulGridsSpec)

end Rows
end Go.Proofs.Ytananmepljeldaa
