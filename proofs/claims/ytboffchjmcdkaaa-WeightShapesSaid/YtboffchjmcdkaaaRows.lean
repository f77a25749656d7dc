/-
  No cell of these rows narrows 'for every input' (looked for: loops, veiled, ifaces, maps, wideKeys, modest, calm, conditions, laid).
  DERIVED. THE GIVEN ROWS OF THIS SEAT. 7 by the template 'for every input the law returns true; each argument reads behind the call as it read before'; 0 by the template 'total and deterministic' (their statements: YtboffchjmcdkaaaTotals.lean).
  GIVEN WITH THE SEED: the statements are not yours to turn. If you find one false, say at which input.
  Laid BY PROGRAM, IN A SANDBOX (cutbox-rows.mjs): the forced cells as the released guide's own fill.sh prints them over the translation ad8fc5bba55db90b… (all of the seat's roots in one cut). By AI agents, Wed Nov 11 2026. No macro, syntax, notation, axiom, sorry.
-/
import Derived.Test.YtboffchjmcdkaaaChecked
import GoSem.Claim
import GoSem.ClaimJoined
import GoSem.ClaimMapViews
import Derived.JoinedTies
import Derived.KernelRfl
namespace Go.Proofs.Ytboffchjmcdkaaa
/- THE CELL 'sum', in the pinned program and in every row, IS THE sha256 OF THE DUMP (.gsa) THAT YtboffchjmcdkaaaProg.lean LOADS. Nothing in Lean hashes anything: it is a label: what it is worth is what the hold of that sum in a sandbox is worth. -/
noncomputable def Try.pinned : Pinned := { name := "ytboffchjmcdkaaa", sum := "ad8fc5bba55db90b6f40ffa146f038625efdd67c3be14bb58e14f64401c50a47", checked := Try.checked }
namespace Rows
def none {H : Type} : Left H := { results := [], args := [] }

/-- 'pelotonlaw07.WeightSums': WHATEVER THE INPUT: true; the input reads as it did. -/
def weightSumsSpec : ChangeSpec := { name := "weightSums", fn := fun _ => fun
  | [d] => { results := [.lit (.bool true)], args := [d] }
  | _ => none }
def weightSumsRow : OpenClaim := { program := "ytboffchjmcdkaaa", sum := "ad8fc5bba55db90b6f40ffa146f038625efdd67c3be14bb58e14f64401c50a47", func := "peloton/pelotonlaw07.WeightSums", spec := "weightSums", apart := false }
def WeightSumsSaid : Prop := weightSumsRow.holds Try.pinned (OpenSpec.ofChange weightSumsSpec)

/-- ITS FALSE NEIGHBOUR: 'it returns false'. Refute it at one input. -/
def weightSumsWrong : ChangeSpec := { name := "weightSums", fn := fun _ => fun
  | [d] => { results := [.lit (.bool false)], args := [d] }
  | _ => none }
def WeightSumsWrongFalsely : Prop := weightSumsRow.holds Try.pinned (OpenSpec.ofChange weightSumsWrong)

/-- 'pelotonlaw07.WeightShapes': WHATEVER THE INPUT: true; the input reads as it did. -/
def weightShapesSpec : ChangeSpec := { name := "weightShapes", fn := fun _ => fun
  | [d] => { results := [.lit (.bool true)], args := [d] }
  | _ => none }
def weightShapesRow : OpenClaim := { program := "ytboffchjmcdkaaa", sum := "ad8fc5bba55db90b6f40ffa146f038625efdd67c3be14bb58e14f64401c50a47", func := "peloton/pelotonlaw07.WeightShapes", spec := "weightShapes", apart := false }
def WeightShapesSaid : Prop := weightShapesRow.holds Try.pinned (OpenSpec.ofChange weightShapesSpec)

/-- ITS FALSE NEIGHBOUR: 'it returns false'. Refute it at one input. -/
def weightShapesWrong : ChangeSpec := { name := "weightShapes", fn := fun _ => fun
  | [d] => { results := [.lit (.bool false)], args := [d] }
  | _ => none }
def WeightShapesWrongFalsely : Prop := weightShapesRow.holds Try.pinned (OpenSpec.ofChange weightShapesWrong)

/-- 'pelotonlaw07.WeightFaults': WHATEVER THE INPUT: true; the input reads as it did. -/
def weightFaultsSpec : ChangeSpec := { name := "weightFaults", fn := fun _ => fun
  | [d1, d2, d3] => { results := [.lit (.bool true)], args := [d1, d2, d3] }
  | _ => none }
def weightFaultsRow : OpenClaim := { program := "ytboffchjmcdkaaa", sum := "ad8fc5bba55db90b6f40ffa146f038625efdd67c3be14bb58e14f64401c50a47", func := "peloton/pelotonlaw07.WeightFaults", spec := "weightFaults", unfollowed := true, recurses := true, apart := false }
def WeightFaultsSaid : Prop := weightFaultsRow.holds Try.pinned (OpenSpec.ofChange weightFaultsSpec)

/-- ITS FALSE NEIGHBOUR: 'it returns false'. Refute it at one input. -/
def weightFaultsWrong : ChangeSpec := { name := "weightFaults", fn := fun _ => fun
  | [d1, d2, d3] => { results := [.lit (.bool false)], args := [d1, d2, d3] }
  | _ => none }
def WeightFaultsWrongFalsely : Prop := weightFaultsRow.holds Try.pinned (OpenSpec.ofChange weightFaultsWrong)

/-- 'pelotonlaw07.WeightGrows': WHATEVER THE INPUT: true; the input reads as it did. -/
def weightGrowsSpec : ChangeSpec := { name := "weightGrows", fn := fun _ => fun
  | [d1, d2, d3] => { results := [.lit (.bool true)], args := [d1, d2, d3] }
  | _ => none }
def weightGrowsRow : OpenClaim := { program := "ytboffchjmcdkaaa", sum := "ad8fc5bba55db90b6f40ffa146f038625efdd67c3be14bb58e14f64401c50a47", func := "peloton/pelotonlaw07.WeightGrows", spec := "weightGrows", unfollowed := true, recurses := true, apart := false }
def WeightGrowsSaid : Prop := weightGrowsRow.holds Try.pinned (OpenSpec.ofChange weightGrowsSpec)

/-- ITS FALSE NEIGHBOUR: 'it returns false'. Refute it at one input. -/
def weightGrowsWrong : ChangeSpec := { name := "weightGrows", fn := fun _ => fun
  | [d1, d2, d3] => { results := [.lit (.bool false)], args := [d1, d2, d3] }
  | _ => none }
def WeightGrowsWrongFalsely : Prop := weightGrowsRow.holds Try.pinned (OpenSpec.ofChange weightGrowsWrong)

/-- 'pelotonlaw07.WeightWhole': WHATEVER THE INPUT: true; the input reads as it did. -/
def weightWholeSpec : ChangeSpec := { name := "weightWhole", fn := fun _ => fun
  | [d1, d2, d3] => { results := [.lit (.bool true)], args := [d1, d2, d3] }
  | _ => none }
def weightWholeRow : OpenClaim := { program := "ytboffchjmcdkaaa", sum := "ad8fc5bba55db90b6f40ffa146f038625efdd67c3be14bb58e14f64401c50a47", func := "peloton/pelotonlaw07.WeightWhole", spec := "weightWhole", unfollowed := true, recurses := true, apart := false }
def WeightWholeSaid : Prop := weightWholeRow.holds Try.pinned (OpenSpec.ofChange weightWholeSpec)

/-- ITS FALSE NEIGHBOUR: 'it returns false'. Refute it at one input. -/
def weightWholeWrong : ChangeSpec := { name := "weightWhole", fn := fun _ => fun
  | [d1, d2, d3] => { results := [.lit (.bool false)], args := [d1, d2, d3] }
  | _ => none }
def WeightWholeWrongFalsely : Prop := weightWholeRow.holds Try.pinned (OpenSpec.ofChange weightWholeWrong)

/-- 'pelotonlaw07.WeightBack': WHATEVER THE INPUT: true; the input reads as it did. -/
def weightBackSpec : ChangeSpec := { name := "weightBack", fn := fun _ => fun
  | [d1, d2, d3] => { results := [.lit (.bool true)], args := [d1, d2, d3] }
  | _ => none }
def weightBackRow : OpenClaim := { program := "ytboffchjmcdkaaa", sum := "ad8fc5bba55db90b6f40ffa146f038625efdd67c3be14bb58e14f64401c50a47", func := "peloton/pelotonlaw07.WeightBack", spec := "weightBack", unfollowed := true, recurses := true, apart := false }
def WeightBackSaid : Prop := weightBackRow.holds Try.pinned (OpenSpec.ofChange weightBackSpec)

/-- ITS FALSE NEIGHBOUR: 'it returns false'. Refute it at one input. -/
def weightBackWrong : ChangeSpec := { name := "weightBack", fn := fun _ => fun
  | [d1, d2, d3] => { results := [.lit (.bool false)], args := [d1, d2, d3] }
  | _ => none }
def WeightBackWrongFalsely : Prop := weightBackRow.holds Try.pinned (OpenSpec.ofChange weightBackWrong)

/-- 'pelotonlaw07.WeightApart': WHATEVER THE INPUT: true; the input reads as it did. -/
def weightApartSpec : ChangeSpec := { name := "weightApart", fn := fun _ => fun
  | [d1, d2, d3] => { results := [.lit (.bool true)], args := [d1, d2, d3] }
  | _ => none }
def weightApartRow : OpenClaim := { program := "ytboffchjmcdkaaa", sum := "ad8fc5bba55db90b6f40ffa146f038625efdd67c3be14bb58e14f64401c50a47", func := "peloton/pelotonlaw07.WeightApart", spec := "weightApart", unfollowed := true, recurses := true, apart := false }
def WeightApartSaid : Prop := weightApartRow.holds Try.pinned (OpenSpec.ofChange weightApartSpec)

/-- ITS FALSE NEIGHBOUR: 'it returns false'. Refute it at one input. -/
def weightApartWrong : ChangeSpec := { name := "weightApart", fn := fun _ => fun
  | [d1, d2, d3] => { results := [.lit (.bool false)], args := [d1, d2, d3] }
  | _ => none }
def WeightApartWrongFalsely : Prop := weightApartRow.holds Try.pinned (OpenSpec.ofChange weightApartWrong)

/- THE SECOND FORM. 'bulk': how many values and letters a reading holds, each counted each time it is reached (what is shared counts as often as it is met; a slice's spare places count too). A statement '..UptoSaid' is the law's where the arguments, and the package variables that the reading takes, are together of bulk at most 1048576: NARROWER than '..Said'. Prove '..Said' where nothing that the law and all that it calls make is longer than what came in: it says more and counts as full. Else prove '..UptoSaid'. A law counts once. -/
mutual
def uptoBulk {H : Type} : DataW H → Nat
  | .lit (.string bytes) => bytes.length + 1
  | .lit _ => 1
  | .nil => 1
  | .ptr d => uptoBulk d + 1
  | .slice elems spare => uptoBulkAll elems + uptoBulkAll spare + 1
  | .agg parts => uptoBulkAll parts + 1
  | .iface _ d => uptoBulk d + 1
  | .map entries => uptoBulkEntries entries + 1
  | .held _ => 1
def uptoBulkAll {H : Type} : List (DataW H) → Nat
  | [] => 0
  | d :: r => uptoBulk d + uptoBulkAll r
def uptoBulkEntries {H : Type} : List (Lit × DataW H) → Nat
  | [] => 0
  | x :: r => uptoBulkEntry x + uptoBulkEntries r
def uptoBulkEntry {H : Type} : Lit × DataW H → Nat
  | (.string bytes, d) => bytes.length + uptoBulk d + 1
  | (_, d) => uptoBulk d + 1
 end
def uptoSmall : (H : Type) → List (DataW H) → Bool := fun _ ds => decide (uptoBulkAll ds ≤ 1048576)
def OpenSpec.upto (s : _root_.Go.ChangeSpec) : _root_.Go.OpenSpec := { _root_.Go.OpenSpec.ofChange s with cond := some uptoSmall }

/-- 'pelotonlaw07.WeightSums', WHERE WHAT IT READS IS OF BULK AT MOST 1048576: true; the input reads as it did. -/
def weightSumsUptoRow : OpenClaim := { program := "ytboffchjmcdkaaa", sum := "ad8fc5bba55db90b6f40ffa146f038625efdd67c3be14bb58e14f64401c50a47", func := "peloton/pelotonlaw07.WeightSums", spec := "weightSums", apart := false, narrowed := true }
def WeightSumsUptoSaid : Prop := weightSumsUptoRow.holds Try.pinned (OpenSpec.upto weightSumsSpec)

/-- 'pelotonlaw07.WeightShapes', WHERE WHAT IT READS IS OF BULK AT MOST 1048576: true; the input reads as it did. -/
def weightShapesUptoRow : OpenClaim := { program := "ytboffchjmcdkaaa", sum := "ad8fc5bba55db90b6f40ffa146f038625efdd67c3be14bb58e14f64401c50a47", func := "peloton/pelotonlaw07.WeightShapes", spec := "weightShapes", apart := false, narrowed := true }
def WeightShapesUptoSaid : Prop := weightShapesUptoRow.holds Try.pinned (OpenSpec.upto weightShapesSpec)

/-- 'pelotonlaw07.WeightFaults', WHERE WHAT IT READS IS OF BULK AT MOST 1048576: true; the input reads as it did. -/
def weightFaultsUptoRow : OpenClaim := { program := "ytboffchjmcdkaaa", sum := "ad8fc5bba55db90b6f40ffa146f038625efdd67c3be14bb58e14f64401c50a47", func := "peloton/pelotonlaw07.WeightFaults", spec := "weightFaults", unfollowed := true, recurses := true, apart := false, narrowed := true }
def WeightFaultsUptoSaid : Prop := weightFaultsUptoRow.holds Try.pinned (OpenSpec.upto weightFaultsSpec)

/-- 'pelotonlaw07.WeightGrows', WHERE WHAT IT READS IS OF BULK AT MOST 1048576: true; the input reads as it did. -/
def weightGrowsUptoRow : OpenClaim := { program := "ytboffchjmcdkaaa", sum := "ad8fc5bba55db90b6f40ffa146f038625efdd67c3be14bb58e14f64401c50a47", func := "peloton/pelotonlaw07.WeightGrows", spec := "weightGrows", unfollowed := true, recurses := true, apart := false, narrowed := true }
def WeightGrowsUptoSaid : Prop := weightGrowsUptoRow.holds Try.pinned (OpenSpec.upto weightGrowsSpec)

/-- 'pelotonlaw07.WeightWhole', WHERE WHAT IT READS IS OF BULK AT MOST 1048576: true; the input reads as it did. -/
def weightWholeUptoRow : OpenClaim := { program := "ytboffchjmcdkaaa", sum := "ad8fc5bba55db90b6f40ffa146f038625efdd67c3be14bb58e14f64401c50a47", func := "peloton/pelotonlaw07.WeightWhole", spec := "weightWhole", unfollowed := true, recurses := true, apart := false, narrowed := true }
def WeightWholeUptoSaid : Prop := weightWholeUptoRow.holds Try.pinned (OpenSpec.upto weightWholeSpec)

/-- 'pelotonlaw07.WeightBack', WHERE WHAT IT READS IS OF BULK AT MOST 1048576: true; the input reads as it did. -/
def weightBackUptoRow : OpenClaim := { program := "ytboffchjmcdkaaa", sum := "ad8fc5bba55db90b6f40ffa146f038625efdd67c3be14bb58e14f64401c50a47", func := "peloton/pelotonlaw07.WeightBack", spec := "weightBack", unfollowed := true, recurses := true, apart := false, narrowed := true }
def WeightBackUptoSaid : Prop := weightBackUptoRow.holds Try.pinned (OpenSpec.upto weightBackSpec)

/-- 'pelotonlaw07.WeightApart', WHERE WHAT IT READS IS OF BULK AT MOST 1048576: true; the input reads as it did. -/
def weightApartUptoRow : OpenClaim := { program := "ytboffchjmcdkaaa", sum := "ad8fc5bba55db90b6f40ffa146f038625efdd67c3be14bb58e14f64401c50a47", func := "peloton/pelotonlaw07.WeightApart", spec := "weightApart", unfollowed := true, recurses := true, apart := false, narrowed := true }
def WeightApartUptoSaid : Prop := weightApartUptoRow.holds Try.pinned (OpenSpec.upto weightApartSpec)

end Rows
end Go.Proofs.Ytboffchjmcdkaaa
