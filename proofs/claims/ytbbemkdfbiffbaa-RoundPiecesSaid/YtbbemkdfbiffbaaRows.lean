/-
  No cell of these rows narrows 'for every input' (looked for: loops, veiled, ifaces, maps, wideKeys, modest, calm, conditions, laid).
  DERIVED. THE GIVEN ROWS OF THIS SEAT. 9 by the template 'for every input the law returns true; each argument reads behind the call as it read before'; 0 by the template 'total and deterministic' (their statements: YtbbemkdfbiffbaaTotals.lean).
  GIVEN WITH THE SEED: the statements are not yours to turn. If you find one false, say at which input.
  Laid BY PROGRAM, IN A SANDBOX (cutbox-rows.mjs): the forced cells as the released guide's own fill.sh prints them over the translation 483817742ac5f69b… (all of the seat's roots in one cut). By AI agents, Wed Nov 11 2026. No macro, syntax, notation, axiom, sorry.
-/
import Derived.Test.YtbbemkdfbiffbaaChecked
import GoSem.Claim
import GoSem.ClaimJoined
import GoSem.ClaimMapViews
import Derived.JoinedTies
import Derived.KernelRfl
namespace Go.Proofs.Ytbbemkdfbiffbaa
/- THE CELL 'sum', in the pinned program and in every row, IS THE sha256 OF THE DUMP (.gsa) THAT YtbbemkdfbiffbaaProg.lean LOADS. Nothing in Lean hashes anything: it is a label: what it is worth is what the hold of that sum in a sandbox is worth. -/
noncomputable def Try.pinned : Pinned := { name := "ytbbemkdfbiffbaa", sum := "483817742ac5f69b26c6cd45ed167c47bf0b07b500fa3ade95b5d2fe07052ae3", checked := Try.checked }
namespace Rows
def none {H : Type} : Left H := { results := [], args := [] }

/-- 'pelotonlaw01.RoundShifts': WHATEVER THE INPUT: true; the input reads as it did. -/
def roundShiftsSpec : ChangeSpec := { name := "roundShifts", fn := fun _ => fun
  | [d1, d2] => { results := [.lit (.bool true)], args := [d1, d2] }
  | _ => none }
def roundShiftsRow : OpenClaim := { program := "ytbbemkdfbiffbaa", sum := "483817742ac5f69b26c6cd45ed167c47bf0b07b500fa3ade95b5d2fe07052ae3", func := "peloton/pelotonlaw01.RoundShifts", spec := "roundShifts", apart := false }
def RoundShiftsSaid : Prop := roundShiftsRow.holds Try.pinned (OpenSpec.ofChange roundShiftsSpec)

/-- ITS FALSE NEIGHBOUR: 'it returns false'. Refute it at one input. -/
def roundShiftsWrong : ChangeSpec := { name := "roundShifts", fn := fun _ => fun
  | [d1, d2] => { results := [.lit (.bool false)], args := [d1, d2] }
  | _ => none }
def RoundShiftsWrongFalsely : Prop := roundShiftsRow.holds Try.pinned (OpenSpec.ofChange roundShiftsWrong)

/-- 'pelotonlaw01.RoundHalves': WHATEVER THE INPUT: true; the input reads as it did. -/
def roundHalvesSpec : ChangeSpec := { name := "roundHalves", fn := fun _ => fun
  | [d1, d2] => { results := [.lit (.bool true)], args := [d1, d2] }
  | _ => none }
def roundHalvesRow : OpenClaim := { program := "ytbbemkdfbiffbaa", sum := "483817742ac5f69b26c6cd45ed167c47bf0b07b500fa3ade95b5d2fe07052ae3", func := "peloton/pelotonlaw01.RoundHalves", spec := "roundHalves", apart := false }
def RoundHalvesSaid : Prop := roundHalvesRow.holds Try.pinned (OpenSpec.ofChange roundHalvesSpec)

/-- ITS FALSE NEIGHBOUR: 'it returns false'. Refute it at one input. -/
def roundHalvesWrong : ChangeSpec := { name := "roundHalves", fn := fun _ => fun
  | [d1, d2] => { results := [.lit (.bool false)], args := [d1, d2] }
  | _ => none }
def RoundHalvesWrongFalsely : Prop := roundHalvesRow.holds Try.pinned (OpenSpec.ofChange roundHalvesWrong)

/-- 'pelotonlaw01.RoundEnds': WHATEVER THE INPUT: true; the input reads as it did. -/
def roundEndsSpec : ChangeSpec := { name := "roundEnds", fn := fun _ => fun
  | [d] => { results := [.lit (.bool true)], args := [d] }
  | _ => none }
def roundEndsRow : OpenClaim := { program := "ytbbemkdfbiffbaa", sum := "483817742ac5f69b26c6cd45ed167c47bf0b07b500fa3ade95b5d2fe07052ae3", func := "peloton/pelotonlaw01.RoundEnds", spec := "roundEnds", apart := false }
def RoundEndsSaid : Prop := roundEndsRow.holds Try.pinned (OpenSpec.ofChange roundEndsSpec)

/-- ITS FALSE NEIGHBOUR: 'it returns false'. Refute it at one input. -/
def roundEndsWrong : ChangeSpec := { name := "roundEnds", fn := fun _ => fun
  | [d] => { results := [.lit (.bool false)], args := [d] }
  | _ => none }
def RoundEndsWrongFalsely : Prop := roundEndsRow.holds Try.pinned (OpenSpec.ofChange roundEndsWrong)

/-- 'pelotonlaw01.RoundOrders': WHATEVER THE INPUT: true; the input reads as it did. -/
def roundOrdersSpec : ChangeSpec := { name := "roundOrders", fn := fun _ => fun
  | [d1, d2, d3] => { results := [.lit (.bool true)], args := [d1, d2, d3] }
  | _ => none }
def roundOrdersRow : OpenClaim := { program := "ytbbemkdfbiffbaa", sum := "483817742ac5f69b26c6cd45ed167c47bf0b07b500fa3ade95b5d2fe07052ae3", func := "peloton/pelotonlaw01.RoundOrders", spec := "roundOrders", apart := false }
def RoundOrdersSaid : Prop := roundOrdersRow.holds Try.pinned (OpenSpec.ofChange roundOrdersSpec)

/-- ITS FALSE NEIGHBOUR: 'it returns false'. Refute it at one input. -/
def roundOrdersWrong : ChangeSpec := { name := "roundOrders", fn := fun _ => fun
  | [d1, d2, d3] => { results := [.lit (.bool false)], args := [d1, d2, d3] }
  | _ => none }
def RoundOrdersWrongFalsely : Prop := roundOrdersRow.holds Try.pinned (OpenSpec.ofChange roundOrdersWrong)

/-- 'pelotonlaw01.RoundWraps': WHATEVER THE INPUT: true; the input reads as it did. -/
def roundWrapsSpec : ChangeSpec := { name := "roundWraps", fn := fun _ => fun
  | [d1, d2] => { results := [.lit (.bool true)], args := [d1, d2] }
  | _ => none }
def roundWrapsRow : OpenClaim := { program := "ytbbemkdfbiffbaa", sum := "483817742ac5f69b26c6cd45ed167c47bf0b07b500fa3ade95b5d2fe07052ae3", func := "peloton/pelotonlaw01.RoundWraps", spec := "roundWraps", apart := false }
def RoundWrapsSaid : Prop := roundWrapsRow.holds Try.pinned (OpenSpec.ofChange roundWrapsSpec)

/-- ITS FALSE NEIGHBOUR: 'it returns false'. Refute it at one input. -/
def roundWrapsWrong : ChangeSpec := { name := "roundWraps", fn := fun _ => fun
  | [d1, d2] => { results := [.lit (.bool false)], args := [d1, d2] }
  | _ => none }
def RoundWrapsWrongFalsely : Prop := roundWrapsRow.holds Try.pinned (OpenSpec.ofChange roundWrapsWrong)

/-- 'pelotonlaw01.RoundDots': WHATEVER THE INPUT: true; the input reads as it did. -/
def roundDotsSpec : ChangeSpec := { name := "roundDots", fn := fun _ => fun
  | [d1, d2, d3] => { results := [.lit (.bool true)], args := [d1, d2, d3] }
  | _ => none }
def roundDotsRow : OpenClaim := { program := "ytbbemkdfbiffbaa", sum := "483817742ac5f69b26c6cd45ed167c47bf0b07b500fa3ade95b5d2fe07052ae3", func := "peloton/pelotonlaw01.RoundDots", spec := "roundDots", apart := false }
def RoundDotsSaid : Prop := roundDotsRow.holds Try.pinned (OpenSpec.ofChange roundDotsSpec)

/-- ITS FALSE NEIGHBOUR: 'it returns false'. Refute it at one input. -/
def roundDotsWrong : ChangeSpec := { name := "roundDots", fn := fun _ => fun
  | [d1, d2, d3] => { results := [.lit (.bool false)], args := [d1, d2, d3] }
  | _ => none }
def RoundDotsWrongFalsely : Prop := roundDotsRow.holds Try.pinned (OpenSpec.ofChange roundDotsWrong)

/-- 'pelotonlaw01.RoundGroups': WHATEVER THE INPUT: true; the input reads as it did. -/
def roundGroupsSpec : ChangeSpec := { name := "roundGroups", fn := fun _ => fun
  | [d1, d2, d3] => { results := [.lit (.bool true)], args := [d1, d2, d3] }
  | _ => none }
def roundGroupsRow : OpenClaim := { program := "ytbbemkdfbiffbaa", sum := "483817742ac5f69b26c6cd45ed167c47bf0b07b500fa3ade95b5d2fe07052ae3", func := "peloton/pelotonlaw01.RoundGroups", spec := "roundGroups", apart := false }
def RoundGroupsSaid : Prop := roundGroupsRow.holds Try.pinned (OpenSpec.ofChange roundGroupsSpec)

/-- ITS FALSE NEIGHBOUR: 'it returns false'. Refute it at one input. -/
def roundGroupsWrong : ChangeSpec := { name := "roundGroups", fn := fun _ => fun
  | [d1, d2, d3] => { results := [.lit (.bool false)], args := [d1, d2, d3] }
  | _ => none }
def RoundGroupsWrongFalsely : Prop := roundGroupsRow.holds Try.pinned (OpenSpec.ofChange roundGroupsWrong)

/-- 'pelotonlaw01.RoundScales': WHATEVER THE INPUT: true; the input reads as it did. -/
def roundScalesSpec : ChangeSpec := { name := "roundScales", fn := fun _ => fun
  | [d1, d2, d3] => { results := [.lit (.bool true)], args := [d1, d2, d3] }
  | _ => none }
def roundScalesRow : OpenClaim := { program := "ytbbemkdfbiffbaa", sum := "483817742ac5f69b26c6cd45ed167c47bf0b07b500fa3ade95b5d2fe07052ae3", func := "peloton/pelotonlaw01.RoundScales", spec := "roundScales", apart := false }
def RoundScalesSaid : Prop := roundScalesRow.holds Try.pinned (OpenSpec.ofChange roundScalesSpec)

/-- ITS FALSE NEIGHBOUR: 'it returns false'. Refute it at one input. -/
def roundScalesWrong : ChangeSpec := { name := "roundScales", fn := fun _ => fun
  | [d1, d2, d3] => { results := [.lit (.bool false)], args := [d1, d2, d3] }
  | _ => none }
def RoundScalesWrongFalsely : Prop := roundScalesRow.holds Try.pinned (OpenSpec.ofChange roundScalesWrong)

/-- 'pelotonlaw01.RoundPieces': WHATEVER THE INPUT: true; the input reads as it did. -/
def roundPiecesSpec : ChangeSpec := { name := "roundPieces", fn := fun _ => fun
  | [d1, d2, d3] => { results := [.lit (.bool true)], args := [d1, d2, d3] }
  | _ => none }
def roundPiecesRow : OpenClaim := { program := "ytbbemkdfbiffbaa", sum := "483817742ac5f69b26c6cd45ed167c47bf0b07b500fa3ade95b5d2fe07052ae3", func := "peloton/pelotonlaw01.RoundPieces", spec := "roundPieces", apart := false }
def RoundPiecesSaid : Prop := roundPiecesRow.holds Try.pinned (OpenSpec.ofChange roundPiecesSpec)

/-- ITS FALSE NEIGHBOUR: 'it returns false'. Refute it at one input. -/
def roundPiecesWrong : ChangeSpec := { name := "roundPieces", fn := fun _ => fun
  | [d1, d2, d3] => { results := [.lit (.bool false)], args := [d1, d2, d3] }
  | _ => none }
def RoundPiecesWrongFalsely : Prop := roundPiecesRow.holds Try.pinned (OpenSpec.ofChange roundPiecesWrong)

/- THE SECOND FORM. 'bulk': how many values and letters a reading holds, each counted each time it is reached (what is shared counts as often as it is met; a slice's spare places count too). A statement '..UptoSaid' is the law's where the arguments, and the package variables that the reading takes, are together of bulk at most 1048576: NARROWER than '..Said'. Prove '..Said' where nothing that the law and all that it calls make is longer than what came in: it says more and counts as full. Else prove '..UptoSaid'. A law counts once. -/
mutual
def uptoBulk {H : Type} : DataW H → Nat
  | .lit (.string bytes) => bytes.length + 1
  | .lit _ => 1
  | .nil => 1
  | .ptr d => uptoBulk d + 1
  | .slice elems spare => uptoBulkAll elems + uptoBulkAll spare + 1
  | .agg parts => uptoBulkAll parts + 1
  | .iface _ d => uptoBulk d + 1
  | .map entries => uptoBulkEntries entries + 1
  | .held _ => 1
def uptoBulkAll {H : Type} : List (DataW H) → Nat
  | [] => 0
  | d :: r => uptoBulk d + uptoBulkAll r
def uptoBulkEntries {H : Type} : List (Lit × DataW H) → Nat
  | [] => 0
  | x :: r => uptoBulkEntry x + uptoBulkEntries r
def uptoBulkEntry {H : Type} : Lit × DataW H → Nat
  | (.string bytes, d) => bytes.length + uptoBulk d + 1
  | (_, d) => uptoBulk d + 1
 end
def uptoSmall : (H : Type) → List (DataW H) → Bool := fun _ ds => decide (uptoBulkAll ds ≤ 1048576)
def OpenSpec.upto (s : _root_.Go.ChangeSpec) : _root_.Go.OpenSpec := { _root_.Go.OpenSpec.ofChange s with cond := some uptoSmall }

/-- 'pelotonlaw01.RoundShifts', WHERE WHAT IT READS IS OF BULK AT MOST 1048576: true; the input reads as it did. -/
def roundShiftsUptoRow : OpenClaim := { program := "ytbbemkdfbiffbaa", sum := "483817742ac5f69b26c6cd45ed167c47bf0b07b500fa3ade95b5d2fe07052ae3", func := "peloton/pelotonlaw01.RoundShifts", spec := "roundShifts", apart := false, narrowed := true }
def RoundShiftsUptoSaid : Prop := roundShiftsUptoRow.holds Try.pinned (OpenSpec.upto roundShiftsSpec)

/-- 'pelotonlaw01.RoundHalves', WHERE WHAT IT READS IS OF BULK AT MOST 1048576: true; the input reads as it did. -/
def roundHalvesUptoRow : OpenClaim := { program := "ytbbemkdfbiffbaa", sum := "483817742ac5f69b26c6cd45ed167c47bf0b07b500fa3ade95b5d2fe07052ae3", func := "peloton/pelotonlaw01.RoundHalves", spec := "roundHalves", apart := false, narrowed := true }
def RoundHalvesUptoSaid : Prop := roundHalvesUptoRow.holds Try.pinned (OpenSpec.upto roundHalvesSpec)

/-- 'pelotonlaw01.RoundEnds', WHERE WHAT IT READS IS OF BULK AT MOST 1048576: true; the input reads as it did. -/
def roundEndsUptoRow : OpenClaim := { program := "ytbbemkdfbiffbaa", sum := "483817742ac5f69b26c6cd45ed167c47bf0b07b500fa3ade95b5d2fe07052ae3", func := "peloton/pelotonlaw01.RoundEnds", spec := "roundEnds", apart := false, narrowed := true }
def RoundEndsUptoSaid : Prop := roundEndsUptoRow.holds Try.pinned (OpenSpec.upto roundEndsSpec)

/-- 'pelotonlaw01.RoundOrders', WHERE WHAT IT READS IS OF BULK AT MOST 1048576: true; the input reads as it did. -/
def roundOrdersUptoRow : OpenClaim := { program := "ytbbemkdfbiffbaa", sum := "483817742ac5f69b26c6cd45ed167c47bf0b07b500fa3ade95b5d2fe07052ae3", func := "peloton/pelotonlaw01.RoundOrders", spec := "roundOrders", apart := false, narrowed := true }
def RoundOrdersUptoSaid : Prop := roundOrdersUptoRow.holds Try.pinned (OpenSpec.upto roundOrdersSpec)

/-- 'pelotonlaw01.RoundWraps', WHERE WHAT IT READS IS OF BULK AT MOST 1048576: true; the input reads as it did. -/
def roundWrapsUptoRow : OpenClaim := { program := "ytbbemkdfbiffbaa", sum := "483817742ac5f69b26c6cd45ed167c47bf0b07b500fa3ade95b5d2fe07052ae3", func := "peloton/pelotonlaw01.RoundWraps", spec := "roundWraps", apart := false, narrowed := true }
def RoundWrapsUptoSaid : Prop := roundWrapsUptoRow.holds Try.pinned (OpenSpec.upto roundWrapsSpec)

/-- 'pelotonlaw01.RoundDots', WHERE WHAT IT READS IS OF BULK AT MOST 1048576: true; the input reads as it did. -/
def roundDotsUptoRow : OpenClaim := { program := "ytbbemkdfbiffbaa", sum := "483817742ac5f69b26c6cd45ed167c47bf0b07b500fa3ade95b5d2fe07052ae3", func := "peloton/pelotonlaw01.RoundDots", spec := "roundDots", apart := false, narrowed := true }
def RoundDotsUptoSaid : Prop := roundDotsUptoRow.holds Try.pinned (OpenSpec.upto roundDotsSpec)

/-- 'pelotonlaw01.RoundGroups', WHERE WHAT IT READS IS OF BULK AT MOST 1048576: true; the input reads as it did. -/
def roundGroupsUptoRow : OpenClaim := { program := "ytbbemkdfbiffbaa", sum := "483817742ac5f69b26c6cd45ed167c47bf0b07b500fa3ade95b5d2fe07052ae3", func := "peloton/pelotonlaw01.RoundGroups", spec := "roundGroups", apart := false, narrowed := true }
def RoundGroupsUptoSaid : Prop := roundGroupsUptoRow.holds Try.pinned (OpenSpec.upto roundGroupsSpec)

/-- 'pelotonlaw01.RoundScales', WHERE WHAT IT READS IS OF BULK AT MOST 1048576: true; the input reads as it did. -/
def roundScalesUptoRow : OpenClaim := { program := "ytbbemkdfbiffbaa", sum := "483817742ac5f69b26c6cd45ed167c47bf0b07b500fa3ade95b5d2fe07052ae3", func := "peloton/pelotonlaw01.RoundScales", spec := "roundScales", apart := false, narrowed := true }
def RoundScalesUptoSaid : Prop := roundScalesUptoRow.holds Try.pinned (OpenSpec.upto roundScalesSpec)

/-- 'pelotonlaw01.RoundPieces', WHERE WHAT IT READS IS OF BULK AT MOST 1048576: true; the input reads as it did. -/
def roundPiecesUptoRow : OpenClaim := { program := "ytbbemkdfbiffbaa", sum := "483817742ac5f69b26c6cd45ed167c47bf0b07b500fa3ade95b5d2fe07052ae3", func := "peloton/pelotonlaw01.RoundPieces", spec := "roundPieces", apart := false, narrowed := true }
def RoundPiecesUptoSaid : Prop := roundPiecesUptoRow.holds Try.pinned (OpenSpec.upto roundPiecesSpec)

end Rows
end Go.Proofs.Ytbbemkdfbiffbaa
