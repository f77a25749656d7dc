/-
  No cell of these rows narrows 'for every input' (looked for: loops, veiled, ifaces, maps, wideKeys, modest, calm, conditions, laid).
  DERIVED. THE GIVEN ROWS OF THIS SEAT. 5 by the template 'for every input the law returns true; each argument reads behind the call as it read before'; 0 by the template 'total and deterministic' (their statements: YtplndicghohpbaaTotals.lean).
  GIVEN WITH THE SEED: the statements are not yours to turn. If you find one false, say at which input.
  Laid BY PROGRAM, IN A SANDBOX (cutbox-rows.mjs): the forced cells as the released guide's own fill.sh prints them over the translation dc6022d715046753… (all of the seat's roots in one cut). By AI agents, Wed Nov 11 2026. No macro, syntax, notation, axiom, sorry.
-/
import Derived.Test.YtplndicghohpbaaChecked
import GoSem.Claim
import GoSem.ClaimJoined
import GoSem.ClaimMapViews
import Derived.JoinedTies
import Derived.KernelRfl
namespace Go.Proofs.Ytplndicghohpbaa
/- THE CELL 'sum', in the pinned program and in every row, IS THE sha256 OF THE DUMP (.gsa) THAT YtplndicghohpbaaProg.lean LOADS. Nothing in Lean hashes anything: it is a label: what it is worth is what the hold of that sum in a sandbox is worth. -/
noncomputable def Try.pinned : Pinned := { name := "ytplndicghohpbaa", sum := "dc6022d715046753a047ca9fa2ae54a317393b6be890c5bfe28b22659b42a6d0", checked := Try.checked }
namespace Rows
def none {H : Type} : Left H := { results := [], args := [] }

/-- 'pelotonlaw06.RopeSines': WHATEVER THE INPUT: true; the input reads as it did. -/
def ropeSinesSpec : ChangeSpec := { name := "ropeSines", fn := fun _ => fun
  | [d1, d2, d3] => { results := [.lit (.bool true)], args := [d1, d2, d3] }
  | _ => none }
def ropeSinesRow : OpenClaim := { program := "ytplndicghohpbaa", sum := "dc6022d715046753a047ca9fa2ae54a317393b6be890c5bfe28b22659b42a6d0", func := "peloton/pelotonlaw06.RopeSines", spec := "ropeSines", plainKeys := false, apart := false }
def RopeSinesSaid : Prop := ropeSinesRow.holds Try.pinned (OpenSpec.ofChange ropeSinesSpec)

/-- ITS FALSE NEIGHBOUR: 'it returns false'. Refute it at one input. -/
def ropeSinesWrong : ChangeSpec := { name := "ropeSines", fn := fun _ => fun
  | [d1, d2, d3] => { results := [.lit (.bool false)], args := [d1, d2, d3] }
  | _ => none }
def RopeSinesWrongFalsely : Prop := ropeSinesRow.holds Try.pinned (OpenSpec.ofChange ropeSinesWrong)

/-- 'pelotonlaw06.RopeTurns': WHATEVER THE INPUT: true; the input reads as it did. -/
def ropeTurnsSpec : ChangeSpec := { name := "ropeTurns", fn := fun _ => fun
  | [d1, d2] => { results := [.lit (.bool true)], args := [d1, d2] }
  | _ => none }
def ropeTurnsRow : OpenClaim := { program := "ytplndicghohpbaa", sum := "dc6022d715046753a047ca9fa2ae54a317393b6be890c5bfe28b22659b42a6d0", func := "peloton/pelotonlaw06.RopeTurns", spec := "ropeTurns", plainKeys := false, apart := false }
def RopeTurnsSaid : Prop := ropeTurnsRow.holds Try.pinned (OpenSpec.ofChange ropeTurnsSpec)

/-- ITS FALSE NEIGHBOUR: 'it returns false'. Refute it at one input. -/
def ropeTurnsWrong : ChangeSpec := { name := "ropeTurns", fn := fun _ => fun
  | [d1, d2] => { results := [.lit (.bool false)], args := [d1, d2] }
  | _ => none }
def RopeTurnsWrongFalsely : Prop := ropeTurnsRow.holds Try.pinned (OpenSpec.ofChange ropeTurnsWrong)

/-- 'pelotonlaw06.RopeCircles': WHATEVER THE INPUT: true; the input reads as it did. -/
def ropeCirclesSpec : ChangeSpec := { name := "ropeCircles", fn := fun _ => fun
  | [d1, d2] => { results := [.lit (.bool true)], args := [d1, d2] }
  | _ => none }
def ropeCirclesRow : OpenClaim := { program := "ytplndicghohpbaa", sum := "dc6022d715046753a047ca9fa2ae54a317393b6be890c5bfe28b22659b42a6d0", func := "peloton/pelotonlaw06.RopeCircles", spec := "ropeCircles", plainKeys := false, apart := false }
def RopeCirclesSaid : Prop := ropeCirclesRow.holds Try.pinned (OpenSpec.ofChange ropeCirclesSpec)

/-- ITS FALSE NEIGHBOUR: 'it returns false'. Refute it at one input. -/
def ropeCirclesWrong : ChangeSpec := { name := "ropeCircles", fn := fun _ => fun
  | [d1, d2] => { results := [.lit (.bool false)], args := [d1, d2] }
  | _ => none }
def RopeCirclesWrongFalsely : Prop := ropeCirclesRow.holds Try.pinned (OpenSpec.ofChange ropeCirclesWrong)

/-- 'pelotonlaw06.RopeAdds': WHATEVER THE INPUT: true; the input reads as it did. -/
def ropeAddsSpec : ChangeSpec := { name := "ropeAdds", fn := fun _ => fun
  | [d1, d2, d3] => { results := [.lit (.bool true)], args := [d1, d2, d3] }
  | _ => none }
def ropeAddsRow : OpenClaim := { program := "ytplndicghohpbaa", sum := "dc6022d715046753a047ca9fa2ae54a317393b6be890c5bfe28b22659b42a6d0", func := "peloton/pelotonlaw06.RopeAdds", spec := "ropeAdds", plainKeys := false, apart := false }
def RopeAddsSaid : Prop := ropeAddsRow.holds Try.pinned (OpenSpec.ofChange ropeAddsSpec)

/-- ITS FALSE NEIGHBOUR: 'it returns false'. Refute it at one input. -/
def ropeAddsWrong : ChangeSpec := { name := "ropeAdds", fn := fun _ => fun
  | [d1, d2, d3] => { results := [.lit (.bool false)], args := [d1, d2, d3] }
  | _ => none }
def RopeAddsWrongFalsely : Prop := ropeAddsRow.holds Try.pinned (OpenSpec.ofChange ropeAddsWrong)

/-- 'pelotonlaw06.RopeTables': WHATEVER THE INPUT: true; the input reads as it did. -/
def ropeTablesSpec : ChangeSpec := { name := "ropeTables", fn := fun _ => fun
  | [d1, d2] => { results := [.lit (.bool true)], args := [d1, d2] }
  | _ => none }
def ropeTablesRow : OpenClaim := { program := "ytplndicghohpbaa", sum := "dc6022d715046753a047ca9fa2ae54a317393b6be890c5bfe28b22659b42a6d0", func := "peloton/pelotonlaw06.RopeTables", spec := "ropeTables", plainKeys := false, apart := false }
def RopeTablesSaid : Prop := ropeTablesRow.holds Try.pinned (OpenSpec.ofChange ropeTablesSpec)

/-- ITS FALSE NEIGHBOUR: 'it returns false'. Refute it at one input. -/
def ropeTablesWrong : ChangeSpec := { name := "ropeTables", fn := fun _ => fun
  | [d1, d2] => { results := [.lit (.bool false)], args := [d1, d2] }
  | _ => none }
def RopeTablesWrongFalsely : Prop := ropeTablesRow.holds Try.pinned (OpenSpec.ofChange ropeTablesWrong)

/- THE SECOND FORM. 'bulk': how many values and letters a reading holds, each counted each time it is reached (what is shared counts as often as it is met; a slice's spare places count too). A statement '..UptoSaid' is the law's where the arguments, and the package variables that the reading takes, are together of bulk at most 1048576: NARROWER than '..Said'. Prove '..Said' where nothing that the law and all that it calls make is longer than what came in: it says more and counts as full. Else prove '..UptoSaid'. A law counts once. -/
mutual
def uptoBulk {H : Type} : DataW H → Nat
  | .lit (.string bytes) => bytes.length + 1
  | .lit _ => 1
  | .nil => 1
  | .ptr d => uptoBulk d + 1
  | .slice elems spare => uptoBulkAll elems + uptoBulkAll spare + 1
  | .agg parts => uptoBulkAll parts + 1
  | .iface _ d => uptoBulk d + 1
  | .map entries => uptoBulkEntries entries + 1
  | .held _ => 1
def uptoBulkAll {H : Type} : List (DataW H) → Nat
  | [] => 0
  | d :: r => uptoBulk d + uptoBulkAll r
def uptoBulkEntries {H : Type} : List (Lit × DataW H) → Nat
  | [] => 0
  | x :: r => uptoBulkEntry x + uptoBulkEntries r
def uptoBulkEntry {H : Type} : Lit × DataW H → Nat
  | (.string bytes, d) => bytes.length + uptoBulk d + 1
  | (_, d) => uptoBulk d + 1
 end
def uptoSmall : (H : Type) → List (DataW H) → Bool := fun _ ds => decide (uptoBulkAll ds ≤ 1048576)
def OpenSpec.upto (s : _root_.Go.ChangeSpec) : _root_.Go.OpenSpec := { _root_.Go.OpenSpec.ofChange s with cond := some uptoSmall }

/-- 'pelotonlaw06.RopeSines', WHERE WHAT IT READS IS OF BULK AT MOST 1048576: true; the input reads as it did. -/
def ropeSinesUptoRow : OpenClaim := { program := "ytplndicghohpbaa", sum := "dc6022d715046753a047ca9fa2ae54a317393b6be890c5bfe28b22659b42a6d0", func := "peloton/pelotonlaw06.RopeSines", spec := "ropeSines", plainKeys := false, apart := false, narrowed := true }
def RopeSinesUptoSaid : Prop := ropeSinesUptoRow.holds Try.pinned (OpenSpec.upto ropeSinesSpec)

/-- 'pelotonlaw06.RopeTurns', WHERE WHAT IT READS IS OF BULK AT MOST 1048576: true; the input reads as it did. -/
def ropeTurnsUptoRow : OpenClaim := { program := "ytplndicghohpbaa", sum := "dc6022d715046753a047ca9fa2ae54a317393b6be890c5bfe28b22659b42a6d0", func := "peloton/pelotonlaw06.RopeTurns", spec := "ropeTurns", plainKeys := false, apart := false, narrowed := true }
def RopeTurnsUptoSaid : Prop := ropeTurnsUptoRow.holds Try.pinned (OpenSpec.upto ropeTurnsSpec)

/-- 'pelotonlaw06.RopeCircles', WHERE WHAT IT READS IS OF BULK AT MOST 1048576: true; the input reads as it did. -/
def ropeCirclesUptoRow : OpenClaim := { program := "ytplndicghohpbaa", sum := "dc6022d715046753a047ca9fa2ae54a317393b6be890c5bfe28b22659b42a6d0", func := "peloton/pelotonlaw06.RopeCircles", spec := "ropeCircles", plainKeys := false, apart := false, narrowed := true }
def RopeCirclesUptoSaid : Prop := ropeCirclesUptoRow.holds Try.pinned (OpenSpec.upto ropeCirclesSpec)

/-- 'pelotonlaw06.RopeAdds', WHERE WHAT IT READS IS OF BULK AT MOST 1048576: true; the input reads as it did. -/
def ropeAddsUptoRow : OpenClaim := { program := "ytplndicghohpbaa", sum := "dc6022d715046753a047ca9fa2ae54a317393b6be890c5bfe28b22659b42a6d0", func := "peloton/pelotonlaw06.RopeAdds", spec := "ropeAdds", plainKeys := false, apart := false, narrowed := true }
def RopeAddsUptoSaid : Prop := ropeAddsUptoRow.holds Try.pinned (OpenSpec.upto ropeAddsSpec)

/-- 'pelotonlaw06.RopeTables', WHERE WHAT IT READS IS OF BULK AT MOST 1048576: true; the input reads as it did. -/
def ropeTablesUptoRow : OpenClaim := { program := "ytplndicghohpbaa", sum := "dc6022d715046753a047ca9fa2ae54a317393b6be890c5bfe28b22659b42a6d0", func := "peloton/pelotonlaw06.RopeTables", spec := "ropeTables", plainKeys := false, apart := false, narrowed := true }
def RopeTablesUptoSaid : Prop := ropeTablesUptoRow.holds Try.pinned (OpenSpec.upto ropeTablesSpec)

end Rows
end Go.Proofs.Ytplndicghohpbaa
