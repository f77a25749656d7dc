/-
  No cell of these rows narrows 'for every input' (looked for: loops, veiled, ifaces, maps, wideKeys, modest, calm, conditions, laid).
  DERIVED. THE GIVEN ROWS OF THIS SEAT. 5 by the template 'for every input the law returns true; each argument reads behind the call as it read before'; 0 by the template 'total and deterministic' (their statements: YtofoimndhndffaaTotals.lean).
  GIVEN WITH THE SEED: the statements are not yours to turn. If you find one false, say at which input.
  Laid BY PROGRAM, IN A SANDBOX (cutbox-rows.mjs): the forced cells as the released guide's own fill.sh prints them over the translation c71e6d6eff41c38b… (all of the seat's roots in one cut). By AI agents, Wed Nov 11 2026. No macro, syntax, notation, axiom, sorry.
-/
import Derived.Test.YtofoimndhndffaaChecked
import GoSem.Claim
import GoSem.ClaimJoined
import GoSem.ClaimMapViews
import Derived.JoinedTies
import Derived.KernelRfl
namespace Go.Proofs.Ytofoimndhndffaa
/- THE CELL 'sum', in the pinned program and in every row, IS THE sha256 OF THE DUMP (.gsa) THAT YtofoimndhndffaaProg.lean LOADS. Nothing in Lean hashes anything: it is a label: what it is worth is what the hold of that sum in a sandbox is worth. -/
noncomputable def Try.pinned : Pinned := { name := "ytofoimndhndffaa", sum := "c71e6d6eff41c38b855c13dbe94396e7dbeee14cbc55097e1d53297252806b32", checked := Try.checked }
namespace Rows
def none {H : Type} : Left H := { results := [], args := [] }

/-- 'pelotonlaw14.FramePacks': WHATEVER THE INPUT: true; the input reads as it did. -/
def framePacksSpec : ChangeSpec := { name := "framePacks", fn := fun _ => fun
  | [d1, d2] => { results := [.lit (.bool true)], args := [d1, d2] }
  | _ => none }
def framePacksRow : OpenClaim := { program := "ytofoimndhndffaa", sum := "c71e6d6eff41c38b855c13dbe94396e7dbeee14cbc55097e1d53297252806b32", func := "peloton/pelotonlaw14.FramePacks", spec := "framePacks", apart := false }
def FramePacksSaid : Prop := framePacksRow.holds Try.pinned (OpenSpec.ofChange framePacksSpec)

/-- ITS FALSE NEIGHBOUR: 'it returns false'. Refute it at one input. -/
def framePacksWrong : ChangeSpec := { name := "framePacks", fn := fun _ => fun
  | [d1, d2] => { results := [.lit (.bool false)], args := [d1, d2] }
  | _ => none }
def FramePacksWrongFalsely : Prop := framePacksRow.holds Try.pinned (OpenSpec.ofChange framePacksWrong)

/-- 'pelotonlaw14.FrameParses': WHATEVER THE INPUT: true; the input reads as it did. -/
def frameParsesSpec : ChangeSpec := { name := "frameParses", fn := fun _ => fun
  | [d] => { results := [.lit (.bool true)], args := [d] }
  | _ => none }
def frameParsesRow : OpenClaim := { program := "ytofoimndhndffaa", sum := "c71e6d6eff41c38b855c13dbe94396e7dbeee14cbc55097e1d53297252806b32", func := "peloton/pelotonlaw14.FrameParses", spec := "frameParses", apart := false }
def FrameParsesSaid : Prop := frameParsesRow.holds Try.pinned (OpenSpec.ofChange frameParsesSpec)

/-- ITS FALSE NEIGHBOUR: 'it returns false'. Refute it at one input. -/
def frameParsesWrong : ChangeSpec := { name := "frameParses", fn := fun _ => fun
  | [d] => { results := [.lit (.bool false)], args := [d] }
  | _ => none }
def FrameParsesWrongFalsely : Prop := frameParsesRow.holds Try.pinned (OpenSpec.ofChange frameParsesWrong)

/-- 'pelotonlaw14.FrameCatches': WHATEVER THE INPUT: true; the input reads as it did. -/
def frameCatchesSpec : ChangeSpec := { name := "frameCatches", fn := fun _ => fun
  | [d1, d2, d3] => { results := [.lit (.bool true)], args := [d1, d2, d3] }
  | _ => none }
def frameCatchesRow : OpenClaim := { program := "ytofoimndhndffaa", sum := "c71e6d6eff41c38b855c13dbe94396e7dbeee14cbc55097e1d53297252806b32", func := "peloton/pelotonlaw14.FrameCatches", spec := "frameCatches", apart := false }
def FrameCatchesSaid : Prop := frameCatchesRow.holds Try.pinned (OpenSpec.ofChange frameCatchesSpec)

/-- ITS FALSE NEIGHBOUR: 'it returns false'. Refute it at one input. -/
def frameCatchesWrong : ChangeSpec := { name := "frameCatches", fn := fun _ => fun
  | [d1, d2, d3] => { results := [.lit (.bool false)], args := [d1, d2, d3] }
  | _ => none }
def FrameCatchesWrongFalsely : Prop := frameCatchesRow.holds Try.pinned (OpenSpec.ofChange frameCatchesWrong)

/-- 'pelotonlaw14.FrameApart': WHATEVER THE INPUT: true; the input reads as it did. -/
def frameApartSpec : ChangeSpec := { name := "frameApart", fn := fun _ => fun
  | [d1, d2, d3] => { results := [.lit (.bool true)], args := [d1, d2, d3] }
  | _ => none }
def frameApartRow : OpenClaim := { program := "ytofoimndhndffaa", sum := "c71e6d6eff41c38b855c13dbe94396e7dbeee14cbc55097e1d53297252806b32", func := "peloton/pelotonlaw14.FrameApart", spec := "frameApart", apart := false }
def FrameApartSaid : Prop := frameApartRow.holds Try.pinned (OpenSpec.ofChange frameApartSpec)

/-- ITS FALSE NEIGHBOUR: 'it returns false'. Refute it at one input. -/
def frameApartWrong : ChangeSpec := { name := "frameApart", fn := fun _ => fun
  | [d1, d2, d3] => { results := [.lit (.bool false)], args := [d1, d2, d3] }
  | _ => none }
def FrameApartWrongFalsely : Prop := frameApartRow.holds Try.pinned (OpenSpec.ofChange frameApartWrong)

/-- 'pelotonlaw14.FrameSplits': WHATEVER THE INPUT: true; the input reads as it did. -/
def frameSplitsSpec : ChangeSpec := { name := "frameSplits", fn := fun _ => fun
  | [d1, d2] => { results := [.lit (.bool true)], args := [d1, d2] }
  | _ => none }
def frameSplitsRow : OpenClaim := { program := "ytofoimndhndffaa", sum := "c71e6d6eff41c38b855c13dbe94396e7dbeee14cbc55097e1d53297252806b32", func := "peloton/pelotonlaw14.FrameSplits", spec := "frameSplits", inPlace := ["internal/bytealg.MakeNoZero"], apart := false }
def FrameSplitsSaid : Prop := frameSplitsRow.holds Try.pinned (OpenSpec.ofChange frameSplitsSpec)

/-- ITS FALSE NEIGHBOUR: 'it returns false'. Refute it at one input. -/
def frameSplitsWrong : ChangeSpec := { name := "frameSplits", fn := fun _ => fun
  | [d1, d2] => { results := [.lit (.bool false)], args := [d1, d2] }
  | _ => none }
def FrameSplitsWrongFalsely : Prop := frameSplitsRow.holds Try.pinned (OpenSpec.ofChange frameSplitsWrong)

/- THE SECOND FORM. 'bulk': how many values and letters a reading holds, each counted each time it is reached (what is shared counts as often as it is met; a slice's spare places count too). A statement '..UptoSaid' is the law's where the arguments, and the package variables that the reading takes, are together of bulk at most 1048576: NARROWER than '..Said'. Prove '..Said' where nothing that the law and all that it calls make is longer than what came in: it says more and counts as full. Else prove '..UptoSaid'. A law counts once. -/
mutual
def uptoBulk {H : Type} : DataW H → Nat
  | .lit (.string bytes) => bytes.length + 1
  | .lit _ => 1
  | .nil => 1
  | .ptr d => uptoBulk d + 1
  | .slice elems spare => uptoBulkAll elems + uptoBulkAll spare + 1
  | .agg parts => uptoBulkAll parts + 1
  | .iface _ d => uptoBulk d + 1
  | .map entries => uptoBulkEntries entries + 1
  | .held _ => 1
def uptoBulkAll {H : Type} : List (DataW H) → Nat
  | [] => 0
  | d :: r => uptoBulk d + uptoBulkAll r
def uptoBulkEntries {H : Type} : List (Lit × DataW H) → Nat
  | [] => 0
  | x :: r => uptoBulkEntry x + uptoBulkEntries r
def uptoBulkEntry {H : Type} : Lit × DataW H → Nat
  | (.string bytes, d) => bytes.length + uptoBulk d + 1
  | (_, d) => uptoBulk d + 1
 end
def uptoSmall : (H : Type) → List (DataW H) → Bool := fun _ ds => decide (uptoBulkAll ds ≤ 1048576)
def OpenSpec.upto (s : _root_.Go.ChangeSpec) : _root_.Go.OpenSpec := { _root_.Go.OpenSpec.ofChange s with cond := some uptoSmall }

/-- 'pelotonlaw14.FramePacks', WHERE WHAT IT READS IS OF BULK AT MOST 1048576: true; the input reads as it did. -/
def framePacksUptoRow : OpenClaim := { program := "ytofoimndhndffaa", sum := "c71e6d6eff41c38b855c13dbe94396e7dbeee14cbc55097e1d53297252806b32", func := "peloton/pelotonlaw14.FramePacks", spec := "framePacks", apart := false, narrowed := true }
def FramePacksUptoSaid : Prop := framePacksUptoRow.holds Try.pinned (OpenSpec.upto framePacksSpec)

/-- 'pelotonlaw14.FrameParses', WHERE WHAT IT READS IS OF BULK AT MOST 1048576: true; the input reads as it did. -/
def frameParsesUptoRow : OpenClaim := { program := "ytofoimndhndffaa", sum := "c71e6d6eff41c38b855c13dbe94396e7dbeee14cbc55097e1d53297252806b32", func := "peloton/pelotonlaw14.FrameParses", spec := "frameParses", apart := false, narrowed := true }
def FrameParsesUptoSaid : Prop := frameParsesUptoRow.holds Try.pinned (OpenSpec.upto frameParsesSpec)

/-- 'pelotonlaw14.FrameCatches', WHERE WHAT IT READS IS OF BULK AT MOST 1048576: true; the input reads as it did. -/
def frameCatchesUptoRow : OpenClaim := { program := "ytofoimndhndffaa", sum := "c71e6d6eff41c38b855c13dbe94396e7dbeee14cbc55097e1d53297252806b32", func := "peloton/pelotonlaw14.FrameCatches", spec := "frameCatches", apart := false, narrowed := true }
def FrameCatchesUptoSaid : Prop := frameCatchesUptoRow.holds Try.pinned (OpenSpec.upto frameCatchesSpec)

/-- 'pelotonlaw14.FrameApart', WHERE WHAT IT READS IS OF BULK AT MOST 1048576: true; the input reads as it did. -/
def frameApartUptoRow : OpenClaim := { program := "ytofoimndhndffaa", sum := "c71e6d6eff41c38b855c13dbe94396e7dbeee14cbc55097e1d53297252806b32", func := "peloton/pelotonlaw14.FrameApart", spec := "frameApart", apart := false, narrowed := true }
def FrameApartUptoSaid : Prop := frameApartUptoRow.holds Try.pinned (OpenSpec.upto frameApartSpec)

/-- 'pelotonlaw14.FrameSplits', WHERE WHAT IT READS IS OF BULK AT MOST 1048576: true; the input reads as it did. -/
def frameSplitsUptoRow : OpenClaim := { program := "ytofoimndhndffaa", sum := "c71e6d6eff41c38b855c13dbe94396e7dbeee14cbc55097e1d53297252806b32", func := "peloton/pelotonlaw14.FrameSplits", spec := "frameSplits", inPlace := ["internal/bytealg.MakeNoZero"], apart := false, narrowed := true }
def FrameSplitsUptoSaid : Prop := frameSplitsUptoRow.holds Try.pinned (OpenSpec.upto frameSplitsSpec)

end Rows
end Go.Proofs.Ytofoimndhndffaa
