/-
  No cell of these rows narrows 'for every input' (looked for: loops, veiled, ifaces, maps, wideKeys, modest, calm, conditions, laid).
  DERIVED. THE GIVEN ROWS OF THIS SEAT. 4 by the template 'for every input the law returns true; each argument reads behind the call as it read before'; 0 by the template 'total and deterministic' (their statements: YtnkphgiodpledaaTotals.lean).
  GIVEN WITH THE SEED: the statements are not yours to turn. If you find one false, say at which input.
  Laid BY PROGRAM, IN A SANDBOX (cutbox-rows.mjs): the forced cells as the released guide's own fill.sh prints them over the translation c75ec19a520c2123… (all of the seat's roots in one cut). By AI agents, Wed Nov 11 2026. No macro, syntax, notation, axiom, sorry.
-/
import Derived.Test.YtnkphgiodpledaaChecked
import GoSem.Claim
import GoSem.ClaimJoined
import GoSem.ClaimMapViews
import Derived.JoinedTies
import Derived.KernelRfl
namespace Go.Proofs.Ytnkphgiodpledaa
/- THE CELL 'sum', in the pinned program and in every row, IS THE sha256 OF THE DUMP (.gsa) THAT YtnkphgiodpledaaProg.lean LOADS. Nothing in Lean hashes anything: it is a label: what it is worth is what the hold of that sum in a sandbox is worth. -/
noncomputable def Try.pinned : Pinned := { name := "ytnkphgiodpledaa", sum := "c75ec19a520c21231306955353c8e3788b3c02f6b737df6dede5c4c49ca69824", checked := Try.checked }
namespace Rows
def none {H : Type} : Left H := { results := [], args := [] }

/-- 'pelotonlaw15.MsgForms': WHATEVER THE INPUT: true; the input reads as it did. -/
def msgFormsSpec : ChangeSpec := { name := "msgForms", fn := fun _ => fun
  | [d1, d2, d3] => { results := [.lit (.bool true)], args := [d1, d2, d3] }
  | _ => none }
def msgFormsRow : OpenClaim := { program := "ytnkphgiodpledaa", sum := "c75ec19a520c21231306955353c8e3788b3c02f6b737df6dede5c4c49ca69824", func := "peloton/pelotonlaw15.MsgForms", spec := "msgForms", unfollowed := true, recurses := true, apart := false }
def MsgFormsSaid : Prop := msgFormsRow.holds Try.pinned (OpenSpec.ofChange msgFormsSpec)

/-- ITS FALSE NEIGHBOUR: 'it returns false'. Refute it at one input. -/
def msgFormsWrong : ChangeSpec := { name := "msgForms", fn := fun _ => fun
  | [d1, d2, d3] => { results := [.lit (.bool false)], args := [d1, d2, d3] }
  | _ => none }
def MsgFormsWrongFalsely : Prop := msgFormsRow.holds Try.pinned (OpenSpec.ofChange msgFormsWrong)

/-- 'pelotonlaw15.MsgApart': WHATEVER THE INPUT: true; the input reads as it did. -/
def msgApartSpec : ChangeSpec := { name := "msgApart", fn := fun _ => fun
  | [d1, d2] => { results := [.lit (.bool true)], args := [d1, d2] }
  | _ => none }
def msgApartRow : OpenClaim := { program := "ytnkphgiodpledaa", sum := "c75ec19a520c21231306955353c8e3788b3c02f6b737df6dede5c4c49ca69824", func := "peloton/pelotonlaw15.MsgApart", spec := "msgApart", unfollowed := true, recurses := true, apart := false }
def MsgApartSaid : Prop := msgApartRow.holds Try.pinned (OpenSpec.ofChange msgApartSpec)

/-- ITS FALSE NEIGHBOUR: 'it returns false'. Refute it at one input. -/
def msgApartWrong : ChangeSpec := { name := "msgApart", fn := fun _ => fun
  | [d1, d2] => { results := [.lit (.bool false)], args := [d1, d2] }
  | _ => none }
def MsgApartWrongFalsely : Prop := msgApartRow.holds Try.pinned (OpenSpec.ofChange msgApartWrong)

/-- 'pelotonlaw15.MsgParses': WHATEVER THE INPUT: true; the input reads as it did. -/
def msgParsesSpec : ChangeSpec := { name := "msgParses", fn := fun _ => fun
  | [d] => { results := [.lit (.bool true)], args := [d] }
  | _ => none }
def msgParsesRow : OpenClaim := { program := "ytnkphgiodpledaa", sum := "c75ec19a520c21231306955353c8e3788b3c02f6b737df6dede5c4c49ca69824", func := "peloton/pelotonlaw15.MsgParses", spec := "msgParses", unfollowed := true, recurses := true, apart := false }
def MsgParsesSaid : Prop := msgParsesRow.holds Try.pinned (OpenSpec.ofChange msgParsesSpec)

/-- ITS FALSE NEIGHBOUR: 'it returns false'. Refute it at one input. -/
def msgParsesWrong : ChangeSpec := { name := "msgParses", fn := fun _ => fun
  | [d] => { results := [.lit (.bool false)], args := [d] }
  | _ => none }
def MsgParsesWrongFalsely : Prop := msgParsesRow.holds Try.pinned (OpenSpec.ofChange msgParsesWrong)

/-- 'pelotonlaw15.MsgBack': WHATEVER THE INPUT: true; the input reads as it did. -/
def msgBackSpec : ChangeSpec := { name := "msgBack", fn := fun _ => fun
  | [d] => { results := [.lit (.bool true)], args := [d] }
  | _ => none }
def msgBackRow : OpenClaim := { program := "ytnkphgiodpledaa", sum := "c75ec19a520c21231306955353c8e3788b3c02f6b737df6dede5c4c49ca69824", func := "peloton/pelotonlaw15.MsgBack", spec := "msgBack", unfollowed := true, recurses := true, apart := false }
def MsgBackSaid : Prop := msgBackRow.holds Try.pinned (OpenSpec.ofChange msgBackSpec)

/-- ITS FALSE NEIGHBOUR: 'it returns false'. Refute it at one input. -/
def msgBackWrong : ChangeSpec := { name := "msgBack", fn := fun _ => fun
  | [d] => { results := [.lit (.bool false)], args := [d] }
  | _ => none }
def MsgBackWrongFalsely : Prop := msgBackRow.holds Try.pinned (OpenSpec.ofChange msgBackWrong)

/- THE SECOND FORM. 'bulk': how many values and letters a reading holds, each counted each time it is reached (what is shared counts as often as it is met; a slice's spare places count too). A statement '..UptoSaid' is the law's where the arguments, and the package variables that the reading takes, are together of bulk at most 1048576: NARROWER than '..Said'. Prove '..Said' where nothing that the law and all that it calls make is longer than what came in: it says more and counts as full. Else prove '..UptoSaid'. A law counts once. -/
mutual
def uptoBulk {H : Type} : DataW H → Nat
  | .lit (.string bytes) => bytes.length + 1
  | .lit _ => 1
  | .nil => 1
  | .ptr d => uptoBulk d + 1
  | .slice elems spare => uptoBulkAll elems + uptoBulkAll spare + 1
  | .agg parts => uptoBulkAll parts + 1
  | .iface _ d => uptoBulk d + 1
  | .map entries => uptoBulkEntries entries + 1
  | .held _ => 1
def uptoBulkAll {H : Type} : List (DataW H) → Nat
  | [] => 0
  | d :: r => uptoBulk d + uptoBulkAll r
def uptoBulkEntries {H : Type} : List (Lit × DataW H) → Nat
  | [] => 0
  | x :: r => uptoBulkEntry x + uptoBulkEntries r
def uptoBulkEntry {H : Type} : Lit × DataW H → Nat
  | (.string bytes, d) => bytes.length + uptoBulk d + 1
  | (_, d) => uptoBulk d + 1
 end
def uptoSmall : (H : Type) → List (DataW H) → Bool := fun _ ds => decide (uptoBulkAll ds ≤ 1048576)
def OpenSpec.upto (s : _root_.Go.ChangeSpec) : _root_.Go.OpenSpec := { _root_.Go.OpenSpec.ofChange s with cond := some uptoSmall }

/-- 'pelotonlaw15.MsgForms', WHERE WHAT IT READS IS OF BULK AT MOST 1048576: true; the input reads as it did. -/
def msgFormsUptoRow : OpenClaim := { program := "ytnkphgiodpledaa", sum := "c75ec19a520c21231306955353c8e3788b3c02f6b737df6dede5c4c49ca69824", func := "peloton/pelotonlaw15.MsgForms", spec := "msgForms", unfollowed := true, recurses := true, apart := false, narrowed := true }
def MsgFormsUptoSaid : Prop := msgFormsUptoRow.holds Try.pinned (OpenSpec.upto msgFormsSpec)

/-- 'pelotonlaw15.MsgApart', WHERE WHAT IT READS IS OF BULK AT MOST 1048576: true; the input reads as it did. -/
def msgApartUptoRow : OpenClaim := { program := "ytnkphgiodpledaa", sum := "c75ec19a520c21231306955353c8e3788b3c02f6b737df6dede5c4c49ca69824", func := "peloton/pelotonlaw15.MsgApart", spec := "msgApart", unfollowed := true, recurses := true, apart := false, narrowed := true }
def MsgApartUptoSaid : Prop := msgApartUptoRow.holds Try.pinned (OpenSpec.upto msgApartSpec)

/-- 'pelotonlaw15.MsgParses', WHERE WHAT IT READS IS OF BULK AT MOST 1048576: true; the input reads as it did. -/
def msgParsesUptoRow : OpenClaim := { program := "ytnkphgiodpledaa", sum := "c75ec19a520c21231306955353c8e3788b3c02f6b737df6dede5c4c49ca69824", func := "peloton/pelotonlaw15.MsgParses", spec := "msgParses", unfollowed := true, recurses := true, apart := false, narrowed := true }
def MsgParsesUptoSaid : Prop := msgParsesUptoRow.holds Try.pinned (OpenSpec.upto msgParsesSpec)

/-- 'pelotonlaw15.MsgBack', WHERE WHAT IT READS IS OF BULK AT MOST 1048576: true; the input reads as it did. -/
def msgBackUptoRow : OpenClaim := { program := "ytnkphgiodpledaa", sum := "c75ec19a520c21231306955353c8e3788b3c02f6b737df6dede5c4c49ca69824", func := "peloton/pelotonlaw15.MsgBack", spec := "msgBack", unfollowed := true, recurses := true, apart := false, narrowed := true }
def MsgBackUptoSaid : Prop := msgBackUptoRow.holds Try.pinned (OpenSpec.upto msgBackSpec)

end Rows
end Go.Proofs.Ytnkphgiodpledaa
