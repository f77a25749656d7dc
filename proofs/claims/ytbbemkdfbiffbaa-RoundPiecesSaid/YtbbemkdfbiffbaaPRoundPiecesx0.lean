-- PRINTED BY print.sh 35421559b90ae4d0a3588c463048766b98c2df88dd9212a6774a882060cdf62d: not written by this session
import Derived.Test.YtbbemkdfbiffbaaProg
import Derived.Below
import Derived.Deep.Draws
import Derived.Deep.AppendLies
import Derived.Maps.AppendAt
import Derived.OwnWalk
import Derived.Laws.BytesArg
import Derived.Laws.MakeOwn
import Derived.Laws.OwnMore
import Derived.Deep.OwnRows
import Derived.Tactics
import Derived.Lib.ConvBytes
import Derived.Laws.Slices
import Derived.WalkKit
import Derived.KernelRfl
import Derived.RowKit3
import Derived.Deep.LoopGhost
import Derived.Deep.QuietTactic
import Derived.BigQuiet
import Derived.WideLaws
import Derived.Deep.DeepCutAuto
import Derived.Deep.CutBlock
import Derived.Deep.RegionHeld3
import Derived.Laws.Rows
import Derived.Lib.AppendStr
import Derived.ArgAppend
import Derived.Laws.IdiomCopy
import Derived.OrdersHeld
import Derived.Laws.BitsLemmas
import Derived.RowKit
import Derived.Test.YtbbemkdfbiffbaaWWords
import Derived.Test.YtbbemkdfbiffbaaWLast
import Derived.Test.YtbbemkdfbiffbaaWTab
import Derived.Test.YtbbemkdfbiffbaaWFour
import Derived.Test.YtbbemkdfbiffbaaWQPut
import Derived.Test.YtbbemkdfbiffbaaWApart
import Derived.Test.YtbbemkdfbiffbaaWArr
import Derived.Test.YtbbemkdfbiffbaaWZeros
import Derived.Test.YtbbemkdfbiffbaaWFoot
import Derived.Test.YtbbemkdfbiffbaaWKept
import Derived.Test.YtbbemkdfbiffbaaWShare
import Derived.Test.YtbbemkdfbiffbaaWN
import Derived.Test.YtbbemkdfbiffbaaWFootNe
import Derived.Test.YtbbemkdfbiffbaaWAt
import Derived.Test.YtbbemkdfbiffbaaWEqStruct
import Derived.Test.YtbbemkdfbiffbaaWRepsOne
import Derived.Test.YtbbemkdfbiffbaaWInv
import Derived.Test.YtbbemkdfbiffbaaWInvWords
import Derived.Test.YtbbemkdfbiffbaaWGuard
import Derived.Test.YtbbemkdfbiffbaaWNEv
import Derived.Test.YtbbemkdfbiffbaaWMore
namespace Go.Proofs.Ytbbemkdfbiffbaa.PRoundPieces
open Go.RowKit Go.Proofs.YtbbemkdfbiffbaaW.PrintWords Go.Proofs.YtbbemkdfbiffbaaW.PrintLast Go.Proofs.YtbbemkdfbiffbaaW.PrintMore
attribute [local go_sem] max2_int min2_int max_two min_two max_three min_three max_four min_four   -- for this text's walks alone
set_option linter.unusedVariables false
set_option linter.unusedSimpArgs false



def errW : Option Int → Value
  | none => .nilIface
  | some c => .iface 0 (.int .i64 c)
theorem errW_none : errW none = .nilIface := rfl
theorem errW_some (c : Int) : errW (some c) = .iface 0 (.int .i64 c) := rfl

theorem info2 : (Try.prog.info? 2).map (fun i => (i.zero, i.size, i.bytes)) = some (some (.int .i64 0), 1, 8) := by kernel_rfl
theorem info21 : (Try.prog.info? 21).map (fun i => (i.zero, i.size, i.bytes)) = some (some (.int .i32 0), 1, 4) := by kernel_rfl
theorem info26 : (Try.prog.info? 26).map (fun i => (i.zero, i.size, i.bytes)) = some (some (.int .i8 0), 1, 1) := by kernel_rfl
-- the values' own types

end Go.Proofs.Ytbbemkdfbiffbaa.PRoundPieces
