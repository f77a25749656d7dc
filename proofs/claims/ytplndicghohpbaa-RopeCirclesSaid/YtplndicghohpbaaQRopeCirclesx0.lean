-- Written by a program of this session (a turned copy of the print) out of the translation. Lean checks it.
import Derived.Test.YtplndicghohpbaaProg
import Derived.Below
import Derived.Deep.Draws
import Derived.Deep.AppendLies
import Derived.Maps.AppendAt
import Derived.OwnWalk
import Derived.Laws.BytesArg
import Derived.Laws.MakeOwn
import Derived.Laws.OwnMore
import Derived.Deep.OwnRows
import Derived.Tactics
import Derived.Lib.ConvBytes
import Derived.Laws.Slices
import Derived.WalkKit
import Derived.KernelRfl
import Derived.RowKit3
import Derived.Deep.LoopGhost
import Derived.Deep.QuietTactic
import Derived.BigQuiet
import Derived.WideLaws
import Derived.Deep.DeepCutAuto
import Derived.Deep.CutBlock
import Derived.Deep.RegionHeld3
import Derived.Laws.Rows
import Derived.Lib.AppendStr
import Derived.ArgAppend
import Derived.Laws.IdiomCopy
import Derived.OrdersHeld
import Derived.Laws.BitsLemmas
import Derived.RowKit
import Derived.ChangeKeysEq
import Derived.Lib.SliceRun
import Derived.Great.BuildSlice
import Derived.Deep.WholeRow
import Derived.Test.YtplndicghohpbaaWWords
import Derived.Test.YtplndicghohpbaaWLast
import Derived.Test.YtplndicghohpbaaWTab
import Derived.Test.YtplndicghohpbaaWFour
import Derived.Test.YtplndicghohpbaaWQPut
import Derived.Test.YtplndicghohpbaaWApart
import Derived.Test.YtplndicghohpbaaWArr
import Derived.Test.YtplndicghohpbaaWZeros
import Derived.Test.YtplndicghohpbaaWFoot
import Derived.Test.YtplndicghohpbaaWKept
import Derived.Test.YtplndicghohpbaaWShare
import Derived.Test.YtplndicghohpbaaWN
import Derived.Test.YtplndicghohpbaaWFootNe
import Derived.Test.YtplndicghohpbaaWAt
import Derived.Test.YtplndicghohpbaaWEqStruct
import Derived.Test.YtplndicghohpbaaWRepsOne
import Derived.Test.YtplndicghohpbaaWInv
import Derived.Test.YtplndicghohpbaaWInvWords
import Derived.Test.YtplndicghohpbaaWGuard
import Derived.Test.YtplndicghohpbaaWNEv
import Derived.Test.YtplndicghohpbaaWMore
namespace Go.Proofs.Ytplndicghohpbaa.QRopeCircles
open Go.RowKit Go.Proofs.YtplndicghohpbaaW.PrintWords Go.Proofs.YtplndicghohpbaaW.PrintLast Go.Proofs.YtplndicghohpbaaW.PrintMore
attribute [local go_sem] max2_int min2_int max_two min_two max_three min_three max_four min_four   -- for this text's walks alone
open Go.Proofs.YtplndicghohpbaaW.PrintWords renaming below_alloc → b_a, pw_below_drewN → b_n, below_drew1 → b_d, below_set → b_s, blk_drewN → k_n, blk_drew → k_d, blk_alloc → k_a
open List renaming setIfInBounds_toArray → l_1, set_cons_zero → l_2, set_cons_succ → l_3, map_toArray → l_4, map_cons → l_5, map_nil → l_6, length_drop → l_7, length_take → l_8
set_option linter.unusedVariables false
set_option linter.unusedSimpArgs false



def errW : Option Int → Value
 | none => .nilIface
 | some c => .iface 0 (.int .i64 c)
theorem errW_none : errW none = .nilIface := rfl
theorem errW_some (c : Int) : errW (some c) = .iface 0 (.int .i64 c) := rfl

theorem info35 : (Try.prog.info? 35).map (fun i => (i.zero, i.size, i.bytes)) = some (some (.int .i8 0), 1, 1) := by kernel_rfl
-- the values' own types

end Go.Proofs.Ytplndicghohpbaa.QRopeCircles
