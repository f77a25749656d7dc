-- Written by a program of this session (a turned copy of the print) out of the translation. Lean checks it.
import Derived.Test.YtijkcjlkfjeedaaProg
import Derived.Below
import Derived.Deep.Draws
import Derived.Deep.AppendLies
import Derived.Maps.AppendAt
import Derived.OwnWalk
import Derived.Laws.BytesArg
import Derived.Laws.MakeOwn
import Derived.Laws.OwnMore
import Derived.Deep.OwnRows
import Derived.Tactics
import Derived.Lib.ConvBytes
import Derived.Laws.Slices
import Derived.WalkKit
import Derived.KernelRfl
import Derived.RowKit3
import Derived.Deep.LoopGhost
import Derived.Deep.QuietTactic
import Derived.BigQuiet
import Derived.WideLaws
import Derived.Deep.DeepCutAuto
import Derived.Deep.CutBlock
import Derived.Deep.RegionHeld3
import Derived.Laws.Rows
import Derived.Lib.AppendStr
import Derived.ArgAppend
import Derived.Laws.IdiomCopy
import Derived.OrdersHeld
import Derived.Laws.BitsLemmas
import Derived.RowKit
import Derived.ChangeKeysEq
import Derived.Test.YtijkcjlkfjeedaaWWords
import Derived.Test.YtijkcjlkfjeedaaWLast
import Derived.Test.YtijkcjlkfjeedaaWTab
import Derived.Test.YtijkcjlkfjeedaaWFour
import Derived.Test.YtijkcjlkfjeedaaWQPut
import Derived.Test.YtijkcjlkfjeedaaWApart
import Derived.Test.YtijkcjlkfjeedaaWArr
import Derived.Test.YtijkcjlkfjeedaaWZeros
import Derived.Test.YtijkcjlkfjeedaaWFoot
import Derived.Test.YtijkcjlkfjeedaaWKept
import Derived.Test.YtijkcjlkfjeedaaWShare
import Derived.Test.YtijkcjlkfjeedaaWN
import Derived.Test.YtijkcjlkfjeedaaWFootNe
import Derived.Test.YtijkcjlkfjeedaaWAt
import Derived.Test.YtijkcjlkfjeedaaWEqStruct
import Derived.Test.YtijkcjlkfjeedaaWRepsOne
import Derived.Test.YtijkcjlkfjeedaaWInv
import Derived.Test.YtijkcjlkfjeedaaWInvWords
import Derived.Test.YtijkcjlkfjeedaaWGuard
import Derived.Test.YtijkcjlkfjeedaaWNEv
import Derived.Test.YtijkcjlkfjeedaaWMore
namespace Go.Proofs.Ytijkcjlkfjeedaa.QSliceCuts
open Go.RowKit Go.Proofs.YtijkcjlkfjeedaaW.PrintWords Go.Proofs.YtijkcjlkfjeedaaW.PrintLast Go.Proofs.YtijkcjlkfjeedaaW.PrintMore
attribute [local go_sem] max2_int min2_int max_two min_two max_three min_three max_four min_four   -- for this text's walks alone
open Go.Proofs.YtijkcjlkfjeedaaW.PrintWords renaming below_alloc → b_a, pw_below_drewN → b_n, below_drew1 → b_d, below_set → b_s, blk_drewN → k_n, blk_drew → k_d, blk_alloc → k_a
open List renaming setIfInBounds_toArray → l_1, set_cons_zero → l_2, set_cons_succ → l_3, map_toArray → l_4, map_cons → l_5, map_nil → l_6, length_drop → l_7, length_take → l_8
set_option linter.unusedVariables false
set_option linter.unusedSimpArgs false



def errW : Option Int → Value
 | none => .nilIface
 | some c => .iface 0 (.int .i64 c)
theorem errW_none : errW none = .nilIface := rfl
theorem errW_some (c : Int) : errW (some c) = .iface 0 (.int .i64 c) := rfl

section
variable {P : Program} {d c : Nat} {xs ys : Array Value} {e : TypeId} {i : Nat} {is : List Nat} {a b : Value} {r s : Bool} {w : World}
theorem eqi_cons (ha : (part e xs (i * c)).run P w = .ok a w) (hb : (part e ys (i * c)).run P w = .ok b w) (he : (Op.equalIn d e a b).run P w = .ok r w) (hr : (Op.eqItems d e c xs ys is).run P w = .ok s w) : (Op.eqItems d e c xs ys (i :: is)).run P w = .ok (r && s) w := by
 simp only [Op.eqItems, Sem.run_bind, ha, hb, he, Result.andThen_ok]
 cases r
 ·
  simp
 ·
  simpa using hr
theorem eqi_last (ha : (part e xs (i * c)).run P w = .ok a w) (hb : (part e ys (i * c)).run P w = .ok b w) (he : (Op.equalIn d e a b).run P w = .ok r w) : (Op.eqItems d e c xs ys [i]).run P w = .ok r w := by
 have h := eqi_cons (is := []) (s := true) ha hb he (by simp [Op.eqItems])
 rwa [Bool.and_true] at h
theorem eqi_of {t : TypeId} {n : Nat} (hu : P.underlying t = some (.array n e)) (hi : (P.info? e).isSome = true) (hC : P.cellsOf e = c) (h : (Op.eqItems d e c xs ys (List.range n)).run P w = .ok r w) : (Op.equalIn (d + 1) t (.agg xs) (.agg ys)).run P w = .ok r w := by
 obtain ⟨i, hi⟩ := Option.isSome_iff_exists.1 hi
 rw [run_equalIn_array w d xs ys hu hi, hC]
 exact h
end

-- the values' own types

end Go.Proofs.Ytijkcjlkfjeedaa.QSliceCuts
