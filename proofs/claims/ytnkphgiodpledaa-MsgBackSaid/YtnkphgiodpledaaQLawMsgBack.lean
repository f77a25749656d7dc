/- MsgBack: the statement: for every input the law returns true, and each argument reads behind the call as it read before. No condition. -/
import Derived.Test.YtnkphgiodpledaaRows
import Derived.Test.YtnkphgiodpledaaQMsgBackx11
import Derived.Test.YtnkphgiodpledaaQMsgBackx11
import Derived.Test.YtnkphgiodpledaaQPureMsgBack
import Derived.Test.YtnkphgiodpledaaOpens
import Derived.WalkKit
import Derived.ProofKit
import Derived.OpenShut
import Derived.ShutString
import Derived.ChangeOld
import Derived.Below
import Derived.SizedLaws
namespace Go.Proofs.Ytnkphgiodpledaa.msgBack
open Go.ChangeShapes Go.WideShapes Go.ChangeAt Go.RowKit Go.Proofs.Ytnkphgiodpledaa.QMsgBack Go.Proofs.Ytnkphgiodpledaa.Opens Go.Proofs.YtnkphgiodpledaaW.PrintWords
open Go.ChangeMaps (open_string shut_string)
set_option linter.unusedVariables false
theorem own : ownKnob Try.prog.godebug = none := by kernel_rfl
theorem laidOut : laidOutB Try.prog = true := by kernel_rfl
set_option maxRecDepth 100000 in
set_option maxHeartbeats 1000000 in
theorem lifted (os : Os) (started : os.Started) (H : Type) (enc : TypeId × Value → H) :
  ReturnsInHanded {} Try.checked os 6 .any (Rows.msgBackSpec.pre6 enc Try.prog Try.f6 Rows.msgBackRow.domain false) (Rows.msgBackSpec.post enc Try.prog Try.f6 false true false false) := by
 refine returnsInHanded_of_change_sized (C := Try.checked) own started (by kernel_rfl) Try.func6
  (ChangeSpec.witness6 (enc := enc) (C := Try.checked) false ⟨#[], #[(.agg #[(.int .i64 0), (.int .i64 0), (.int .i64 0), (.int .i64 0), (.int .i64 0), (.int .i64 0), (.int .i64 0), (.int .i64 0), (.slice none 0 0)])], []⟩ 8 (by kernel_rfl) (by kernel_rfl) (by kernel_rfl) (by kernel_rfl)) ?_
 intro W base args ds gs before hval0 hW hcnd hsz0 _
 have hval : ∀ (j : Nat) t v, Try.f6.params[j]? = some t → args[j]? = some v → Value.okWide Try.prog W .any base t v := hval0
 have hW' := hW
 obtain ⟨p, q, hA0, hV, rfl, hfz, hnd⟩ := hW
 have hA : DataW.TrodAll enc Try.prog W 0 (fun _ => true) true Try.f6.params.toList args.toList ds p := hA0
 rw [Try.params6] at hA hval
 obtain ⟨v0, vs0, d0, ds0, p0, q0, hargs, rfl, rfl, h0, r0⟩ := trodAll_cons hA
 obtain ⟨rfl, rfl, rfl⟩ := trodAll_nil r0
 obtain rfl : args = #[v0] := by cases args; simp_all
 obtain ⟨rfl, rfl⟩ := trodVars_none hV
 have k0 := h0
 have lt0 : ∀ x ∈ p0, x.block < W.heap.size := by obtain ⟨m, hm⟩ := k0; exact DataW.trod_lt m _ _ _ hm
 have o0 := (opens_struct Try.underlying24 (by rfl) (opensSeg_cons (opens_int Try.underlying3) (opensSeg_cons (opens_int Try.underlying3) (opensSeg_cons (opens_int Try.underlying3) (opensSeg_cons (opens_int Try.underlying3) (opensSeg_cons (opens_int Try.underlying3) (opensSeg_cons (opens_int Try.underlying3) (opensSeg_cons (opens_int Try.underlying3) (opensSeg_cons (opens_int Try.underlying3) (opensSeg_one (opens_slice Try.underlying22 (opens_int Try.underlying21) (by kernel_rfl))))))))))) (by kernel_rfl) (by kernel_rfl))
 obtain ⟨cs0, rfl, _⟩ := okWide_struct Try.underlying24 (hval 0 24 v0 rfl rfl)
 obtain ⟨fu0, hf0⟩ := h0
 obtain ⟨⟨a0_0, a0_1, a0_2, a0_3, a0_4, a0_5, a0_6, a0_7, l0_8⟩, K0, F0⟩ := o0.out hf0
 clear hf0 o0
 obtain ⟨_, _, e0, rfl, ⟨_, _, rfl, rfl, ⟨_, _, rfl, rfl, ⟨_, _, rfl, rfl, ⟨_, _, rfl, rfl, ⟨_, _, rfl, rfl, ⟨_, _, rfl, rfl, ⟨_, _, rfl, rfl, ⟨A0_8, c0_8, rfl, hc0_8, hr0_8⟩⟩⟩⟩⟩⟩⟩⟩⟩ := K0
 have ev0 : cs0 = #[.int .i64 a0_0, .int .i64 a0_1, .int .i64 a0_2, .int .i64 a0_3, .int .i64 a0_4, .int .i64 a0_5, .int .i64 a0_6, .int .i64 a0_7, .slice A0_8 l0_8.length c0_8] := agg_cells e0
 clear e0
 subst ev0
 clear hA0 hval0 hsz0
 obtain ⟨k, h⟩ := (Pure.MsgBack : pelotonlaw15_MsgBack.Pure) a0_0 a0_1 a0_2 a0_3 a0_4 a0_5 a0_6 a0_7 l0_8 F0
 refine (pelotonlaw15_MsgBack.calls k a0_0 a0_1 a0_2 a0_3 a0_4 a0_5 a0_6 a0_7 _ _ l0_8 true W hr0_8 hc0_8 h).mono fun e W' ⟨he, bel0⟩ => ?_
 have bel : Below W.heap.size W W' := bel0
 subst he
 exact ⟨_, rfl, _, _, _, [], _, [], hW', trodAll_mk1 (shut_bool Try.underlying4 _), (trodAll_cons_mk (Below.trod laidOut (by kernel_rfl) (of_decide_eq_true (by kernel_rfl)) k0 bel lt0) trodAll_mk0), rfl, bel.frame _, fun h => by cases h⟩
theorem over : Rows.msgBackRow.holds Try.pinned (OpenSpec.ofChange Rows.msgBackSpec) :=
 OpenClaim.holds_of_wide 6 Try.f6 rfl rfl rfl rfl rfl rfl rfl ⟨rfl, rfl, rfl, rfl, rfl⟩ rfl rfl rfl rfl rfl (by kernel_rfl) Try.func6 (by kernel_rfl)
  (of_decide_eq_true (by kernel_rfl)) (by unfold Func.isWrapper; first | (rw [if_pos (by decide +kernel)]; kernel_rfl) | (rw [if_neg (by decide +kernel)]; exact ⟨rfl, rfl⟩))
  (fun os started H enc _ => lifted os started H enc)
theorem proved : Rows.MsgBackSaid := over
#print axioms proved
end Go.Proofs.Ytnkphgiodpledaa.msgBack
namespace Go.Proofs.Ytnkphgiodpledaa
/-- The row, under a short name, for the claim. -/
theorem msgBack_holds : Rows.MsgBackSaid := msgBack.proved
end Go.Proofs.Ytnkphgiodpledaa
