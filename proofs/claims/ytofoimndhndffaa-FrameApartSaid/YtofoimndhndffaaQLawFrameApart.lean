/- FrameApart: the statement: for every input the law returns true, and each argument reads behind the call as it read before. No condition. -/
import Derived.Test.YtofoimndhndffaaRows
import Derived.Test.YtofoimndhndffaaQFrameApartx3
import Derived.Test.YtofoimndhndffaaQFrameApartx3
import Derived.Test.YtofoimndhndffaaQPureFrameApart
import Derived.Test.YtofoimndhndffaaOpens
import Derived.WalkKit
import Derived.ProofKit
import Derived.OpenShut
import Derived.ShutString
import Derived.ChangeOld
import Derived.Below
import Derived.SizedLaws
namespace Go.Proofs.Ytofoimndhndffaa.frameApart
open Go.ChangeShapes Go.WideShapes Go.ChangeAt Go.RowKit Go.Proofs.Ytofoimndhndffaa.QFrameApart Go.Proofs.Ytofoimndhndffaa.Opens Go.Proofs.YtofoimndhndffaaW.PrintWords
open Go.ChangeMaps (open_string shut_string)
set_option linter.unusedVariables false
theorem own : ownKnob Try.prog.godebug = none := by kernel_rfl
theorem laidOut : laidOutB Try.prog = true := by kernel_rfl
set_option maxRecDepth 100000 in
set_option maxHeartbeats 1000000 in
theorem lifted (os : Os) (started : os.Started) (H : Type) (enc : TypeId × Value → H) :
  ReturnsInHanded {} Try.checked os 6 .any (Rows.frameApartSpec.pre6 enc Try.prog Try.f6 Rows.frameApartRow.domain false) (Rows.frameApartSpec.post enc Try.prog Try.f6 false true false false) := by
 refine returnsInHanded_of_change_sized (C := Try.checked) own started (by kernel_rfl) Try.func6
  (ChangeSpec.witness6 (enc := enc) (C := Try.checked) false ⟨#[], #[(.int .u8 0), (.int .u8 0), (.agg #[(.slice none 0 0), (.slice none 0 0)])], []⟩ 8 (by kernel_rfl) (by kernel_rfl) (by kernel_rfl) (by kernel_rfl)) ?_
 intro W base args ds gs before hval0 hW hcnd hsz0 _
 have hval : ∀ (j : Nat) t v, Try.f6.params[j]? = some t → args[j]? = some v → Value.okWide Try.prog W .any base t v := hval0
 have hW' := hW
 obtain ⟨p, q, hA0, hV, rfl, hfz, hnd⟩ := hW
 have hA : DataW.TrodAll enc Try.prog W 0 (fun _ => true) true Try.f6.params.toList args.toList ds p := hA0
 rw [Try.params6] at hA hval
 obtain ⟨v0, vs0, d0, ds0, p0, q0, hargs, rfl, rfl, h0, r0⟩ := trodAll_cons hA
 obtain ⟨v1, vs1, d1, ds1, p1, q1, rfl, rfl, rfl, h1, r1⟩ := trodAll_cons r0
 obtain ⟨v2, vs2, d2, ds2, p2, q2, rfl, rfl, rfl, h2, r2⟩ := trodAll_cons r1
 obtain ⟨rfl, rfl, rfl⟩ := trodAll_nil r2
 obtain rfl : args = #[v0, v1, v2] := by cases args; simp_all
 obtain ⟨rfl, rfl⟩ := trodVars_none hV
 obtain ⟨a0, rfl, rfl, rfl, w0⟩ := open_int Try.underlying5 (hval 0 5 v0 rfl rfl) h0
 obtain ⟨a1, rfl, rfl, rfl, w1⟩ := open_int Try.underlying5 (hval 1 5 v1 rfl rfl) h1
 have k2 := h2
 have lt2 : ∀ x ∈ p2, x.block < W.heap.size := by obtain ⟨m, hm⟩ := k2; exact DataW.trod_lt m _ _ _ hm
 have o2 := (opens_array Try.underlying34 (by rfl) (opensSeg_cons (opens_slice Try.underlying22 (opens_int Try.underlying5) (by kernel_rfl)) (opensSeg_one (opens_slice Try.underlying22 (opens_int Try.underlying5) (by kernel_rfl)))) (by kernel_rfl))
 obtain ⟨cs2, rfl, _⟩ := okWide_array Try.underlying34 (hval 2 34 v2 rfl rfl)
 obtain ⟨fu2, hf2⟩ := h2
 obtain ⟨⟨l2_0, l2_1⟩, K2, F2⟩ := o2.out hf2
 clear hf2 o2
 obtain ⟨_, _, e2, ⟨A2_0, c2_0, rfl, hc2_0, hr2_0⟩, ⟨A2_1, c2_1, rfl, hc2_1, hr2_1⟩⟩ := K2
 have ev2 : cs2 = #[.slice A2_0 l2_0.length c2_0, .slice A2_1 l2_1.length c2_1] := agg_cells e2
 clear e2
 subst ev2
 clear hA0 hval0 hsz0
 obtain ⟨k, h⟩ := (Pure.FrameApart : pelotonlaw14_FrameApart.Pure) a0 a1 l2_0 l2_1 w0 w1 F2
 refine (pelotonlaw14_FrameApart.calls k a0 a1 _ _ l2_0 _ _ l2_1 true W hr2_0 hc2_0 hr2_1 hc2_1 h).mono fun e W' ⟨he, bel0⟩ => ?_
 have bel : Below W.heap.size W W' := bel0
 subst he
 exact ⟨_, rfl, _, _, _, [], _, [], hW', trodAll_mk1 (shut_bool Try.underlying4 _), (trodAll_cons_mk (shut_int Try.underlying5 w0) (trodAll_cons_mk (shut_int Try.underlying5 w1) (trodAll_cons_mk (Below.trod laidOut (by kernel_rfl) (of_decide_eq_true (by kernel_rfl)) k2 bel lt2) trodAll_mk0))), rfl, bel.frame _, fun h => by cases h⟩
theorem over : Rows.frameApartRow.holds Try.pinned (OpenSpec.ofChange Rows.frameApartSpec) :=
 OpenClaim.holds_of_wide 6 Try.f6 rfl rfl rfl rfl rfl rfl rfl ⟨rfl, rfl, rfl, rfl, rfl⟩ rfl rfl rfl rfl rfl (by kernel_rfl) Try.func6 (by kernel_rfl)
  (of_decide_eq_true (by kernel_rfl)) (by unfold Func.isWrapper; first | (rw [if_pos (by decide +kernel)]; kernel_rfl) | (rw [if_neg (by decide +kernel)]; exact ⟨rfl, rfl⟩))
  (fun os started H enc _ => lifted os started H enc)
theorem proved : Rows.FrameApartSaid := over
#print axioms proved
end Go.Proofs.Ytofoimndhndffaa.frameApart
namespace Go.Proofs.Ytofoimndhndffaa
/-- The row, under a short name, for the claim. -/
theorem frameApart_holds : Rows.FrameApartSaid := frameApart.proved
end Go.Proofs.Ytofoimndhndffaa
