/- NetOwn: the statement: for every input the law returns true, and each argument reads behind the call as it read before. No condition. -/
import Derived.Test.YtpaamdppobcmnaaRows
import Derived.Test.YtpaamdppobcmnaaQNetOwnx3
import Derived.Test.YtpaamdppobcmnaaQNetOwnx3
import Derived.Test.YtpaamdppobcmnaaQPureNetOwn
import Derived.Test.YtpaamdppobcmnaaOpens
import Derived.WalkKit
import Derived.ProofKit
import Derived.OpenShut
import Derived.ShutString
import Derived.ChangeOld
import Derived.Below
import Derived.SizedLaws
namespace Go.Proofs.Ytpaamdppobcmnaa.netOwn
open Go.ChangeShapes Go.WideShapes Go.ChangeAt Go.RowKit Go.Proofs.Ytpaamdppobcmnaa.QNetOwn Go.Proofs.Ytpaamdppobcmnaa.Opens Go.Proofs.YtpaamdppobcmnaaW.PrintWords
open Go.ChangeMaps (open_string shut_string)
set_option linter.unusedVariables false
theorem own : ownKnob Try.prog.godebug = none := by kernel_rfl
theorem laidOut : laidOutB Try.prog = true := by kernel_rfl
set_option maxRecDepth 100000 in
set_option maxHeartbeats 1000000 in
theorem lifted (os : Os) (started : os.Started) (H : Type) (enc : TypeId × Value → H) :
  ReturnsInHanded {} Try.checked os 4 .any (Rows.netOwnSpec.pre6 enc Try.prog Try.f4 Rows.netOwnRow.domain false) (Rows.netOwnSpec.post enc Try.prog Try.f4 false true false false) := by
 refine returnsInHanded_of_change_sized (C := Try.checked) own started (by kernel_rfl) Try.func4
  (ChangeSpec.witness6 (enc := enc) (C := Try.checked) false ⟨#[], #[(.agg #[(.int .i64 0), (.int .i64 0), (.slice none 0 0)]), (.int .u8 0)], []⟩ 8 (by kernel_rfl) (by kernel_rfl) (by kernel_rfl) (by kernel_rfl)) ?_
 intro W base args ds gs before hval0 hW hcnd hsz0 _
 have hval : ∀ (j : Nat) t v, Try.f4.params[j]? = some t → args[j]? = some v → Value.okWide Try.prog W .any base t v := hval0
 have hW' := hW
 obtain ⟨p, q, hA0, hV, rfl, hfz, hnd⟩ := hW
 have hA : DataW.TrodAll enc Try.prog W 0 (fun _ => true) true Try.f4.params.toList args.toList ds p := hA0
 rw [Try.params4] at hA hval
 obtain ⟨v0, vs0, d0, ds0, p0, q0, hargs, rfl, rfl, h0, r0⟩ := trodAll_cons hA
 obtain ⟨v1, vs1, d1, ds1, p1, q1, rfl, rfl, rfl, h1, r1⟩ := trodAll_cons r0
 obtain ⟨rfl, rfl, rfl⟩ := trodAll_nil r1
 obtain rfl : args = #[v0, v1] := by cases args; simp_all
 obtain ⟨rfl, rfl⟩ := trodVars_none hV
 have k0 := h0
 have lt0 : ∀ x ∈ p0, x.block < W.heap.size := by obtain ⟨m, hm⟩ := k0; exact DataW.trod_lt m _ _ _ hm
 have o0 := (opens_struct Try.underlying31 (by rfl) (opensSeg_cons (opens_int Try.underlying3) (opensSeg_cons (opens_int Try.underlying3) (opensSeg_one (opens_slice Try.underlying28 (opens_int Try.underlying5) (by kernel_rfl))))) (by kernel_rfl) (by kernel_rfl))
 obtain ⟨cs0, rfl, _⟩ := okWide_struct Try.underlying31 (hval 0 31 v0 rfl rfl)
 obtain ⟨fu0, hf0⟩ := h0
 obtain ⟨⟨a0_0, a0_1, l0_2⟩, K0, F0⟩ := o0.out hf0
 clear hf0 o0
 obtain ⟨_, _, e0, rfl, ⟨_, _, rfl, rfl, ⟨A0_2, c0_2, rfl, hc0_2, hr0_2⟩⟩⟩ := K0
 have ev0 : cs0 = #[.int .i64 a0_0, .int .i64 a0_1, .slice A0_2 l0_2.length c0_2] := agg_cells e0
 clear e0
 subst ev0
 obtain ⟨a1, rfl, rfl, rfl, w1⟩ := open_int Try.underlying5 (hval 1 5 v1 rfl rfl) h1
 clear hA0 hval0 hsz0
 have h := (Pure.NetOwn : pelotonlaw17_NetOwn.Pure) a0_0 a0_1 l0_2 a1 F0 w1
 refine (pelotonlaw17_NetOwn.calls a0_0 a0_1 _ _ l0_2 a1 true W hr0_2 hc0_2 h).mono fun e W' ⟨he, bel0⟩ => ?_
 have bel : Below W.heap.size W W' := bel0
 subst he
 exact ⟨_, rfl, _, _, _, [], _, [], hW', trodAll_mk1 (shut_bool Try.underlying4 _), (trodAll_cons_mk (Below.trod laidOut (by kernel_rfl) (of_decide_eq_true (by kernel_rfl)) k0 bel lt0) (trodAll_cons_mk (shut_int Try.underlying5 w1) trodAll_mk0)), rfl, bel.frame _, fun h => by cases h⟩
theorem over : Rows.netOwnRow.holds Try.pinned (OpenSpec.ofChange Rows.netOwnSpec) :=
 OpenClaim.holds_of_wide 4 Try.f4 rfl rfl rfl rfl rfl rfl rfl ⟨rfl, rfl, rfl, rfl, rfl⟩ rfl rfl rfl rfl rfl (by kernel_rfl) Try.func4 (by kernel_rfl)
  (of_decide_eq_true (by kernel_rfl)) (by unfold Func.isWrapper; first | (rw [if_pos (by decide +kernel)]; kernel_rfl) | (rw [if_neg (by decide +kernel)]; exact ⟨rfl, rfl⟩))
  (fun os started H enc _ => lifted os started H enc)
theorem proved : Rows.NetOwnSaid := over
#print axioms proved
end Go.Proofs.Ytpaamdppobcmnaa.netOwn
namespace Go.Proofs.Ytpaamdppobcmnaa
/-- The row, under a short name, for the claim. -/
theorem netOwn_holds : Rows.NetOwnSaid := netOwn.proved
end Go.Proofs.Ytpaamdppobcmnaa
