/- NetActs: the statement: for every input the law returns true, and each argument reads behind the call as it read before. No condition. -/
import Derived.Test.YtpaamdppobcmnaaRows
import Derived.Test.YtpaamdppobcmnaaQNetActsx6
import Derived.Test.YtpaamdppobcmnaaQNetActsx6
import Derived.Test.YtpaamdppobcmnaaQPureNetActs
import Derived.Test.YtpaamdppobcmnaaOpens
import Derived.WalkKit
import Derived.ProofKit
import Derived.OpenShut
import Derived.ShutString
import Derived.ChangeOld
import Derived.Below
import Derived.SizedLaws
namespace Go.Proofs.Ytpaamdppobcmnaa.netActs
open Go.ChangeShapes Go.WideShapes Go.ChangeAt Go.RowKit Go.Proofs.Ytpaamdppobcmnaa.QNetActs Go.Proofs.Ytpaamdppobcmnaa.Opens Go.Proofs.YtpaamdppobcmnaaW.PrintWords
open Go.ChangeMaps (open_string shut_string)
set_option linter.unusedVariables false
theorem own : ownKnob Try.prog.godebug = none := by kernel_rfl
theorem laidOut : laidOutB Try.prog = true := by kernel_rfl
set_option maxRecDepth 100000 in
set_option maxHeartbeats 1000000 in
theorem lifted (os : Os) (started : os.Started) (H : Type) (enc : TypeId × Value → H) :
  ReturnsInHanded {} Try.checked os 5 .any (Rows.netActsSpec.pre6 enc Try.prog Try.f5 Rows.netActsRow.domain false) (Rows.netActsSpec.post enc Try.prog Try.f5 false true false false) := by
 refine returnsInHanded_of_change_sized (C := Try.checked) own started (by kernel_rfl) Try.func5
  (ChangeSpec.witness6 (enc := enc) (C := Try.checked) false ⟨#[], #[(.int .i64 0), (.slice none 0 0)], []⟩ 8 (by kernel_rfl) (by kernel_rfl) (by kernel_rfl) (by kernel_rfl)) ?_
 intro W base args ds gs before hval0 hW hcnd hsz0 _
 have hval : ∀ (j : Nat) t v, Try.f5.params[j]? = some t → args[j]? = some v → Value.okWide Try.prog W .any base t v := hval0
 have hW' := hW
 obtain ⟨p, q, hA0, hV, rfl, hfz, hnd⟩ := hW
 have hA : DataW.TrodAll enc Try.prog W 0 (fun _ => true) true Try.f5.params.toList args.toList ds p := hA0
 rw [Try.params5] at hA hval
 obtain ⟨v0, vs0, d0, ds0, p0, q0, hargs, rfl, rfl, h0, r0⟩ := trodAll_cons hA
 obtain ⟨v1, vs1, d1, ds1, p1, q1, rfl, rfl, rfl, h1, r1⟩ := trodAll_cons r0
 obtain ⟨rfl, rfl, rfl⟩ := trodAll_nil r1
 obtain rfl : args = #[v0, v1] := by cases args; simp_all
 obtain ⟨rfl, rfl⟩ := trodVars_none hV
 obtain ⟨a0, rfl, rfl, rfl, w0⟩ := open_int Try.underlying3 (hval 0 3 v0 rfl rfl) h0
 have k1 := h1
 have lt1 : ∀ x ∈ p1, x.block < W.heap.size := by obtain ⟨m, hm⟩ := k1; exact DataW.trod_lt m _ _ _ hm
 have o1 := (opens_slice Try.underlying40 (opens_iso (opens_struct Try.underlying47 (by rfl) (opensSeg_cons (opens_int Try.underlying3) (opensSeg_cons (opens_int Try.underlying3) (opensSeg_cons (opens_int Try.underlying3) (opensSeg_cons (opens_int Try.underlying5) (opensSeg_one (opens_iso (opens_struct Try.underlying31 (by rfl) (opensSeg_cons (opens_int Try.underlying3) (opensSeg_cons (opens_int Try.underlying3) (opensSeg_one (opens_slice Try.underlying28 (opens_int Try.underlying5) (by kernel_rfl))))) (by kernel_rfl) (by kernel_rfl)) (fun x : S31 => (x.f0, x.f1, x.f2)) (fun p => (⟨p.1, p.2.1, p.2.2⟩ : S31)) (fun _ => rfl))))))) (by kernel_rfl) (by kernel_rfl)) (fun x : S47 => (x.f0, x.f1, x.f2, x.f3, x.f4)) (fun p => (⟨p.1, p.2.1, p.2.2.1, p.2.2.2.1, p.2.2.2.2⟩ : S47)) (fun _ => rfl)) (by kernel_rfl))
 obtain ⟨aa1, len1, cap1, rfl⟩ := okWide_slice Try.underlying40 (hval 1 40 v1 rfl rfl)
 obtain ⟨fu1, hf1⟩ := h1
 obtain ⟨l1, K1, F1⟩ := o1.out hf1
 clear hf1 o1
 obtain ⟨A1, c1, hcs1, hc1, hr1⟩ := K1
 simp [Value.cells] at hcs1
 obtain ⟨rfl, rfl, rfl⟩ := hcs1
 clear hA0 hval0 hsz0
 have h := (Pure.NetActs : pelotonlaw17_NetActs.Pure) a0 l1 w0 F1
 refine (pelotonlaw17_NetActs.calls a0 _ _ l1 true W hr1 hc1 h).mono fun e W' ⟨he, bel0⟩ => ?_
 have bel : Below W.heap.size W W' := bel0
 subst he
 exact ⟨_, rfl, _, _, _, [], _, [], hW', trodAll_mk1 (shut_bool Try.underlying4 _), (trodAll_cons_mk (shut_int Try.underlying3 w0) (trodAll_cons_mk (Below.trod laidOut (by kernel_rfl) (of_decide_eq_true (by kernel_rfl)) k1 bel lt1) trodAll_mk0)), rfl, bel.frame _, fun h => by cases h⟩
theorem over : Rows.netActsRow.holds Try.pinned (OpenSpec.ofChange Rows.netActsSpec) :=
 OpenClaim.holds_of_wide 5 Try.f5 rfl rfl rfl rfl rfl rfl rfl ⟨rfl, rfl, rfl, rfl, rfl⟩ rfl rfl rfl rfl rfl (by kernel_rfl) Try.func5 (by kernel_rfl)
  (of_decide_eq_true (by kernel_rfl)) (by unfold Func.isWrapper; first | (rw [if_pos (by decide +kernel)]; kernel_rfl) | (rw [if_neg (by decide +kernel)]; exact ⟨rfl, rfl⟩))
  (fun os started H enc _ => lifted os started H enc)
theorem proved : Rows.NetActsSaid := over
#print axioms proved
end Go.Proofs.Ytpaamdppobcmnaa.netActs
namespace Go.Proofs.Ytpaamdppobcmnaa
/-- The row, under a short name, for the claim. -/
theorem netActs_holds : Rows.NetActsSaid := netActs.proved
end Go.Proofs.Ytpaamdppobcmnaa
