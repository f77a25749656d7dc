/- GridParts: the statement: for every input the law returns true, and each argument reads behind the call as it read before. No condition. -/
import Derived.Test.YtggcgacndknlaaaRows
import Derived.Test.YtggcgacndknlaaaQGridPartsx8
import Derived.Test.YtggcgacndknlaaaQGridPartsx8
import Derived.Test.YtggcgacndknlaaaQPureGridParts
import Derived.Test.YtggcgacndknlaaaOpens
import Derived.WalkKit
import Derived.ProofKit
import Derived.OpenShut
import Derived.ShutString
import Derived.ChangeOld
import Derived.Below
import Derived.SizedLaws
namespace Go.Proofs.Ytggcgacndknlaaa.gridParts
open Go.ChangeShapes Go.WideShapes Go.ChangeAt Go.RowKit Go.Proofs.Ytggcgacndknlaaa.QGridParts Go.Proofs.Ytggcgacndknlaaa.Opens Go.Proofs.YtggcgacndknlaaaW.PrintWords
open Go.ChangeMaps (open_string shut_string)
set_option linter.unusedVariables false
theorem own : ownKnob Try.prog.godebug = none := by kernel_rfl
theorem laidOut : laidOutB Try.prog = true := by kernel_rfl
set_option maxRecDepth 100000 in
set_option maxHeartbeats 1000000 in
theorem lifted (os : Os) (started : os.Started) (H : Type) (enc : TypeId × Value → H) :
  ReturnsInHanded {} Try.checked os 9 .any (Rows.gridPartsSpec.pre6 enc Try.prog Try.f9 Rows.gridPartsRow.domain false) (Rows.gridPartsSpec.post enc Try.prog Try.f9 false true false false) := by
 refine returnsInHanded_of_change_sized (C := Try.checked) own started (by kernel_rfl) Try.func9
  (ChangeSpec.witness6 (enc := enc) (C := Try.checked) false ⟨#[], #[(.agg #[(.int .i64 0), (.int .i64 0), (.slice none 0 0)]), (.agg #[(.int .i64 0), (.int .i64 0), (.slice none 0 0)]), (.int .i64 0)], []⟩ 8 (by kernel_rfl) (by kernel_rfl) (by kernel_rfl) (by kernel_rfl)) ?_
 intro W base args ds gs before hval0 hW hcnd hsz0 _
 have hval : ∀ (j : Nat) t v, Try.f9.params[j]? = some t → args[j]? = some v → Value.okWide Try.prog W .any base t v := hval0
 have hW' := hW
 obtain ⟨p, q, hA0, hV, rfl, hfz, hnd⟩ := hW
 have hA : DataW.TrodAll enc Try.prog W 0 (fun _ => true) true Try.f9.params.toList args.toList ds p := hA0
 rw [Try.params9] at hA hval
 obtain ⟨v0, vs0, d0, ds0, p0, q0, hargs, rfl, rfl, h0, r0⟩ := trodAll_cons hA
 obtain ⟨v1, vs1, d1, ds1, p1, q1, rfl, rfl, rfl, h1, r1⟩ := trodAll_cons r0
 obtain ⟨v2, vs2, d2, ds2, p2, q2, rfl, rfl, rfl, h2, r2⟩ := trodAll_cons r1
 obtain ⟨rfl, rfl, rfl⟩ := trodAll_nil r2
 obtain rfl : args = #[v0, v1, v2] := by cases args; simp_all
 obtain ⟨rfl, rfl⟩ := trodVars_none hV
 have k0 := h0
 have lt0 : ∀ x ∈ p0, x.block < W.heap.size := by obtain ⟨m, hm⟩ := k0; exact DataW.trod_lt m _ _ _ hm
 have o0 := (opens_struct Try.underlying24 (by rfl) (opensSeg_cons (opens_int Try.underlying3) (opensSeg_cons (opens_int Try.underlying3) (opensSeg_one (opens_slice Try.underlying22 (opens_int Try.underlying21) (by kernel_rfl))))) (by kernel_rfl) (by kernel_rfl))
 obtain ⟨cs0, rfl, _⟩ := okWide_struct Try.underlying24 (hval 0 24 v0 rfl rfl)
 obtain ⟨fu0, hf0⟩ := h0
 obtain ⟨⟨a0_0, a0_1, l0_2⟩, K0, F0⟩ := o0.out hf0
 clear hf0 o0
 obtain ⟨_, _, e0, rfl, ⟨_, _, rfl, rfl, ⟨A0_2, c0_2, rfl, hc0_2, hr0_2⟩⟩⟩ := K0
 have ev0 : cs0 = #[.int .i64 a0_0, .int .i64 a0_1, .slice A0_2 l0_2.length c0_2] := agg_cells e0
 clear e0
 subst ev0
 have k1 := h1
 have lt1 : ∀ x ∈ p1, x.block < W.heap.size := by obtain ⟨m, hm⟩ := k1; exact DataW.trod_lt m _ _ _ hm
 have o1 := (opens_struct Try.underlying24 (by rfl) (opensSeg_cons (opens_int Try.underlying3) (opensSeg_cons (opens_int Try.underlying3) (opensSeg_one (opens_slice Try.underlying22 (opens_int Try.underlying21) (by kernel_rfl))))) (by kernel_rfl) (by kernel_rfl))
 obtain ⟨cs1, rfl, _⟩ := okWide_struct Try.underlying24 (hval 1 24 v1 rfl rfl)
 obtain ⟨fu1, hf1⟩ := h1
 obtain ⟨⟨a1_0, a1_1, l1_2⟩, K1, F1⟩ := o1.out hf1
 clear hf1 o1
 obtain ⟨_, _, e1, rfl, ⟨_, _, rfl, rfl, ⟨A1_2, c1_2, rfl, hc1_2, hr1_2⟩⟩⟩ := K1
 have ev1 : cs1 = #[.int .i64 a1_0, .int .i64 a1_1, .slice A1_2 l1_2.length c1_2] := agg_cells e1
 clear e1
 subst ev1
 obtain ⟨a2, rfl, rfl, rfl, w2⟩ := open_int Try.underlying3 (hval 2 3 v2 rfl rfl) h2
 clear hA0 hval0 hsz0
 obtain ⟨k, h⟩ := (Pure.GridParts : pelotonlaw03_GridParts.Pure) a0_0 a0_1 l0_2 a1_0 a1_1 l1_2 a2 F0 F1 w2
 refine (pelotonlaw03_GridParts.calls k a0_0 a0_1 _ _ l0_2 a1_0 a1_1 _ _ l1_2 a2 true W hr0_2 hc0_2 hr1_2 hc1_2 h).mono fun e W' ⟨he, bel0⟩ => ?_
 have bel : Below W.heap.size W W' := bel0
 subst he
 exact ⟨_, rfl, _, _, _, [], _, [], hW', trodAll_mk1 (shut_bool Try.underlying4 _), (trodAll_cons_mk (Below.trod laidOut (by kernel_rfl) (of_decide_eq_true (by kernel_rfl)) k0 bel lt0) (trodAll_cons_mk (Below.trod laidOut (by kernel_rfl) (of_decide_eq_true (by kernel_rfl)) k1 bel lt1) (trodAll_cons_mk (shut_int Try.underlying3 w2) trodAll_mk0))), rfl, bel.frame _, fun h => by cases h⟩
theorem over : Rows.gridPartsRow.holds Try.pinned (OpenSpec.ofChange Rows.gridPartsSpec) :=
 OpenClaim.holds_of_wide 9 Try.f9 rfl rfl rfl rfl rfl rfl rfl ⟨rfl, rfl, rfl, rfl, rfl⟩ rfl rfl rfl rfl rfl (by kernel_rfl) Try.func9 (by kernel_rfl)
  (of_decide_eq_true (by kernel_rfl)) (by unfold Func.isWrapper; first | (rw [if_pos (by decide +kernel)]; kernel_rfl) | (rw [if_neg (by decide +kernel)]; exact ⟨rfl, rfl⟩))
  (fun os started H enc _ => lifted os started H enc)
theorem proved : Rows.GridPartsSaid := over
#print axioms proved
end Go.Proofs.Ytggcgacndknlaaa.gridParts
namespace Go.Proofs.Ytggcgacndknlaaa
/-- The row, under a short name, for the claim. -/
theorem gridParts_holds : Rows.GridPartsSaid := gridParts.proved
end Go.Proofs.Ytggcgacndknlaaa
