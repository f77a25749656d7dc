/- GridSpreads: the statement: for every input the law returns true, and each argument reads behind the call as it read before. No condition. -/
import Derived.Test.YtggcgacndknlaaaRows
import Derived.Test.YtggcgacndknlaaaQGridSpreadsx6
import Derived.Test.YtggcgacndknlaaaQGridSpreadsx6
import Derived.Test.YtggcgacndknlaaaQPureGridSpreads
import Derived.Test.YtggcgacndknlaaaOpens
import Derived.WalkKit
import Derived.ProofKit
import Derived.OpenShut
import Derived.ShutString
import Derived.ChangeOld
import Derived.Below
import Derived.SizedLaws
namespace Go.Proofs.Ytggcgacndknlaaa.gridSpreads
open Go.ChangeShapes Go.WideShapes Go.ChangeAt Go.RowKit Go.Proofs.Ytggcgacndknlaaa.QGridSpreads Go.Proofs.Ytggcgacndknlaaa.Opens Go.Proofs.YtggcgacndknlaaaW.PrintWords
open Go.ChangeMaps (open_string shut_string)
set_option linter.unusedVariables false
theorem own : ownKnob Try.prog.godebug = none := by kernel_rfl
theorem laidOut : laidOutB Try.prog = true := by kernel_rfl
set_option maxRecDepth 100000 in
set_option maxHeartbeats 1000000 in
theorem lifted (os : Os) (started : os.Started) (H : Type) (enc : TypeId × Value → H) :
  ReturnsInHanded {} Try.checked os 5 .any (Rows.gridSpreadsSpec.pre6 enc Try.prog Try.f5 Rows.gridSpreadsRow.domain false) (Rows.gridSpreadsSpec.post enc Try.prog Try.f5 false true false false) := by
 refine returnsInHanded_of_change_sized (C := Try.checked) own started (by kernel_rfl) Try.func5
  (ChangeSpec.witness6 (enc := enc) (C := Try.checked) false ⟨#[], #[(.agg #[(.int .i64 0), (.int .i64 0), (.slice none 0 0)]), (.agg #[(.int .i64 0), (.int .i64 0), (.slice none 0 0)]), (.agg #[(.int .i64 0), (.int .i64 0), (.slice none 0 0)])], []⟩ 8 (by kernel_rfl) (by kernel_rfl) (by kernel_rfl) (by kernel_rfl)) ?_
 intro W base args ds gs before hval0 hW hcnd hsz0 _
 have hval : ∀ (j : Nat) t v, Try.f5.params[j]? = some t → args[j]? = some v → Value.okWide Try.prog W .any base t v := hval0
 have hW' := hW
 obtain ⟨p, q, hA0, hV, rfl, hfz, hnd⟩ := hW
 have hA : DataW.TrodAll enc Try.prog W 0 (fun _ => true) true Try.f5.params.toList args.toList ds p := hA0
 rw [Try.params5] at hA hval
 obtain ⟨v0, vs0, d0, ds0, p0, q0, hargs, rfl, rfl, h0, r0⟩ := trodAll_cons hA
 obtain ⟨v1, vs1, d1, ds1, p1, q1, rfl, rfl, rfl, h1, r1⟩ := trodAll_cons r0
 obtain ⟨v2, vs2, d2, ds2, p2, q2, rfl, rfl, rfl, h2, r2⟩ := trodAll_cons r1
 obtain ⟨rfl, rfl, rfl⟩ := trodAll_nil r2
 obtain rfl : args = #[v0, v1, v2] := by cases args; simp_all
 obtain ⟨rfl, rfl⟩ := trodVars_none hV
 have k0 := h0
 have lt0 : ∀ x ∈ p0, x.block < W.heap.size := by obtain ⟨m, hm⟩ := k0; exact DataW.trod_lt m _ _ _ hm
 have o0 := (opens_struct Try.underlying24 (by rfl) (opensSeg_cons (opens_int Try.underlying3) (opensSeg_cons (opens_int Try.underlying3) (opensSeg_one (opens_slice Try.underlying22 (opens_int Try.underlying21) (by kernel_rfl))))) (by kernel_rfl) (by kernel_rfl))
 obtain ⟨cs0, rfl, _⟩ := okWide_struct Try.underlying24 (hval 0 24 v0 rfl rfl)
 obtain ⟨fu0, hf0⟩ := h0
 obtain ⟨⟨a0_0, a0_1, l0_2⟩, K0, F0⟩ := o0.out hf0
 clear hf0 o0
 obtain ⟨_, _, e0, rfl, ⟨_, _, rfl, rfl, ⟨A0_2, c0_2, rfl, hc0_2, hr0_2⟩⟩⟩ := K0
 have ev0 : cs0 = #[.int .i64 a0_0, .int .i64 a0_1, .slice A0_2 l0_2.length c0_2] := agg_cells e0
 clear e0
 subst ev0
 have k1 := h1
 have lt1 : ∀ x ∈ p1, x.block < W.heap.size := by obtain ⟨m, hm⟩ := k1; exact DataW.trod_lt m _ _ _ hm
 have o1 := (opens_struct Try.underlying24 (by rfl) (opensSeg_cons (opens_int Try.underlying3) (opensSeg_cons (opens_int Try.underlying3) (opensSeg_one (opens_slice Try.underlying22 (opens_int Try.underlying21) (by kernel_rfl))))) (by kernel_rfl) (by kernel_rfl))
 obtain ⟨cs1, rfl, _⟩ := okWide_struct Try.underlying24 (hval 1 24 v1 rfl rfl)
 obtain ⟨fu1, hf1⟩ := h1
 obtain ⟨⟨a1_0, a1_1, l1_2⟩, K1, F1⟩ := o1.out hf1
 clear hf1 o1
 obtain ⟨_, _, e1, rfl, ⟨_, _, rfl, rfl, ⟨A1_2, c1_2, rfl, hc1_2, hr1_2⟩⟩⟩ := K1
 have ev1 : cs1 = #[.int .i64 a1_0, .int .i64 a1_1, .slice A1_2 l1_2.length c1_2] := agg_cells e1
 clear e1
 subst ev1
 have k2 := h2
 have lt2 : ∀ x ∈ p2, x.block < W.heap.size := by obtain ⟨m, hm⟩ := k2; exact DataW.trod_lt m _ _ _ hm
 have o2 := (opens_struct Try.underlying24 (by rfl) (opensSeg_cons (opens_int Try.underlying3) (opensSeg_cons (opens_int Try.underlying3) (opensSeg_one (opens_slice Try.underlying22 (opens_int Try.underlying21) (by kernel_rfl))))) (by kernel_rfl) (by kernel_rfl))
 obtain ⟨cs2, rfl, _⟩ := okWide_struct Try.underlying24 (hval 2 24 v2 rfl rfl)
 obtain ⟨fu2, hf2⟩ := h2
 obtain ⟨⟨a2_0, a2_1, l2_2⟩, K2, F2⟩ := o2.out hf2
 clear hf2 o2
 obtain ⟨_, _, e2, rfl, ⟨_, _, rfl, rfl, ⟨A2_2, c2_2, rfl, hc2_2, hr2_2⟩⟩⟩ := K2
 have ev2 : cs2 = #[.int .i64 a2_0, .int .i64 a2_1, .slice A2_2 l2_2.length c2_2] := agg_cells e2
 clear e2
 subst ev2
 clear hA0 hval0 hsz0
 obtain ⟨k, h⟩ := (Pure.GridSpreads : pelotonlaw03_GridSpreads.Pure) a0_0 a0_1 l0_2 a1_0 a1_1 l1_2 a2_0 a2_1 l2_2 F0 F1 F2
 refine (pelotonlaw03_GridSpreads.calls k a0_0 a0_1 _ _ l0_2 a1_0 a1_1 _ _ l1_2 a2_0 a2_1 _ _ l2_2 true W hr0_2 hc0_2 hr1_2 hc1_2 hr2_2 hc2_2 h).mono fun e W' ⟨he, bel0⟩ => ?_
 have bel : Below W.heap.size W W' := bel0
 subst he
 exact ⟨_, rfl, _, _, _, [], _, [], hW', trodAll_mk1 (shut_bool Try.underlying4 _), (trodAll_cons_mk (Below.trod laidOut (by kernel_rfl) (of_decide_eq_true (by kernel_rfl)) k0 bel lt0) (trodAll_cons_mk (Below.trod laidOut (by kernel_rfl) (of_decide_eq_true (by kernel_rfl)) k1 bel lt1) (trodAll_cons_mk (Below.trod laidOut (by kernel_rfl) (of_decide_eq_true (by kernel_rfl)) k2 bel lt2) trodAll_mk0))), rfl, bel.frame _, fun h => by cases h⟩
theorem over : Rows.gridSpreadsRow.holds Try.pinned (OpenSpec.ofChange Rows.gridSpreadsSpec) :=
 OpenClaim.holds_of_wide 5 Try.f5 rfl rfl rfl rfl rfl rfl rfl ⟨rfl, rfl, rfl, rfl, rfl⟩ rfl rfl rfl rfl rfl (by kernel_rfl) Try.func5 (by kernel_rfl)
  (of_decide_eq_true (by kernel_rfl)) (by unfold Func.isWrapper; first | (rw [if_pos (by decide +kernel)]; kernel_rfl) | (rw [if_neg (by decide +kernel)]; exact ⟨rfl, rfl⟩))
  (fun os started H enc _ => lifted os started H enc)
theorem proved : Rows.GridSpreadsSaid := over
#print axioms proved
end Go.Proofs.Ytggcgacndknlaaa.gridSpreads
namespace Go.Proofs.Ytggcgacndknlaaa
/-- The row, under a short name, for the claim. -/
theorem gridSpreads_holds : Rows.GridSpreadsSaid := gridSpreads.proved
end Go.Proofs.Ytggcgacndknlaaa
