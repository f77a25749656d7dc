/- SliceOwns: the law's plain part: what its functions compute answers true, for all arguments of its types. No condition beside the given bounds. -/
import Derived.Test.YtijkcjlkfjeedaaQSliceOwnsx7
import Derived.Test.YtijkcjlkfjeedaaMath
namespace Go.Proofs.Ytijkcjlkfjeedaa.Pure
open Go.RowKit Go.Proofs.Ytijkcjlkfjeedaa.QSliceOwns Go.Proofs.YtijkcjlkfjeedaaW.PrintWords Go.Proofs.YtijkcjlkfjeedaaW.PrintLast Go.Proofs.YtijkcjlkfjeedaaW.PrintMore Go.PelMath
set_option linter.unusedVariables false
set_option linter.unusedSimpArgs false
theorem wf64 {x : Int} (h : (Lit.int .i64 x).wf = true) : -9223372036854775808 ≤ x ∧ x ≤ 9223372036854775807 := by
  simp [Lit.wf, IntKind.min, IntKind.max, IntKind.bits, IntKind.signed] at h; omega
theorem wf32 {x : Int} (h : (Lit.int .i32 x).wf = true) : -2147483648 ≤ x ∧ x ≤ 2147483647 := by
  simp [Lit.wf, IntKind.min, IntKind.max, IntKind.bits, IntKind.signed] at h; omega
theorem wf8 {x : Int} (h : (Lit.int .i8 x).wf = true) : -128 ≤ x ∧ x ≤ 127 := by
  simp [Lit.wf, IntKind.min, IntKind.max, IntKind.bits, IntKind.signed] at h; omega

theorem wrap32_range (x : Int) : -2147483648 ≤ wrap32 x ∧ wrap32 x ≤ 2147483647 := by unfold wrap32; omega
theorem wrap32_0 : wrap32 0 = 0 := by unfold wrap32; omega
theorem rd_nat (l : List Int) (i : Nat) (h : i < l.length) : rd l (i : Int) = l[i] := by
  unfold rd; simp [List.getD, h]
theorem drop_cons (l : List Int) (i : Nat) (h : i < l.length) : l.drop i = rd l (i : Int) :: l.drop (i + 1) := by
  rw [rd_nat l i h, List.drop_eq_getElem_cons h]
theorem rd_mem (l : List Int) (i : Nat) (h : i < l.length) : rd l (i : Int) ∈ l := by rw [rd_nat l i h]; exact List.getElem_mem h
theorem next (i n : Nat) (h : i < n) (hn : n ≤ 9223372036854775807) : wrap64 ((i : Int) + 1) = ((i + 1 : Nat) : Int) := by
  rw [wrap64_wf _ (by omega) (by omega)]; omega

def RightS (L W H I V P : Int) : Prop := (1 ≤ L ∧ L ≤ 16) ∧ (1 ≤ H ∧ H ≤ 16) ∧ (2 ≤ W ∧ W ≤ 128) ∧ W % (2 * H) = 0 ∧ (1 ≤ I ∧ I ≤ 256) ∧ (1 ≤ V ∧ V ≤ 512) ∧ (1 ≤ P ∧ P ≤ 256)
instance (L W H I V P : Int) : Decidable (RightS L W H I V P) := by unfold RightS; infer_instance

theorem in_eq (n a b : Int) : weight_in.f n a b = some (decide (a ≤ n ∧ n ≤ b)) := by
  unfold weight_in.f
  by_cases h : n ≥ a
  · rw [if_pos h]
    by_cases h2 : n ≤ b
    · rw [decide_eq_true h2, decide_eq_true ⟨h, h2⟩]
    · rw [decide_eq_false h2, decide_eq_false (fun x => h2 x.2)]
  · rw [if_neg h, decide_eq_false (fun x => h x.1)]
theorem wright_eq (L W H I V P : Int) : weight_Right.f L W H I V P = some (decide (RightS L W H I V P)) := by
  unfold weight_Right.f
  simp only [in_eq, Option.bind_some, decide_eq_true_eq]
  by_cases h1 : 1 ≤ L ∧ L ≤ 16
  · rw [if_pos h1]
    by_cases h2 : 1 ≤ H ∧ H ≤ 16
    · rw [if_pos h2]
      by_cases h3 : 2 ≤ W ∧ W ≤ 128
      · rw [if_pos h3, wrap64_wf (2 * H) (by omega) (by omega), if_neg (by omega), Int.tmod_eq_emod_of_nonneg (by omega)]
        by_cases h4 : W % (2 * H) = 0
        · rw [if_pos h4]
          by_cases h5 : 1 ≤ I ∧ I ≤ 256
          · rw [if_pos h5]
            by_cases h6 : 1 ≤ V ∧ V ≤ 512
            · rw [if_pos h6]
              by_cases h7 : 1 ≤ P ∧ P ≤ 256
              · have hm : RightS L W H I V P := ⟨h1, h2, h3, h4, h5, h6, h7⟩
                rw [decide_eq_true hm, decide_eq_true h7]
              · rw [decide_eq_false h7, decide_eq_false (fun x => h7 x.2.2.2.2.2.2)]
            · rw [if_neg h6, decide_eq_false (fun x => h6 x.2.2.2.2.2.1)]
          · rw [if_neg h5, decide_eq_false (fun x => h5 x.2.2.2.2.1)]
        · rw [if_neg h4, decide_eq_false (fun x => h4 x.2.2.2.1)]
      · rw [if_neg h3, decide_eq_false (fun x => h3 x.2.2.1)]
    · rw [if_neg h2, decide_eq_false (fun x => h2 x.2.1)]
  · rw [if_neg h1, decide_eq_false (fun x => h1 x.1)]

def FitsS (S Q : Int) : Prop := (1 ≤ S ∧ S ≤ 64) ∧ (1 ≤ Q ∧ Q ≤ 64)
instance (S Q : Int) : Decidable (FitsS S Q) := by unfold FitsS; infer_instance
theorem fits_eq (S Q : Int) : slice_fits.f S Q = some (decide (FitsS S Q)) := by
  unfold slice_fits.f
  by_cases h1 : S ≥ 1
  · rw [if_pos h1]
    by_cases h2 : S ≤ 64
    · rw [if_pos h2]
      by_cases h3 : Q ≥ 1
      · rw [if_pos h3]
        by_cases h4 : Q ≤ 64
        · have hm : FitsS S Q := ⟨⟨h1, h2⟩, ⟨h3, h4⟩⟩
          rw [decide_eq_true h4, decide_eq_true hm]
        · rw [decide_eq_false h4, decide_eq_false (fun x => h4 x.2.2)]
      · rw [if_neg h3, decide_eq_false (fun x => h3 x.2.1)]
    · rw [if_neg h2, decide_eq_false (fun x => h2 x.1.2)]
  · rw [if_neg h1, decide_eq_false (fun x => h1 x.1.1)]

theorem div_b' (x p : Int) (h0 : 0 ≤ x) (hp : 1 ≤ p) : 0 ≤ x / p ∧ x / p ≤ x :=
  ⟨Int.ediv_nonneg h0 (by omega), Int.ediv_le_self _ h0⟩
theorem mulb10 {a b A B : Int} (h0 : 0 ≤ a) (h1 : a ≤ A) (h2 : 0 ≤ b) (h3 : b ≤ B) : 0 ≤ a * b ∧ a * b ≤ A * B :=
  ⟨Int.mul_nonneg h0 h2, Int.mul_le_mul h1 h3 h2 (Int.le_trans h0 h1)⟩

def CutS (L W H I V P S Q : Int) : Prop := RightS L W H I V P ∧ FitsS S Q ∧ S ≤ L ∧ H % Q = 0 ∧ I % Q = 0 ∧ S * Q ≤ 64
instance (L W H I V P S Q : Int) : Decidable (CutS L W H I V P S Q) := by unfold CutS; infer_instance
theorem sright_eq (L W H I V P S Q : Int) : slice_Right.f L W H I V P S Q = some (decide (CutS L W H I V P S Q)) := by
  unfold slice_Right.f
  rw [wright_eq L W H I V P, Option.bind_some, fits_eq S Q]
  simp only [Option.bind_some, decide_eq_true_eq]
  by_cases h1 : RightS L W H I V P
  · rw [if_pos h1]
    by_cases h2 : FitsS S Q
    · rw [if_pos h2]
      obtain ⟨⟨s1, s2⟩, q1, q2⟩ := id h2
      have hb := mulb10 (show 0 ≤ S by omega) s2 (show 0 ≤ Q by omega) q2
      obtain ⟨_, ⟨hh1, hh2⟩, _, _, ⟨i1, i2⟩, _⟩ := id h1
      by_cases h3 : S ≤ L
      · rw [if_pos h3, if_neg (by omega), Int.tmod_eq_emod_of_nonneg (by omega), Int.tmod_eq_emod_of_nonneg (by omega), wrap64_wf (S * Q) (by omega) (by omega)]
        by_cases h4 : H % Q = 0
        · rw [if_pos h4]
          by_cases h5 : I % Q = 0
          · rw [if_pos h5]
            by_cases h6 : S * Q ≤ 64
            · have hm : CutS L W H I V P S Q := ⟨h1, h2, h3, h4, h5, h6⟩
              rw [decide_eq_true h6, decide_eq_true hm]
            · rw [decide_eq_false h6, decide_eq_false (fun x => h6 x.2.2.2.2.2)]
          · rw [if_neg h5, decide_eq_false (fun x => h5 x.2.2.2.2.1)]
        · rw [if_neg h4, decide_eq_false (fun x => h4 x.2.2.2.1)]
      · rw [if_neg h3, decide_eq_false (fun x => h3 x.2.2.1)]
    · rw [if_neg h2, decide_eq_false (fun x => h2 x.2.1)]
  · rw [if_neg h1, decide_eq_false (fun x => h1 x.1)]
theorem cut_facts {L W H I V P S Q : Int} (h : CutS L W H I V P S Q) : 1 ≤ S ∧ S ≤ 16 ∧ 1 ≤ Q ∧ Q ≤ 16 ∧ 1 ≤ L ∧ L ≤ 16 ∧ 1 ≤ H ∧ H ≤ 16 ∧ 1 ≤ I ∧ I ≤ 256 := by
  obtain ⟨⟨⟨l1, l2⟩, ⟨h1, h2⟩, _, _, ⟨i1, i2⟩, _⟩, ⟨⟨s1, s2⟩, q1, q2⟩, hsl, hq, hi, hsq⟩ := h
  have hqh : Q ≤ H := Int.le_of_dvd (by omega) (Int.dvd_of_emod_eq_zero hq)
  omega

theorem workers_eq (L W H I V P S Q : Int) : slice_Workers.f L W H I V P S Q = some (if CutS L W H I V P S Q then S * Q else 0) := by
  unfold slice_Workers.f
  rw [sright_eq _ _ _ _ _ _ _ _]
  simp only [Option.bind_some, decide_eq_true_eq]
  by_cases h : CutS L W H I V P S Q
  · have hf := cut_facts h
    have hb := mulb10 (show 0 ≤ S by omega) (show S ≤ 64 by omega) (show 0 ≤ Q by omega) (show Q ≤ 64 by omega)
    rw [if_pos h, if_pos h, wrap64_wf _ (by omega) (by omega)]
  · rw [if_neg h, if_neg h]

def spanS (i n p : Int) : Int × Int := (i * n / p, (i + 1) * n / p)
theorem span_b (i n p : Int) (h0 : 0 ≤ i) (h1 : i < p) (hp : p ≤ 64) (n0 : 0 ≤ n) (n1 : n ≤ 512) : 0 ≤ i * n ∧ i * n ≤ 64 * 512 ∧ 0 ≤ (i + 1) * n ∧ (i + 1) * n ≤ 64 * 512 := by
  have a := mulb10 h0 (show i ≤ 64 by omega) n0 n1
  have b := mulb10 (show 0 ≤ i + 1 by omega) (show i + 1 ≤ 64 by omega) n0 n1
  omega
theorem div_b (x p : Int) (h0 : 0 ≤ x) (hp : 1 ≤ p) : 0 ≤ x / p ∧ x / p ≤ x :=
  ⟨Int.ediv_nonneg h0 (by omega), Int.ediv_le_self _ h0⟩
theorem spanval (i n p : Int) (h0 : 0 ≤ i) (h1 : i < p) (hp : p ≤ 64) (n0 : 0 ≤ n) (n1 : n ≤ 512) : wrap64 (Int.tdiv (wrap64 (i * n)) p) = i * n / p ∧ wrap64 (Int.tdiv (wrap64 ((wrap64 (i + 1)) * n)) p) = (i + 1) * n / p := by
  have hb := span_b i n p h0 h1 hp n0 n1
  have d1 := div_b (i * n) p hb.1 (by omega)
  have d2 := div_b ((i + 1) * n) p hb.2.2.1 (by omega)
  constructor
  · rw [wrap64_wf (i * n) (by omega) (by omega), Int.tdiv_eq_ediv_of_nonneg hb.1, wrap64_wf _ (by omega) (by omega)]
  · rw [wrap64_wf (i + 1) (by omega) (by omega), wrap64_wf ((i + 1) * n) (by omega) (by omega), Int.tdiv_eq_ediv_of_nonneg hb.2.2.1, wrap64_wf _ (by omega) (by omega)]
theorem span_no (i n p : Int) : slice_span.f false i n p = some (0, 0, 100) := by simp [slice_span.f]
theorem span_out (i n p : Int) (h : i < 0 ∨ i ≥ p) : slice_span.f true i n p = some (0, 0, 2) := by
  unfold slice_span.f
  by_cases h1 : i < 0
  · rw [if_pos rfl, if_pos h1]
  · rw [if_pos rfl, if_neg h1, if_pos (by omega)]
theorem span_in (i n p : Int) (h0 : 0 ≤ i) (h1 : i < p) (hp : p ≤ 64) (n0 : 0 ≤ n) (n1 : n ≤ 512) : slice_span.f true i n p = some ((spanS i n p).1, (spanS i n p).2, 0) := by
  have hv := spanval i n p h0 h1 hp n0 n1
  unfold slice_span.f
  rw [if_pos rfl, if_neg (by omega), if_neg (by omega), if_neg (by omega), hv.1, hv.2]; rfl

theorem layers_eq (L W H I V P S Q i : Int) : slice_Layers.f L W H I V P S Q i = slice_span.f (decide (CutS L W H I V P S Q)) i L S := by
  unfold slice_Layers.f
  rw [sright_eq _ _ _ _ _ _ _ _, Option.bind_some]
  cases slice_span.f (decide (CutS L W H I V P S Q)) i L S <;> rfl

theorem heads_eq (L W H I V P S Q i : Int) : slice_Heads.f L W H I V P S Q i = slice_span.f (decide (CutS L W H I V P S Q)) i H Q := by
  unfold slice_Heads.f
  rw [sright_eq _ _ _ _ _ _ _ _, Option.bind_some]
  cases slice_span.f (decide (CutS L W H I V P S Q)) i H Q <;> rfl

theorem inner_eq (L W H I V P S Q i : Int) : slice_Inner.f L W H I V P S Q i = slice_span.f (decide (CutS L W H I V P S Q)) i I Q := by
  unfold slice_Inner.f
  rw [sright_eq _ _ _ _ _ _ _ _, Option.bind_some]
  cases slice_span.f (decide (CutS L W H I V P S Q)) i I Q <;> rfl

theorem where_eq (S Q n : Int) (hn : -9223372036854775808 ≤ n ∧ n ≤ 9223372036854775807) : slice_Where.f S Q n = some (if FitsS S Q ∧ 0 ≤ n ∧ n < S * Q then (n / Q, n % Q, true) else (0, 0, false)) := by
  unfold slice_Where.f
  rw [fits_eq S Q]
  simp only [Option.bind_some, decide_eq_true_eq]
  by_cases h1 : FitsS S Q
  · obtain ⟨⟨s1, s2⟩, q1, q2⟩ := id h1
    have hb := mulb10 (show 0 ≤ S by omega) (show S ≤ 64 by omega) (show 0 ≤ Q by omega) (show Q ≤ 64 by omega)
    rw [if_pos h1]
    by_cases h2 : n < 0
    · rw [if_pos h2, if_neg (fun h => by omega)]
    rw [if_neg h2, wrap64_wf (S * Q) (by omega) (by omega)]
    by_cases h3 : n ≥ S * Q
    · rw [if_pos h3, if_neg (fun h => by omega)]
    · have d1 := div_b' n Q (by omega) q1
      rw [if_neg h3, if_neg (by omega), if_pos ⟨h1, by omega, by omega⟩, Int.tdiv_eq_ediv_of_nonneg (by omega), Int.tmod_eq_emod_of_nonneg (by omega), wrap64_wf _ (by omega) (by omega)]
  · rw [if_neg h1, if_neg (fun h => h1 h.1)]

theorem rest7_eq (x n : Int) (hx : -9223372036854775808 ≤ x ∧ x ≤ 9223372036854775807) (h0 : 0 < n) (h1 : n ≤ 4611686018427387904) : ∃ m : Nat, pelotonref07_rest.f x n = some (m : Int) ∧ (m : Int) < n := by
  have g1 := Int.tmod_lt_of_pos x h0
  have g2 := Int.lt_tmod_of_pos x h0
  have e1 := Int.emod_nonneg (Int.tmod x n + n) (show n ≠ 0 by omega)
  have e2 := Int.emod_lt_of_pos (Int.tmod x n + n) h0
  refine ⟨((Int.tmod x n + n) % n).toNat, ?_, by omega⟩
  unfold pelotonref07_rest.f
  rw [if_neg (by omega), wrap64_wf _ (by omega) (by omega), Int.tmod_eq_emod_of_nonneg (by omega), Int.toNat_of_nonneg e1]

theorem tiny_right (n0 n1 n2 n3 n4 n5 : Int) (h : ∀ x ∈ [n0, n1, n2, n3, n4, n5], -9223372036854775808 ≤ x ∧ x ≤ 9223372036854775807) :
    ∃ L W H I V P : Int, pelotonref07_Tiny.f n0 n1 n2 n3 n4 n5 = some (L, W, H, I, V, P) ∧ RightS L W H I V P ∧ L ≤ 3 ∧ W ≤ 16 ∧ H ≤ 4 ∧ I ≤ 8 ∧ V ≤ 10 ∧ P ≤ 12 := by
  obtain ⟨m2, e2, b2⟩ := rest7_eq n2 3 (h _ (by simp)) (by omega) (by omega)
  obtain ⟨m0, e0, b0⟩ := rest7_eq n0 3 (h _ (by simp)) (by omega) (by omega)
  obtain ⟨m1, e1, b1⟩ := rest7_eq n1 2 (h _ (by simp)) (by omega) (by omega)
  obtain ⟨m3, e3, b3⟩ := rest7_eq n3 8 (h _ (by simp)) (by omega) (by omega)
  obtain ⟨m4, e4, b4⟩ := rest7_eq n4 9 (h _ (by simp)) (by omega) (by omega)
  obtain ⟨m5, e5, b5⟩ := rest7_eq n5 9 (h _ (by simp)) (by omega) (by omega)
  unfold pelotonref07_Tiny.f
  rw [e0, e1, e2, e3, e4, e5]
  simp only [Option.bind_some]
  rw [if_pos (by omega), if_pos (by simp; omega)]
  have hh : ∃ H : Int, rd [1, 2, 4] (m2 : Int) = H ∧ (H = 1 ∨ H = 2 ∨ H = 4) := by
    have : m2 = 0 ∨ m2 = 1 ∨ m2 = 2 := by omega
    rcases this with rfl | rfl | rfl
    · exact ⟨1, by rw [rd_nat _ 0 (by simp)]; rfl, by simp⟩
    · exact ⟨2, by rw [rd_nat _ 1 (by simp)]; rfl, by simp⟩
    · exact ⟨4, by rw [rd_nat _ 2 (by simp)]; rfl, by simp⟩
  obtain ⟨H, hH, hcases⟩ := hh
  rw [hH]
  have hm : m1 = 0 ∨ m1 = 1 := by omega
  have hw : wrap64 ((wrap64 (2 * H)) * (wrap64 (1 + (m1 : Int)))) = 2 * H * (1 + m1) := by
    rw [wrap64_wf (2 * H) (by omega) (by omega), wrap64_wf (1 + (m1 : Int)) (by omega) (by omega)]
    rcases hm with rfl | rfl <;> rcases hcases with rfl | rfl | rfl <;> (rw [wrap64_wf _ (by omega) (by omega)])
  rw [hw, wrap64_wf (1 + (m0 : Int)) (by omega) (by omega), wrap64_wf (1 + (m3 : Int)) (by omega) (by omega), wrap64_wf (2 + (m4 : Int)) (by omega) (by omega), wrap64_wf (4 + (m5 : Int)) (by omega) (by omega)]
  refine ⟨_, _, _, _, _, _, rfl, ⟨⟨by omega, by omega⟩, ⟨by omega, by omega⟩, ⟨?_, ?_⟩, ?_, ⟨by omega, by omega⟩, ⟨by omega, by omega⟩, ⟨by omega, by omega⟩⟩, by omega, ?_, by omega, by omega, by omega, by omega⟩
  · rcases hm with rfl | rfl <;> omega
  · rcases hm with rfl | rfl <;> omega
  · exact Int.mul_emod_right _ _
  · rcases hm with rfl | rfl <;> omega

theorem cut_loop (a b L W H I V P : Int) (ha : -9223372036854775808 ≤ a ∧ a ≤ 9223372036854775807) (hb : -9223372036854775808 ≤ b ∧ b ≤ 9223372036854775807) (hr : RightS L W H I V P) : ∀ (d k i : Nat) (l : List Int), (i : Int) + d = H + 1 → 1 ≤ i → 10 * d + 10 < k →
    l.length < i → (2 ≤ i → l ≠ []) → (∀ x ∈ l, 1 ≤ x ∧ x ≤ H ∧ H % x = 0 ∧ I % x = 0) →
    ∃ S Q, pelotonref10_Cut.l0 k a b l i L W H I V P = some (S, Q) ∧ 1 ≤ S ∧ S ≤ L ∧ 1 ≤ Q ∧ Q ≤ H ∧ H % Q = 0 ∧ I % Q = 0 := by
  obtain ⟨⟨l1, l2⟩, ⟨hh1, hh2⟩, _, _, ⟨i1, i2⟩, _⟩ := id hr
  intro d
  induction d with
  | zero =>
    intro k i l hi hi1 hk hl hne hx
    obtain ⟨k, rfl⟩ : ∃ m, k = m + 1 := ⟨k - 1, by omega⟩
    have hlen : 0 < l.length := List.length_pos_iff.2 (hne (by omega))
    have g1 := Int.tmod_lt_of_pos b (show (0 : Int) < l.length by omega)
    have g2 := Int.lt_tmod_of_pos b (show (0 : Int) < l.length by omega)
    have e1 := Int.emod_nonneg (Int.tmod b l.length + l.length) (show (l.length : Int) ≠ 0 by omega)
    have e2 := Int.emod_lt_of_pos (Int.tmod b l.length + l.length) (show (0 : Int) < l.length by omega)
    have g3 := Int.tmod_lt_of_pos a (show (0 : Int) < L by omega)
    have g4 := Int.lt_tmod_of_pos a (show (0 : Int) < L by omega)
    have e3 := Int.emod_nonneg (Int.tmod a L + L) (show L ≠ 0 by omega)
    have e4 := Int.emod_lt_of_pos (Int.tmod a L + L) (show 0 < L by omega)
    simp only [pelotonref10_Cut.l0]
    rw [if_neg (by omega), if_neg (by omega), if_neg (by omega), wrap64_wf (Int.tmod b l.length + l.length) (by omega) (by omega), Int.tmod_eq_emod_of_nonneg (show 0 ≤ Int.tmod b l.length + l.length by omega), if_pos e1, if_pos e2,
      wrap64_wf (Int.tmod a L + L) (by omega) (by omega), Int.tmod_eq_emod_of_nonneg (show 0 ≤ Int.tmod a L + L by omega), wrap64_wf (1 + _) (by omega) (by omega)]
    obtain ⟨j, hj⟩ := Int.eq_ofNat_of_zero_le e1
    have hjl : j < l.length := by omega
    have hm := hx _ (rd_mem l j hjl)
    rw [hj]
    exact ⟨_, _, rfl, by omega, by omega, hm.1, hm.2.1, hm.2.2.1, hm.2.2.2⟩
  | succ d ih =>
    intro k i l hi hi1 hk hl hne hx
    obtain ⟨k, rfl⟩ : ∃ m, k = m + 1 := ⟨k - 1, by omega⟩
    simp only [pelotonref10_Cut.l0]
    rw [if_pos (by omega), if_neg (by omega), Int.tmod_eq_emod_of_nonneg (by omega), Int.tmod_eq_emod_of_nonneg (by omega), next i 100 (by omega) (by omega)]
    by_cases h1 : H % (i : Int) = 0
    · rw [if_pos h1]
      by_cases h2 : I % (i : Int) = 0
      · rw [if_pos h2, if_pos (by omega)]
        refine ih k (i + 1) _ (by omega) (by omega) (by omega) (by simp; omega) (fun _ => by simp) ?_
        intro x hx'
        rw [List.mem_append] at hx'
        rcases hx' with hx' | hx'
        · exact hx x hx'
        · simp only [List.mem_singleton] at hx'; subst hx'; exact ⟨by omega, by omega, h1, h2⟩
      · rw [if_neg h2]
        have hi2 : 2 ≤ i := by
          rcases Nat.lt_or_ge i 2 with h | h
          · have : i = 1 := by omega
            subst this; exact absurd (by omega) h2
          · exact h
        exact ih k (i + 1) l (by omega) (by omega) (by omega) (by omega) (fun _ => hne hi2) hx
    · rw [if_neg h1]
      have hi2 : 2 ≤ i := by
        rcases Nat.lt_or_ge i 2 with h | h
        · have : i = 1 := by omega
          subst this; exact absurd (by omega) h1
        · exact h
      exact ih k (i + 1) l (by omega) (by omega) (by omega) (by omega) (fun _ => hne hi2) hx
theorem cut_ok (a b L W H I V P : Int) (ha : -9223372036854775808 ≤ a ∧ a ≤ 9223372036854775807) (hb : -9223372036854775808 ≤ b ∧ b ≤ 9223372036854775807) (hr : RightS L W H I V P) (hL : L ≤ 3) (hH : H ≤ 4) (k : Nat) (hk : 200 < k) :
    ∃ S Q, pelotonref10_Cut.f k L W H I V P a b = some (S, Q) ∧ CutS L W H I V P S Q := by
  obtain ⟨_, ⟨hh1, hh2⟩, _⟩ := id hr
  obtain ⟨S, Q, h, s1, s2, q1, q2, h4, h5⟩ := cut_loop a b L W H I V P ha hb hr H.toNat k 1 [] (by omega) (by omega) (by omega) (by simp) (fun h => by omega) (fun x hx => by simp at hx)
  have hb := mulb10 (show 0 ≤ S by omega) (show S ≤ 3 by omega) (show 0 ≤ Q by omega) (show Q ≤ 4 by omega)
  exact ⟨S, Q, h, hr, ⟨⟨by omega, by omega⟩, q1, by omega⟩, by omega, h4, h5, by omega⟩

theorem step_int (i n p : Int) (h0 : 0 ≤ i) (n0 : 0 ≤ n) (hp : 0 < p) : (i + 1) * n / p - i * n / p = n / p ∨ (i + 1) * n / p - i * n / p = n / p + 1 := by
  obtain ⟨q, r, hn, r0, r1, e1, e2⟩ := parts n p hp
  rw [e1]
  have e : ∀ j : Int, j * n / p = j * q + j * r / p := by
    intro j
    rw [hn, show j * (p * q + r) = j * r + p * (j * q) by rw [Int.mul_add, Int.mul_left_comm]; omega, Int.add_mul_ediv_left _ _ (by omega)]; omega
  rw [e, e]
  have h3 : (i + 1) * r = i * r + r := by rw [Int.add_mul, Int.one_mul]
  have h4 : (i + 1) * q = i * q + q := by rw [Int.add_mul, Int.one_mul]
  rw [h3, h4]
  have h5 : i * r / p ≤ (i * r + r) / p := Int.ediv_le_ediv hp (by omega)
  have h6 : (i * r + r) / p ≤ (i * r + p) / p := Int.ediv_le_ediv hp (by omega)
  rw [Int.add_ediv_of_dvd_right (Int.dvd_refl p), Int.ediv_self (by omega)] at h6
  omega
theorem step_even (i n p : Int) (hd : n % p = 0) (hp : 0 < p) : (i + 1) * n / p - i * n / p = n / p := by
  obtain ⟨q, rfl⟩ := Int.dvd_of_emod_eq_zero hd
  have e : ∀ j : Int, j * (p * q) / p = j * q := by
    intro j
    rw [Int.mul_left_comm, Int.mul_ediv_cancel_left _ (by omega)]
  rw [e, e, Int.mul_ediv_cancel_left _ (by omega), Int.add_mul, Int.one_mul]; omega

def ox (n p i : Int) : Int := i * n / p
theorem ox_mono (n p : Int) (n0 : 0 ≤ n) (hp : 0 < p) {i j : Int} (h : i ≤ j) : ox n p i ≤ ox n p j := Int.ediv_le_ediv hp (Int.mul_le_mul_of_nonneg_right h n0)
theorem ox_0 (n p : Int) : ox n p 0 = 0 := by unfold ox; rw [Int.zero_mul, Int.zero_ediv]
theorem ox_all (n p : Int) (hp : 0 < p) : ox n p p = n := Int.mul_ediv_cancel_left _ (by omega)
theorem ox_pos (n p i : Int) (h0 : 0 ≤ i) (hp : 0 < p) (hn : p ≤ n) : ox n p i < ox n p (i + 1) := by
  have h := step_int i n p h0 (by omega) hp
  have h1 : 1 ≤ n / p := (Int.le_ediv_iff_mul_le hp).2 (by omega)
  unfold ox
  omega
theorem ox_cover (n p l : Int) (hp : 0 < p) (h0 : 0 ≤ l) (h1 : l < n) : ∃ i, 0 ≤ i ∧ i < p ∧ ox n p i ≤ l ∧ l < ox n p (i + 1) := by
  have h : ∀ m : Nat, l < ox n p m → ∃ i, 0 ≤ i ∧ i < (m : Int) ∧ ox n p i ≤ l ∧ l < ox n p (i + 1) := by
    intro m
    induction m with
    | zero => intro h; rw [show ((0 : Nat) : Int) = 0 from rfl, ox_0] at h; omega
    | succ m ih =>
      intro h
      by_cases hm : ox n p m ≤ l
      · exact ⟨m, by omega, by omega, hm, by rw [← Int.natCast_succ]; exact h⟩
      · obtain ⟨i, a, b, c, d⟩ := ih (by omega)
        exact ⟨i, a, by omega, c, d⟩
  obtain ⟨m, rfl⟩ := Int.eq_ofNat_of_zero_le (show 0 ≤ p by omega)
  exact h m (by rw [ox_all n _ hp]; exact h1)
theorem ox_one (n p : Int) (n0 : 0 ≤ n) (hp : 0 < p) {i j l : Int} (a : ox n p i ≤ l) (b : l < ox n p (i + 1)) (c : ox n p j ≤ l) (d : l < ox n p (j + 1)) : i = j := by
  rcases Int.lt_trichotomy i j with h | h | h
  · have := ox_mono n p n0 hp (show i + 1 ≤ j by omega); omega
  · exact h
  · have := ox_mono n p n0 hp (show j + 1 ≤ i by omega); omega
def ownG (L H S Q : Int) : slice_Owners.Geo :=
  ⟨S * Q, fun u => u / Q, fun u => u % Q, fun u => ox L S (u / Q), fun u => ox L S (u / Q + 1), fun u => ox H Q (u % Q), fun u => ox H Q (u % Q + 1),
    fun u => ox L S (u / Q) * H + (ox L S (u / Q + 1) - ox L S (u / Q)) * ((u % Q) * (H / Q))⟩
theorem own_div {S Q u : Int} (hq : 0 < Q) (h0 : 0 ≤ u) (h1 : u < S * Q) : 0 ≤ u / Q ∧ u / Q < S ∧ 0 ≤ u % Q ∧ u % Q < Q :=
  ⟨Int.ediv_nonneg h0 (by omega), Int.ediv_lt_of_lt_mul hq h1, Int.emod_nonneg _ (by omega), Int.emod_lt_of_pos _ hq⟩
theorem own_apart (L H S Q : Int) (hL : 0 ≤ L ∧ L ≤ 16) (hH : 0 ≤ H ∧ H ≤ 16) (hS : 0 < S) (hQ : 0 < Q) (hd : H % Q = 0) : slice_Owners.Apart (ownG L H S Q) := by
  refine ⟨fun u h0 h1 => ?_, fun u v q j h0 h1 g0 g1 ⟨a1, a2, a3, a4⟩ ⟨b1, b2, b3, b4⟩ => ?_, ?_, fun u h0 h1 => ?_⟩
  · obtain ⟨d0, d1, d2, d3⟩ := own_div hQ h0 h1
    have x0 := ox_mono L S hL.1 hS d0
    have x1 := ox_mono L S hL.1 hS (show u / Q ≤ u / Q + 1 by omega)
    have x2 := ox_mono L S hL.1 hS (show u / Q + 1 ≤ S by omega)
    have y0 := ox_mono H Q hH.1 hQ d2
    have y1 := ox_mono H Q hH.1 hQ (show u % Q ≤ u % Q + 1 by omega)
    have y2 := ox_mono H Q hH.1 hQ (show u % Q + 1 ≤ Q by omega)
    rw [ox_0] at x0 y0
    rw [ox_all _ _ hS] at x2
    rw [ox_all _ _ hQ] at y2
    show 0 ≤ ox L S (u / Q) ∧ ox L S (u / Q) ≤ ox L S (u / Q + 1) ∧ ox L S (u / Q + 1) ≤ 300 ∧ 0 ≤ ox H Q (u % Q) ∧ ox H Q (u % Q) ≤ ox H Q (u % Q + 1) ∧ ox H Q (u % Q + 1) ≤ 300
    omega
  · have e1 : u / Q = v / Q := ox_one L S hL.1 hS a1 a2 b1 b2
    have e2 : u % Q = v % Q := ox_one H Q hH.1 hQ a3 a4 b3 b4
    have := Int.emod_add_mul_ediv u Q
    have := Int.emod_add_mul_ediv v Q
    rw [e1, e2] at *
    omega
  · show ox L S (0 / Q) * H + (ox L S (0 / Q + 1) - ox L S (0 / Q)) * ((0 % Q) * (H / Q)) = 0
    rw [Int.zero_ediv, Int.zero_emod, ox_0, Int.zero_mul, Int.zero_mul, Int.mul_zero, Int.add_zero]
  · obtain ⟨d0, d1, d2, d3⟩ := own_div hQ h0 h1
    show ox L S ((u + 1) / Q) * H + (ox L S ((u + 1) / Q + 1) - ox L S ((u + 1) / Q)) * (((u + 1) % Q) * (H / Q)) = ox L S (u / Q) * H + (ox L S (u / Q + 1) - ox L S (u / Q)) * ((u % Q) * (H / Q)) + (ox L S (u / Q + 1) - ox L S (u / Q)) * (ox H Q (u % Q + 1) - ox H Q (u % Q))
    have hy : ox H Q (u % Q + 1) - ox H Q (u % Q) = H / Q := step_even (u % Q) H Q hd hQ
    have hu := Int.emod_add_mul_ediv u Q
    rw [hy]
    have hr : ∀ x y z : Int, x * (y * z) + x * z = x * ((y + 1) * z) := by intro x y z; rw [Int.add_mul, Int.one_mul, Int.mul_add]
    rw [Int.add_assoc, hr]
    generalize hi : u / Q = i at *
    generalize hj : u % Q = j at *
    by_cases hc : j + 1 < Q
    · have e1 : (u + 1) / Q = i := by
        rw [show u + 1 = (j + 1) + Q * i by omega, Int.add_mul_ediv_left _ _ (by omega), Int.ediv_eq_zero_of_lt (by omega) hc]; omega
      have e2 : (u + 1) % Q = j + 1 := by
        rw [show u + 1 = (j + 1) + Q * i by omega, Int.add_mul_emod_self_left, Int.emod_eq_of_lt (by omega) hc]
      rw [e1, e2]
    · have hj : j + 1 = Q := by omega
      have hs : u + 1 = Q * (i + 1) := by rw [Int.mul_add, Int.mul_one]; omega
      have e1 : (u + 1) / Q = i + 1 := by rw [hs, Int.mul_ediv_cancel_left _ (by omega)]
      have e2 : (u + 1) % Q = 0 := by rw [hs, Int.mul_emod_right]
      rw [e1, e2, hj, Int.zero_mul, Int.mul_zero, Int.add_zero, Int.mul_ediv_cancel' (Int.dvd_of_emod_eq_zero hd), ← Int.add_mul]
      congr 1; omega
theorem own_cond (L W H I V P S Q : Int) (hc : CutS L W H I V P S Q) : pelotonlaw10_SliceOwns.Cond L W H I V P S Q (ownG L H S Q) (ox L S) (ox I Q) := by
  have hf := cut_facts hc
  obtain ⟨_, hfit, hsl, hq, hi, hsq⟩ := id hc
  have hS : 0 < S := by omega
  have hQ : 0 < Q := by omega
  have hN := mulb10 (show 0 ≤ S by omega) (show S ≤ 16 by omega) (show 0 ≤ Q by omega) (show Q ≤ 16 by omega)
  have hqh : Q ≤ H := Int.le_of_dvd (by omega) (Int.dvd_of_emod_eq_zero hq)
  have hqi : Q ≤ I := Int.le_of_dvd (by omega) (Int.dvd_of_emod_eq_zero hi)
  refine ⟨?_, ?_, by omega, ⟨rfl, hN.1, hsq⟩, fun u h0 h1 => ?_, own_apart L H S Q (by omega) (by omega) hS hQ hq, ?_, fun l h l0 l1 h0 h1 => ?_, fun u h0 h1 => ?_, ⟨ox_0 _ _, ox_all _ _ hS, fun i h0 h1 => ⟨?_, ox_pos _ _ _ h0 hS hsl⟩⟩, ⟨ox_0 _ _, ox_all _ _ hQ, fun i h0 h1 => ⟨?_, ox_pos _ _ _ h0 hQ hqi⟩⟩⟩
  · rw [workers_eq, if_pos hc]; rfl
  · rw [workers_eq, if_neg (fun h => by have := cut_facts h; omega)]
  · obtain ⟨d0, d1, d2, d3⟩ := own_div hQ h0 h1
    have hb : (ownG L H S Q).N = S * Q := rfl
    rw [hb] at h1
    refine ⟨?_, ?_, ?_⟩
    · rw [where_eq _ _ _ (by omega), if_pos ⟨hfit, h0, h1⟩]; rfl
    · show slice_Layers.f L W H I V P S Q (u / Q) = _
      rw [layers_eq, decide_eq_true hc, span_in _ L S d0 d1 (by omega) (by omega) (by omega)]; rfl
    · show slice_Heads.f L W H I V P S Q (u % Q) = _
      rw [heads_eq, decide_eq_true hc, span_in _ H Q d2 d3 (by omega) (by omega) (by omega)]; rfl
  · show ox L S (S * Q / Q) * H + (ox L S (S * Q / Q + 1) - ox L S (S * Q / Q)) * ((S * Q % Q) * (H / Q)) = L * H
    rw [Int.mul_ediv_cancel _ (by omega), Int.mul_emod_left, Int.zero_mul, Int.mul_zero, Int.add_zero, ox_all _ _ hS]
  · obtain ⟨i, i0, i1, i2, i3⟩ := ox_cover L S l hS l0 l1
    obtain ⟨j, j0, j1, j2, j3⟩ := ox_cover H Q h hQ h0 h1
    have e1 : (j + Q * i) / Q = i := by rw [Int.add_mul_ediv_left _ _ (by omega), Int.ediv_eq_zero_of_lt j0 j1]; omega
    have e2 : (j + Q * i) % Q = j := by rw [Int.add_mul_emod_self_left, Int.emod_eq_of_lt j0 j1]
    have b1 := Int.mul_nonneg (show 0 ≤ Q by omega) i0
    have b2 := Int.mul_le_mul_of_nonneg_left (show i + 1 ≤ S by omega) (show 0 ≤ Q by omega)
    rw [Int.mul_add, Int.mul_one, Int.mul_comm Q S] at b2
    refine ⟨j + Q * i, by omega, ?_, ?_⟩
    · show j + Q * i < S * Q
      omega
    · show ox L S ((j + Q * i) / Q) ≤ l ∧ l < ox L S ((j + Q * i) / Q + 1) ∧ ox H Q ((j + Q * i) % Q) ≤ h ∧ h < ox H Q ((j + Q * i) % Q + 1)
      rw [e1, e2]
      exact ⟨i2, i3, j2, j3⟩
  · obtain ⟨d0, d1, d2, d3⟩ := own_div hQ h0 h1
    have x0 := ox_mono L S (by omega) hS d0
    have x1 := ox_pos L S _ d0 hS hsl
    have x2 := ox_mono L S (by omega) hS (show u / Q + 1 ≤ S by omega)
    have y0 := ox_mono H Q (by omega) hQ d2
    have y1 := ox_pos H Q _ d2 hQ hqh
    have y2 := ox_mono H Q (by omega) hQ (show u % Q + 1 ≤ Q by omega)
    rw [ox_0] at x0 y0
    rw [ox_all _ _ hS] at x2
    rw [ox_all _ _ hQ] at y2
    refine ⟨ox L S (u / Q), ox H Q (u % Q), x0, by omega, y0, by omega, ?_⟩
    show ox L S (u / Q) ≤ ox L S (u / Q) ∧ ox L S (u / Q) < ox L S (u / Q + 1) ∧ ox H Q (u % Q) ≤ ox H Q (u % Q) ∧ ox H Q (u % Q) < ox H Q (u % Q + 1)
    omega
  · rw [layers_eq, decide_eq_true hc, span_in _ L S h0 h1 (by omega) (by omega) (by omega)]; rfl
  · rw [inner_eq, decide_eq_true hc, span_in _ I Q h0 h1 (by omega) (by omega) (by omega)]; rfl
theorem awake10_now : pelotonlaw10_awake.f = some true := by decide +kernel
theorem SliceOwns : pelotonlaw10_SliceOwns.Pure := by
  intro n0 n1 n2 n3 n4 n5 a b hn ha hb
  obtain ⟨h0, h1, h2, h3, h4, h5⟩ := hn
  obtain ⟨L, W, H, I, V, P, ht, hr, b1, b2, b3, b4, b5, b6⟩ := tiny_right n0 n1 n2 n3 n4 n5 (by
    intro x hx
    simp only [List.mem_cons, List.not_mem_nil, or_false] at hx
    rcases hx with rfl | rfl | rfl | rfl | rfl | rfl
    · exact wf64 h0
    · exact wf64 h1
    · exact wf64 h2
    · exact wf64 h3
    · exact wf64 h4
    · exact wf64 h5)
  obtain ⟨S, Q, hcq, hc⟩ := cut_ok a b L W H I V P (wf64 ha) (wf64 hb) hr b1 b3 1000 (by omega)
  refine ⟨1000, ?_⟩
  unfold pelotonlaw10_SliceOwns.f
  rw [awake10_now, Option.bind_some, if_pos rfl, ht, Option.bind_some, hcq, Option.bind_some]
  exact if_pos ⟨_, _, _, own_cond L W H I V P S Q hc⟩

end Go.Proofs.Ytijkcjlkfjeedaa.Pure
