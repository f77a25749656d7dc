/- SliceNumbers: the law's plain part: what its functions compute answers true, for all arguments of its types. No condition beside the given bounds. -/
import Derived.Test.YtijkcjlkfjeedaaQSliceNumbersx6
import Derived.Test.YtijkcjlkfjeedaaMath
namespace Go.Proofs.Ytijkcjlkfjeedaa.Pure
open Go.RowKit Go.Proofs.Ytijkcjlkfjeedaa.QSliceNumbers Go.Proofs.YtijkcjlkfjeedaaW.PrintWords Go.Proofs.YtijkcjlkfjeedaaW.PrintLast Go.Proofs.YtijkcjlkfjeedaaW.PrintMore Go.PelMath
set_option linter.unusedVariables false
set_option linter.unusedSimpArgs false
theorem wf64 {x : Int} (h : (Lit.int .i64 x).wf = true) : -9223372036854775808 ≤ x ∧ x ≤ 9223372036854775807 := by
  simp [Lit.wf, IntKind.min, IntKind.max, IntKind.bits, IntKind.signed] at h; omega
theorem wf32 {x : Int} (h : (Lit.int .i32 x).wf = true) : -2147483648 ≤ x ∧ x ≤ 2147483647 := by
  simp [Lit.wf, IntKind.min, IntKind.max, IntKind.bits, IntKind.signed] at h; omega
theorem wf8 {x : Int} (h : (Lit.int .i8 x).wf = true) : -128 ≤ x ∧ x ≤ 127 := by
  simp [Lit.wf, IntKind.min, IntKind.max, IntKind.bits, IntKind.signed] at h; omega

def nn (n : Int) : Nat := (mn (mx n 0) 62).toNat
theorem nn_le (n : Int) : nn n ≤ 62 := by unfold nn mn mx; (repeat' split) <;> omega
theorem nn_of (n : Int) (h0 : 0 ≤ n) (h1 : n ≤ 62) : nn n = n.toNat := by unfold nn mn mx; (repeat' split) <;> omega

def clamp (x a b : Int) : Int := if x < a then a else if b < x then b else x
theorem clamp_range (x a b : Int) (h : a ≤ b) : a ≤ clamp x a b ∧ clamp x a b ≤ b := by unfold clamp; (repeat' split) <;> omega
theorem clamp_mono (x y a b : Int) (h : a ≤ b) (hxy : x ≤ y) : clamp x a b ≤ clamp y a b := by unfold clamp; (repeat' split) <;> omega
theorem clamp_id (x a b : Int) (h0 : a ≤ x) (h1 : x ≤ b) : clamp x a b = x := by unfold clamp; (repeat' split) <;> omega

theorem mul32 (x y : Int) (hx : -2147483648 ≤ x ∧ x ≤ 2147483647) (hy : -2147483648 ≤ y ∧ y ≤ 2147483647) : -4611686018427387904 ≤ x * y ∧ x * y ≤ 4611686018427387904 := by
  have h := Int.natAbs_mul x y
  have h1 : x.natAbs ≤ 2147483648 := by omega
  have h2 : y.natAbs ≤ 2147483648 := by omega
  have h3 : x.natAbs * y.natAbs ≤ 2147483648 * 2147483648 := Nat.mul_le_mul h1 h2
  omega

theorem wrap32_range (x : Int) : -2147483648 ≤ wrap32 x ∧ wrap32 x ≤ 2147483647 := by unfold wrap32; omega
theorem wrap32_0 : wrap32 0 = 0 := by unfold wrap32; omega
theorem rd_nat (l : List Int) (i : Nat) (h : i < l.length) : rd l (i : Int) = l[i] := by
  unfold rd; simp [List.getD, h]
theorem drop_cons (l : List Int) (i : Nat) (h : i < l.length) : l.drop i = rd l (i : Int) :: l.drop (i + 1) := by
  rw [rd_nat l i h, List.drop_eq_getElem_cons h]
theorem rd_mem (l : List Int) (i : Nat) (h : i < l.length) : rd l (i : Int) ∈ l := by rw [rd_nat l i h]; exact List.getElem_mem h
theorem next (i n : Nat) (h : i < n) (hn : n ≤ 9223372036854775807) : wrap64 ((i : Int) + 1) = ((i + 1 : Nat) : Int) := by
  rw [wrap64_wf _ (by omega) (by omega)]; omega

def dotI : List Int → List Int → Int
  | x :: a, y :: b => x * y + dotI a b
  | _, _ => 0
def prods : List Int → List Int → List Int
  | x :: a, y :: b => x * y :: prods a b
  | _, _ => []
theorem dotI_nil (a : List Int) : dotI a [] = 0 := by cases a <;> rfl
theorem tot_prods (a : List Int) : ∀ b, tot (prods a b) = dotI a b := by
  induction a with
  | nil => intro b; rfl
  | cons x a ih => intro b; cases b with
    | nil => rfl
    | cons y b => simp only [prods, tot, dotI, ih]
theorem prods_length (a : List Int) : ∀ b, (prods a b).length ≤ a.length := by
  induction a with
  | nil => intro b; simp [prods]
  | cons x a ih => intro b; cases b with
    | nil => simp [prods]
    | cons y b => simp only [prods, List.length_cons]; have := ih b; omega

theorem rest31 (n : Int) (h : -9223372036854775808 ≤ n ∧ n ≤ 9223372036854775807) : ∃ m : Nat, Int.tmod (wrap64 (Int.tmod n 31 + 31)) 31 = m ∧ m ≤ 30 := by
  have h1 := Int.tmod_lt_of_pos n (show (0 : Int) < 31 by omega)
  have h2 := Int.lt_tmod_of_pos n (show (0 : Int) < 31 by omega)
  rw [wrap64_wf _ (by omega) (by omega), Int.tmod_eq_emod_of_nonneg (by omega)]
  exact ⟨((Int.tmod n 31 + 31) % 31).toNat, by omega, by omega⟩

def RightS (L W H I V P : Int) : Prop := (1 ≤ L ∧ L ≤ 16) ∧ (1 ≤ H ∧ H ≤ 16) ∧ (2 ≤ W ∧ W ≤ 128) ∧ W % (2 * H) = 0 ∧ (1 ≤ I ∧ I ≤ 256) ∧ (1 ≤ V ∧ V ≤ 512) ∧ (1 ≤ P ∧ P ≤ 256)
instance (L W H I V P : Int) : Decidable (RightS L W H I V P) := by unfold RightS; infer_instance

theorem in_eq (n a b : Int) : weight_in.f n a b = some (decide (a ≤ n ∧ n ≤ b)) := by
  unfold weight_in.f
  by_cases h : n ≥ a
  · rw [if_pos h]
    by_cases h2 : n ≤ b
    · rw [decide_eq_true h2, decide_eq_true ⟨h, h2⟩]
    · rw [decide_eq_false h2, decide_eq_false (fun x => h2 x.2)]
  · rw [if_neg h, decide_eq_false (fun x => h x.1)]
theorem wright_eq (L W H I V P : Int) : weight_Right.f L W H I V P = some (decide (RightS L W H I V P)) := by
  unfold weight_Right.f
  simp only [in_eq, Option.bind_some, decide_eq_true_eq]
  by_cases h1 : 1 ≤ L ∧ L ≤ 16
  · rw [if_pos h1]
    by_cases h2 : 1 ≤ H ∧ H ≤ 16
    · rw [if_pos h2]
      by_cases h3 : 2 ≤ W ∧ W ≤ 128
      · rw [if_pos h3, wrap64_wf (2 * H) (by omega) (by omega), if_neg (by omega), Int.tmod_eq_emod_of_nonneg (by omega)]
        by_cases h4 : W % (2 * H) = 0
        · rw [if_pos h4]
          by_cases h5 : 1 ≤ I ∧ I ≤ 256
          · rw [if_pos h5]
            by_cases h6 : 1 ≤ V ∧ V ≤ 512
            · rw [if_pos h6]
              by_cases h7 : 1 ≤ P ∧ P ≤ 256
              · have hm : RightS L W H I V P := ⟨h1, h2, h3, h4, h5, h6, h7⟩
                rw [decide_eq_true hm, decide_eq_true h7]
              · rw [decide_eq_false h7, decide_eq_false (fun x => h7 x.2.2.2.2.2.2)]
            · rw [if_neg h6, decide_eq_false (fun x => h6 x.2.2.2.2.2.1)]
          · rw [if_neg h5, decide_eq_false (fun x => h5 x.2.2.2.2.1)]
        · rw [if_neg h4, decide_eq_false (fun x => h4 x.2.2.2.1)]
      · rw [if_neg h3, decide_eq_false (fun x => h3 x.2.2.1)]
    · rw [if_neg h2, decide_eq_false (fun x => h2 x.2.1)]
  · rw [if_neg h1, decide_eq_false (fun x => h1 x.1)]

def FitsS (S Q : Int) : Prop := (1 ≤ S ∧ S ≤ 64) ∧ (1 ≤ Q ∧ Q ≤ 64)
instance (S Q : Int) : Decidable (FitsS S Q) := by unfold FitsS; infer_instance
theorem fits_eq (S Q : Int) : slice_fits.f S Q = some (decide (FitsS S Q)) := by
  unfold slice_fits.f
  by_cases h1 : S ≥ 1
  · rw [if_pos h1]
    by_cases h2 : S ≤ 64
    · rw [if_pos h2]
      by_cases h3 : Q ≥ 1
      · rw [if_pos h3]
        by_cases h4 : Q ≤ 64
        · have hm : FitsS S Q := ⟨⟨h1, h2⟩, ⟨h3, h4⟩⟩
          rw [decide_eq_true h4, decide_eq_true hm]
        · rw [decide_eq_false h4, decide_eq_false (fun x => h4 x.2.2)]
      · rw [if_neg h3, decide_eq_false (fun x => h3 x.2.1)]
    · rw [if_neg h2, decide_eq_false (fun x => h2 x.1.2)]
  · rw [if_neg h1, decide_eq_false (fun x => h1 x.1.1)]

theorem reffits_eq (S Q : Int) : pelotonref10_Fits.f S Q = some (decide (FitsS S Q)) := by
  unfold pelotonref10_Fits.f
  by_cases h1 : S > 0
  · rw [if_pos h1]
    by_cases h2 : S < 65
    · rw [if_pos h2]
      by_cases h3 : Q > 0
      · rw [if_pos h3]
        by_cases h4 : Q < 65
        · have hm : FitsS S Q := ⟨⟨by omega, by omega⟩, ⟨by omega, by omega⟩⟩
          rw [decide_eq_true h4, decide_eq_true hm]
        · rw [decide_eq_false h4, decide_eq_false (fun x => by have := x.2; omega)]
      · rw [if_neg h3, decide_eq_false (fun x => by have := x.2; omega)]
    · rw [if_neg h2, decide_eq_false (fun x => by have := x.1; omega)]
  · rw [if_neg h1, decide_eq_false (fun x => by have := x.1; omega)]

theorem div_b' (x p : Int) (h0 : 0 ≤ x) (hp : 1 ≤ p) : 0 ≤ x / p ∧ x / p ≤ x :=
  ⟨Int.ediv_nonneg h0 (by omega), Int.ediv_le_self _ h0⟩
theorem mulb10 {a b A B : Int} (h0 : 0 ≤ a) (h1 : a ≤ A) (h2 : 0 ≤ b) (h3 : b ≤ B) : 0 ≤ a * b ∧ a * b ≤ A * B :=
  ⟨Int.mul_nonneg h0 h2, Int.mul_le_mul h1 h3 h2 (Int.le_trans h0 h1)⟩

def CutS (L W H I V P S Q : Int) : Prop := RightS L W H I V P ∧ FitsS S Q ∧ S ≤ L ∧ H % Q = 0 ∧ I % Q = 0 ∧ S * Q ≤ 64
instance (L W H I V P S Q : Int) : Decidable (CutS L W H I V P S Q) := by unfold CutS; infer_instance
theorem sright_eq (L W H I V P S Q : Int) : slice_Right.f L W H I V P S Q = some (decide (CutS L W H I V P S Q)) := by
  unfold slice_Right.f
  rw [wright_eq L W H I V P, Option.bind_some, fits_eq S Q]
  simp only [Option.bind_some, decide_eq_true_eq]
  by_cases h1 : RightS L W H I V P
  · rw [if_pos h1]
    by_cases h2 : FitsS S Q
    · rw [if_pos h2]
      obtain ⟨⟨s1, s2⟩, q1, q2⟩ := id h2
      have hb := mulb10 (show 0 ≤ S by omega) s2 (show 0 ≤ Q by omega) q2
      obtain ⟨_, ⟨hh1, hh2⟩, _, _, ⟨i1, i2⟩, _⟩ := id h1
      by_cases h3 : S ≤ L
      · rw [if_pos h3, if_neg (by omega), Int.tmod_eq_emod_of_nonneg (by omega), Int.tmod_eq_emod_of_nonneg (by omega), wrap64_wf (S * Q) (by omega) (by omega)]
        by_cases h4 : H % Q = 0
        · rw [if_pos h4]
          by_cases h5 : I % Q = 0
          · rw [if_pos h5]
            by_cases h6 : S * Q ≤ 64
            · have hm : CutS L W H I V P S Q := ⟨h1, h2, h3, h4, h5, h6⟩
              rw [decide_eq_true h6, decide_eq_true hm]
            · rw [decide_eq_false h6, decide_eq_false (fun x => h6 x.2.2.2.2.2)]
          · rw [if_neg h5, decide_eq_false (fun x => h5 x.2.2.2.2.1)]
        · rw [if_neg h4, decide_eq_false (fun x => h4 x.2.2.2.1)]
      · rw [if_neg h3, decide_eq_false (fun x => h3 x.2.2.1)]
    · rw [if_neg h2, decide_eq_false (fun x => h2 x.2.1)]
  · rw [if_neg h1, decide_eq_false (fun x => h1 x.1)]
theorem cut_facts {L W H I V P S Q : Int} (h : CutS L W H I V P S Q) : 1 ≤ S ∧ S ≤ 16 ∧ 1 ≤ Q ∧ Q ≤ 16 ∧ 1 ≤ L ∧ L ≤ 16 ∧ 1 ≤ H ∧ H ≤ 16 ∧ 1 ≤ I ∧ I ≤ 256 := by
  obtain ⟨⟨⟨l1, l2⟩, ⟨h1, h2⟩, _, _, ⟨i1, i2⟩, _⟩, ⟨⟨s1, s2⟩, q1, q2⟩, hsl, hq, hi, hsq⟩ := h
  have hqh : Q ≤ H := Int.le_of_dvd (by omega) (Int.dvd_of_emod_eq_zero hq)
  omega

theorem workers_eq (L W H I V P S Q : Int) : slice_Workers.f L W H I V P S Q = some (if CutS L W H I V P S Q then S * Q else 0) := by
  unfold slice_Workers.f
  rw [sright_eq _ _ _ _ _ _ _ _]
  simp only [Option.bind_some, decide_eq_true_eq]
  by_cases h : CutS L W H I V P S Q
  · have hf := cut_facts h
    have hb := mulb10 (show 0 ≤ S by omega) (show S ≤ 64 by omega) (show 0 ≤ Q by omega) (show Q ≤ 64 by omega)
    rw [if_pos h, if_pos h, wrap64_wf _ (by omega) (by omega)]
  · rw [if_neg h, if_neg h]

def spanS (i n p : Int) : Int × Int := (i * n / p, (i + 1) * n / p)
theorem span_b (i n p : Int) (h0 : 0 ≤ i) (h1 : i < p) (hp : p ≤ 64) (n0 : 0 ≤ n) (n1 : n ≤ 512) : 0 ≤ i * n ∧ i * n ≤ 64 * 512 ∧ 0 ≤ (i + 1) * n ∧ (i + 1) * n ≤ 64 * 512 := by
  have a := mulb10 h0 (show i ≤ 64 by omega) n0 n1
  have b := mulb10 (show 0 ≤ i + 1 by omega) (show i + 1 ≤ 64 by omega) n0 n1
  omega
theorem div_b (x p : Int) (h0 : 0 ≤ x) (hp : 1 ≤ p) : 0 ≤ x / p ∧ x / p ≤ x :=
  ⟨Int.ediv_nonneg h0 (by omega), Int.ediv_le_self _ h0⟩
theorem spanval (i n p : Int) (h0 : 0 ≤ i) (h1 : i < p) (hp : p ≤ 64) (n0 : 0 ≤ n) (n1 : n ≤ 512) : wrap64 (Int.tdiv (wrap64 (i * n)) p) = i * n / p ∧ wrap64 (Int.tdiv (wrap64 ((wrap64 (i + 1)) * n)) p) = (i + 1) * n / p := by
  have hb := span_b i n p h0 h1 hp n0 n1
  have d1 := div_b (i * n) p hb.1 (by omega)
  have d2 := div_b ((i + 1) * n) p hb.2.2.1 (by omega)
  constructor
  · rw [wrap64_wf (i * n) (by omega) (by omega), Int.tdiv_eq_ediv_of_nonneg hb.1, wrap64_wf _ (by omega) (by omega)]
  · rw [wrap64_wf (i + 1) (by omega) (by omega), wrap64_wf ((i + 1) * n) (by omega) (by omega), Int.tdiv_eq_ediv_of_nonneg hb.2.2.1, wrap64_wf _ (by omega) (by omega)]
theorem span_no (i n p : Int) : slice_span.f false i n p = some (0, 0, 100) := by simp [slice_span.f]
theorem span_out (i n p : Int) (h : i < 0 ∨ i ≥ p) : slice_span.f true i n p = some (0, 0, 2) := by
  unfold slice_span.f
  by_cases h1 : i < 0
  · rw [if_pos rfl, if_pos h1]
  · rw [if_pos rfl, if_neg h1, if_pos (by omega)]
theorem span_in (i n p : Int) (h0 : 0 ≤ i) (h1 : i < p) (hp : p ≤ 64) (n0 : 0 ≤ n) (n1 : n ≤ 512) : slice_span.f true i n p = some ((spanS i n p).1, (spanS i n p).2, 0) := by
  have hv := spanval i n p h0 h1 hp n0 n1
  unfold slice_span.f
  rw [if_pos rfl, if_neg (by omega), if_neg (by omega), if_neg (by omega), hv.1, hv.2]; rfl

theorem layers_eq (L W H I V P S Q i : Int) : slice_Layers.f L W H I V P S Q i = slice_span.f (decide (CutS L W H I V P S Q)) i L S := by
  unfold slice_Layers.f
  rw [sright_eq _ _ _ _ _ _ _ _, Option.bind_some]
  cases slice_span.f (decide (CutS L W H I V P S Q)) i L S <;> rfl

theorem heads_eq (L W H I V P S Q i : Int) : slice_Heads.f L W H I V P S Q i = slice_span.f (decide (CutS L W H I V P S Q)) i H Q := by
  unfold slice_Heads.f
  rw [sright_eq _ _ _ _ _ _ _ _, Option.bind_some]
  cases slice_span.f (decide (CutS L W H I V P S Q)) i H Q <;> rfl

theorem awake10_ok (k : Nat) (hk : 30 ≤ k) : pelotonlaw10_awake.f k = some true :=
  at_rounds pelotonlaw10_awake.mono hk (by decide +kernel)

theorem where_eq (S Q n : Int) (hn : -9223372036854775808 ≤ n ∧ n ≤ 9223372036854775807) : slice_Where.f S Q n = some (if FitsS S Q ∧ 0 ≤ n ∧ n < S * Q then (n / Q, n % Q, true) else (0, 0, false)) := by
  unfold slice_Where.f
  rw [fits_eq S Q]
  simp only [Option.bind_some, decide_eq_true_eq]
  by_cases h1 : FitsS S Q
  · obtain ⟨⟨s1, s2⟩, q1, q2⟩ := id h1
    have hb := mulb10 (show 0 ≤ S by omega) (show S ≤ 64 by omega) (show 0 ≤ Q by omega) (show Q ≤ 64 by omega)
    rw [if_pos h1]
    by_cases h2 : n < 0
    · rw [if_pos h2, if_neg (fun h => by omega)]
    rw [if_neg h2, wrap64_wf (S * Q) (by omega) (by omega)]
    by_cases h3 : n ≥ S * Q
    · rw [if_pos h3, if_neg (fun h => by omega)]
    · have d1 := div_b' n Q (by omega) q1
      rw [if_neg h3, if_neg (by omega), if_pos ⟨h1, by omega, by omega⟩, Int.tdiv_eq_ediv_of_nonneg (by omega), Int.tmod_eq_emod_of_nonneg (by omega), wrap64_wf _ (by omega) (by omega)]
  · rw [if_neg h1, if_neg (fun h => h1 h.1)]
theorem worker_eq (S Q s p : Int) : slice_Worker.f S Q s p = some (if FitsS S Q ∧ 0 ≤ s ∧ s < S ∧ 0 ≤ p ∧ p < Q then (s * Q + p, true) else (0, false)) := by
  unfold slice_Worker.f
  rw [fits_eq S Q]
  simp only [Option.bind_some, decide_eq_true_eq]
  by_cases h1 : FitsS S Q
  · obtain ⟨⟨s1, s2⟩, q1, q2⟩ := id h1
    rw [if_pos h1]
    by_cases h2 : s < 0
    · rw [if_pos h2, if_neg (fun h => by omega)]
    rw [if_neg h2]
    by_cases h3 : s ≥ S
    · rw [if_pos h3, if_neg (fun h => by omega)]
    rw [if_neg h3]
    by_cases h4 : p < 0
    · rw [if_pos h4, if_neg (fun h => by omega)]
    rw [if_neg h4]
    by_cases h5 : p ≥ Q
    · rw [if_pos h5, if_neg (fun h => by omega)]
    · have hb := mulb10 (show 0 ≤ s by omega) (show s ≤ 64 by omega) (show 0 ≤ Q by omega) (show Q ≤ 64 by omega)
      rw [if_neg h5, if_pos ⟨h1, by omega, by omega, by omega, by omega⟩, wrap64_wf (s * Q) (by omega) (by omega), wrap64_wf _ (by omega) (by omega)]
  · rw [if_neg h1, if_neg (fun h => h1 h.1)]
theorem SliceNumbers_j3 (S Q s p n : Int) (b : Bool) (k : Nat) (hk : 20 ≤ k)
    (hb : b = true → FitsS S Q ∧ 0 ≤ s ∧ s < S ∧ 0 ≤ p ∧ p < Q ∧ n = s * Q + p) : pelotonlaw10_SliceNumbers.j3 k s p n b false S Q = some true := by
  obtain ⟨k, rfl⟩ : ∃ m, k = m + 2 := ⟨k - 2, by omega⟩
  simp only [pelotonlaw10_SliceNumbers.j3]
  rw [if_neg (by simp)]
  cases b with
  | false => simp
  | true =>
    obtain ⟨hf, h1, h2, h3, h4, rfl⟩ := hb rfl
    obtain ⟨⟨s1, s2⟩, q1, q2⟩ := id hf
    have hb := mulb10 (show 0 ≤ s by omega) (show s ≤ 64 by omega) (show 0 ≤ Q by omega) (show Q ≤ 64 by omega)
    have hlt : s * Q + p < S * Q := by
      have h5 : (s + 1) * Q ≤ S * Q := Int.mul_le_mul_of_nonneg_right (by omega) (by omega)
      rw [Int.add_mul, Int.one_mul] at h5
      omega
    have hd := ediv_of (s * Q + p) Q s p (by rw [Int.mul_comm]) h3 h4
    rw [if_pos rfl, where_eq S Q _ (by omega), if_pos ⟨hf, by omega, hlt⟩, hd.1, hd.2, wrap64_wf (s * Q) (by omega) (by omega), wrap64_wf _ (by omega) (by omega)]
    simp
theorem SliceNumbers_j1 (S Q s p n : Int) (hs : -9223372036854775808 ≤ s ∧ s ≤ 9223372036854775807) (b : Bool) (k : Nat) (hk : 30 ≤ k)
    (hb : b = true → FitsS S Q ∧ 0 ≤ s ∧ s < S ∧ 0 ≤ p ∧ p < Q ∧ n = s * Q + p) : pelotonlaw10_SliceNumbers.j1 k s p n b false S Q = some true := by
  obtain ⟨k, rfl⟩ : ∃ m, k = m + 2 := ⟨k - 2, by omega⟩
  have hj3 := SliceNumbers_j3 S Q s p n b k (by omega) hb
  simp only [pelotonlaw10_SliceNumbers.j1]
  rw [if_neg (by simp), where_eq S Q s hs, reffits_eq S Q]
  simp only [Option.bind_some, decide_eq_true_eq]
  have hno : ¬ (FitsS S Q ∧ 0 ≤ s ∧ s < S * Q) → pelotonlaw10_SliceNumbers.j2 (k + 1) s p n b (if FitsS S Q ∧ 0 ≤ s ∧ s < S * Q then (s / Q, s % Q, true) else (0, 0, false)).2.2 false S Q (if FitsS S Q ∧ 0 ≤ s ∧ s < S * Q then (s / Q, s % Q, true) else (0, 0, false)).1 (if FitsS S Q ∧ 0 ≤ s ∧ s < S * Q then (s / Q, s % Q, true) else (0, 0, false)).2.1 = some true := by
    intro h
    rw [if_neg h]
    simp only [pelotonlaw10_SliceNumbers.j2]
    simpa using hj3
  by_cases h1 : FitsS S Q
  · obtain ⟨⟨s1, s2⟩, q1, q2⟩ := id h1
    have hbb := mulb10 (show 0 ≤ S by omega) (show S ≤ 64 by omega) (show 0 ≤ Q by omega) (show Q ≤ 64 by omega)
    rw [if_pos h1]
    by_cases h2 : s ≥ 0
    · rw [if_pos h2, wrap64_wf (S * Q) (by omega) (by omega)]
      by_cases h3 : s < S * Q
      · have d1 := div_b' s Q (by omega) q1
        rw [decide_eq_true h3, if_pos ⟨h1, h2, h3⟩]
        simp only [pelotonlaw10_SliceNumbers.j2]
        rw [if_neg (by simp), if_pos trivial, if_neg (by omega), Int.tdiv_eq_ediv_of_nonneg (by omega), Int.tmod_eq_emod_of_nonneg (by omega), wrap64_wf _ (by omega) (by omega), if_pos rfl, bne_self_eq_false]
        exact hj3
      · rw [decide_eq_false h3]; exact hno (fun h => h3 h.2.2)
    · rw [if_neg h2]; exact hno (fun h => h2 h.2.1)
  · rw [if_neg h1]; exact hno (fun h => h1 h.1)
theorem SliceNumbers : pelotonlaw10_SliceNumbers.Pure := by
  intro S Q s p hc hs hp
  refine ⟨104, ?_⟩
  have gs := wf64 hs
  unfold pelotonlaw10_SliceNumbers.f
  rw [awake10_ok 104 (by omega), Option.bind_some, if_pos rfl, worker_eq S Q s p, reffits_eq S Q]
  simp only [Option.bind_some, decide_eq_true_eq]
  by_cases hin : FitsS S Q ∧ 0 ≤ s ∧ s < S ∧ 0 ≤ p ∧ p < Q
  · have hj1 := SliceNumbers_j1 S Q s p (s * Q + p) gs true 103 (by omega) (fun _ => ⟨hin.1, hin.2.1, hin.2.2.1, hin.2.2.2.1, hin.2.2.2.2, rfl⟩)
    rw [if_pos hin, if_pos hin.1, if_pos hin.2.1, if_pos hin.2.2.2.1, if_pos hin.2.2.1, decide_eq_true hin.2.2.2.2]
    simp only [pelotonlaw10_SliceNumbers.j0]
    simpa using hj1
  · have hj1 := SliceNumbers_j1 S Q s p 0 gs false 103 (by omega) (fun h => by cases h)
    have hj0 : pelotonlaw10_SliceNumbers.j0 104 s p 0 false false S Q = some true := by
      simp only [pelotonlaw10_SliceNumbers.j0]
      simpa using hj1
    rw [if_neg hin]
    simp only [hj0]
    by_cases h1 : FitsS S Q
    · rw [if_pos h1]
      by_cases h2 : s ≥ 0
      · rw [if_pos h2]
        by_cases h3 : p ≥ 0
        · rw [if_pos h3]
          by_cases h4 : s < S
          · rw [if_pos h4, decide_eq_false (fun h5 => hin ⟨h1, h2, h4, h3, h5⟩), hj0]
          · rw [if_neg h4]
        · rw [if_neg h3]
      · rw [if_neg h2]
    · rw [if_neg h1]

end Go.Proofs.Ytijkcjlkfjeedaa.Pure
