/- SliceCuts: the law's plain part: what its functions compute answers true, for all arguments of its types. No condition beside the given bounds. -/
import Derived.Test.YtijkcjlkfjeedaaQSliceCutsx6
import Derived.Test.YtijkcjlkfjeedaaMath
namespace Go.Proofs.Ytijkcjlkfjeedaa.Pure
open Go.RowKit Go.Proofs.Ytijkcjlkfjeedaa.QSliceCuts Go.Proofs.YtijkcjlkfjeedaaW.PrintWords Go.Proofs.YtijkcjlkfjeedaaW.PrintLast Go.Proofs.YtijkcjlkfjeedaaW.PrintMore Go.PelMath
set_option linter.unusedVariables false
set_option linter.unusedSimpArgs false
theorem wf64 {x : Int} (h : (Lit.int .i64 x).wf = true) : -9223372036854775808 ≤ x ∧ x ≤ 9223372036854775807 := by
  simp [Lit.wf, IntKind.min, IntKind.max, IntKind.bits, IntKind.signed] at h; omega
theorem wf32 {x : Int} (h : (Lit.int .i32 x).wf = true) : -2147483648 ≤ x ∧ x ≤ 2147483647 := by
  simp [Lit.wf, IntKind.min, IntKind.max, IntKind.bits, IntKind.signed] at h; omega
theorem wf8 {x : Int} (h : (Lit.int .i8 x).wf = true) : -128 ≤ x ∧ x ≤ 127 := by
  simp [Lit.wf, IntKind.min, IntKind.max, IntKind.bits, IntKind.signed] at h; omega

def nn (n : Int) : Nat := (mn (mx n 0) 62).toNat
theorem nn_le (n : Int) : nn n ≤ 62 := by unfold nn mn mx; (repeat' split) <;> omega
theorem nn_of (n : Int) (h0 : 0 ≤ n) (h1 : n ≤ 62) : nn n = n.toNat := by unfold nn mn mx; (repeat' split) <;> omega

def clamp (x a b : Int) : Int := if x < a then a else if b < x then b else x
theorem clamp_range (x a b : Int) (h : a ≤ b) : a ≤ clamp x a b ∧ clamp x a b ≤ b := by unfold clamp; (repeat' split) <;> omega
theorem clamp_mono (x y a b : Int) (h : a ≤ b) (hxy : x ≤ y) : clamp x a b ≤ clamp y a b := by unfold clamp; (repeat' split) <;> omega
theorem clamp_id (x a b : Int) (h0 : a ≤ x) (h1 : x ≤ b) : clamp x a b = x := by unfold clamp; (repeat' split) <;> omega

theorem mul32 (x y : Int) (hx : -2147483648 ≤ x ∧ x ≤ 2147483647) (hy : -2147483648 ≤ y ∧ y ≤ 2147483647) : -4611686018427387904 ≤ x * y ∧ x * y ≤ 4611686018427387904 := by
  have h := Int.natAbs_mul x y
  have h1 : x.natAbs ≤ 2147483648 := by omega
  have h2 : y.natAbs ≤ 2147483648 := by omega
  have h3 : x.natAbs * y.natAbs ≤ 2147483648 * 2147483648 := Nat.mul_le_mul h1 h2
  omega

theorem wrap32_range (x : Int) : -2147483648 ≤ wrap32 x ∧ wrap32 x ≤ 2147483647 := by unfold wrap32; omega
theorem wrap32_0 : wrap32 0 = 0 := by unfold wrap32; omega
theorem rd_nat (l : List Int) (i : Nat) (h : i < l.length) : rd l (i : Int) = l[i] := by
  unfold rd; simp [List.getD, h]
theorem drop_cons (l : List Int) (i : Nat) (h : i < l.length) : l.drop i = rd l (i : Int) :: l.drop (i + 1) := by
  rw [rd_nat l i h, List.drop_eq_getElem_cons h]
theorem rd_mem (l : List Int) (i : Nat) (h : i < l.length) : rd l (i : Int) ∈ l := by rw [rd_nat l i h]; exact List.getElem_mem h
theorem next (i n : Nat) (h : i < n) (hn : n ≤ 9223372036854775807) : wrap64 ((i : Int) + 1) = ((i + 1 : Nat) : Int) := by
  rw [wrap64_wf _ (by omega) (by omega)]; omega

def dotI : List Int → List Int → Int
  | x :: a, y :: b => x * y + dotI a b
  | _, _ => 0
def prods : List Int → List Int → List Int
  | x :: a, y :: b => x * y :: prods a b
  | _, _ => []
theorem dotI_nil (a : List Int) : dotI a [] = 0 := by cases a <;> rfl
theorem tot_prods (a : List Int) : ∀ b, tot (prods a b) = dotI a b := by
  induction a with
  | nil => intro b; rfl
  | cons x a ih => intro b; cases b with
    | nil => rfl
    | cons y b => simp only [prods, tot, dotI, ih]
theorem prods_length (a : List Int) : ∀ b, (prods a b).length ≤ a.length := by
  induction a with
  | nil => intro b; simp [prods]
  | cons x a ih => intro b; cases b with
    | nil => simp [prods]
    | cons y b => simp only [prods, List.length_cons]; have := ih b; omega

theorem rest31 (n : Int) (h : -9223372036854775808 ≤ n ∧ n ≤ 9223372036854775807) : ∃ m : Nat, Int.tmod (wrap64 (Int.tmod n 31 + 31)) 31 = m ∧ m ≤ 30 := by
  have h1 := Int.tmod_lt_of_pos n (show (0 : Int) < 31 by omega)
  have h2 := Int.lt_tmod_of_pos n (show (0 : Int) < 31 by omega)
  rw [wrap64_wf _ (by omega) (by omega), Int.tmod_eq_emod_of_nonneg (by omega)]
  exact ⟨((Int.tmod n 31 + 31) % 31).toNat, by omega, by omega⟩

def RightS (L W H I V P : Int) : Prop := (1 ≤ L ∧ L ≤ 16) ∧ (1 ≤ H ∧ H ≤ 16) ∧ (2 ≤ W ∧ W ≤ 128) ∧ W % (2 * H) = 0 ∧ (1 ≤ I ∧ I ≤ 256) ∧ (1 ≤ V ∧ V ≤ 512) ∧ (1 ≤ P ∧ P ≤ 256)
instance (L W H I V P : Int) : Decidable (RightS L W H I V P) := by unfold RightS; infer_instance

theorem in_eq (n a b : Int) : weight_in.f n a b = some (decide (a ≤ n ∧ n ≤ b)) := by
  unfold weight_in.f
  by_cases h : n ≥ a
  · rw [if_pos h]
    by_cases h2 : n ≤ b
    · rw [decide_eq_true h2, decide_eq_true ⟨h, h2⟩]
    · rw [decide_eq_false h2, decide_eq_false (fun x => h2 x.2)]
  · rw [if_neg h, decide_eq_false (fun x => h x.1)]
theorem wright_eq (L W H I V P : Int) : weight_Right.f L W H I V P = some (decide (RightS L W H I V P)) := by
  unfold weight_Right.f
  simp only [in_eq, Option.bind_some, decide_eq_true_eq]
  by_cases h1 : 1 ≤ L ∧ L ≤ 16
  · rw [if_pos h1]
    by_cases h2 : 1 ≤ H ∧ H ≤ 16
    · rw [if_pos h2]
      by_cases h3 : 2 ≤ W ∧ W ≤ 128
      · rw [if_pos h3, wrap64_wf (2 * H) (by omega) (by omega), if_neg (by omega), Int.tmod_eq_emod_of_nonneg (by omega)]
        by_cases h4 : W % (2 * H) = 0
        · rw [if_pos h4]
          by_cases h5 : 1 ≤ I ∧ I ≤ 256
          · rw [if_pos h5]
            by_cases h6 : 1 ≤ V ∧ V ≤ 512
            · rw [if_pos h6]
              by_cases h7 : 1 ≤ P ∧ P ≤ 256
              · have hm : RightS L W H I V P := ⟨h1, h2, h3, h4, h5, h6, h7⟩
                rw [decide_eq_true hm, decide_eq_true h7]
              · rw [decide_eq_false h7, decide_eq_false (fun x => h7 x.2.2.2.2.2.2)]
            · rw [if_neg h6, decide_eq_false (fun x => h6 x.2.2.2.2.2.1)]
          · rw [if_neg h5, decide_eq_false (fun x => h5 x.2.2.2.2.1)]
        · rw [if_neg h4, decide_eq_false (fun x => h4 x.2.2.2.1)]
      · rw [if_neg h3, decide_eq_false (fun x => h3 x.2.2.1)]
    · rw [if_neg h2, decide_eq_false (fun x => h2 x.2.1)]
  · rw [if_neg h1, decide_eq_false (fun x => h1 x.1)]

theorem r7right_eq (L W H I V P : Int) : pelotonref07_Right.f L W H I V P = some (decide (RightS L W H I V P)) := by
  have hbad : ¬ RightS L W H I V P → some false = some (decide (RightS L W H I V P)) := fun h => by rw [decide_eq_false h]
  unfold pelotonref07_Right.f
  by_cases a1 : L < 1
  · rw [if_pos a1, hbad (fun h => by have := h.1; omega)]
  rw [if_neg a1]
  by_cases a2 : L > 16
  · rw [if_pos a2, hbad (fun h => by have := h.1; omega)]
  rw [if_neg a2]
  by_cases a3 : H < 1
  · rw [if_pos a3, hbad (fun h => by have := h.2.1; omega)]
  rw [if_neg a3]
  by_cases a4 : H > 16
  · rw [if_pos a4, hbad (fun h => by have := h.2.1; omega)]
  rw [if_neg a4]
  by_cases a5 : W < 2
  · rw [if_pos a5, hbad (fun h => by have := h.2.2.1; omega)]
  rw [if_neg a5]
  by_cases a6 : W > 128
  · rw [if_pos a6, hbad (fun h => by have := h.2.2.1; omega)]
  rw [if_neg a6, wrap64_wf (2 * H) (by omega) (by omega), if_neg (by omega), Int.tmod_eq_emod_of_nonneg (by omega)]
  by_cases a7 : W % (2 * H) = 0
  · rw [if_pos a7]
    by_cases b1 : I ≥ 1
    · rw [if_pos b1]
      by_cases b2 : I ≤ 256
      · rw [if_pos b2]
        by_cases b3 : V ≥ 1
        · rw [if_pos b3]
          by_cases b4 : V ≤ 512
          · rw [if_pos b4]
            by_cases b5 : P ≥ 1
            · rw [if_pos b5]
              by_cases b6 : P ≤ 256
              · have hm : RightS L W H I V P := ⟨⟨by omega, by omega⟩, ⟨by omega, by omega⟩, ⟨by omega, by omega⟩, a7, ⟨b1, b2⟩, ⟨b3, b4⟩, ⟨b5, b6⟩⟩
                rw [decide_eq_true hm, decide_eq_true b6]
              · rw [decide_eq_false b6, decide_eq_false (fun x => b6 x.2.2.2.2.2.2.2)]
            · rw [if_neg b5, decide_eq_false (fun x => b5 x.2.2.2.2.2.2.1)]
          · rw [if_neg b4, decide_eq_false (fun x => b4 x.2.2.2.2.2.1.2)]
        · rw [if_neg b3, decide_eq_false (fun x => b3 x.2.2.2.2.2.1.1)]
      · rw [if_neg b2, decide_eq_false (fun x => b2 x.2.2.2.2.1.2)]
    · rw [if_neg b1, decide_eq_false (fun x => b1 x.2.2.2.2.1.1)]
  · rw [if_neg a7, hbad (fun h => a7 h.2.2.2.1)]

def FitsS (S Q : Int) : Prop := (1 ≤ S ∧ S ≤ 64) ∧ (1 ≤ Q ∧ Q ≤ 64)
instance (S Q : Int) : Decidable (FitsS S Q) := by unfold FitsS; infer_instance
theorem fits_eq (S Q : Int) : slice_fits.f S Q = some (decide (FitsS S Q)) := by
  unfold slice_fits.f
  by_cases h1 : S ≥ 1
  · rw [if_pos h1]
    by_cases h2 : S ≤ 64
    · rw [if_pos h2]
      by_cases h3 : Q ≥ 1
      · rw [if_pos h3]
        by_cases h4 : Q ≤ 64
        · have hm : FitsS S Q := ⟨⟨h1, h2⟩, ⟨h3, h4⟩⟩
          rw [decide_eq_true h4, decide_eq_true hm]
        · rw [decide_eq_false h4, decide_eq_false (fun x => h4 x.2.2)]
      · rw [if_neg h3, decide_eq_false (fun x => h3 x.2.1)]
    · rw [if_neg h2, decide_eq_false (fun x => h2 x.1.2)]
  · rw [if_neg h1, decide_eq_false (fun x => h1 x.1.1)]

theorem div_b' (x p : Int) (h0 : 0 ≤ x) (hp : 1 ≤ p) : 0 ≤ x / p ∧ x / p ≤ x :=
  ⟨Int.ediv_nonneg h0 (by omega), Int.ediv_le_self _ h0⟩
theorem mulb10 {a b A B : Int} (h0 : 0 ≤ a) (h1 : a ≤ A) (h2 : 0 ≤ b) (h3 : b ≤ B) : 0 ≤ a * b ∧ a * b ≤ A * B :=
  ⟨Int.mul_nonneg h0 h2, Int.mul_le_mul h1 h3 h2 (Int.le_trans h0 h1)⟩

def CutS (L W H I V P S Q : Int) : Prop := RightS L W H I V P ∧ FitsS S Q ∧ S ≤ L ∧ H % Q = 0 ∧ I % Q = 0 ∧ S * Q ≤ 64
instance (L W H I V P S Q : Int) : Decidable (CutS L W H I V P S Q) := by unfold CutS; infer_instance
theorem sright_eq (L W H I V P S Q : Int) : slice_Right.f L W H I V P S Q = some (decide (CutS L W H I V P S Q)) := by
  unfold slice_Right.f
  rw [wright_eq L W H I V P, Option.bind_some, fits_eq S Q]
  simp only [Option.bind_some, decide_eq_true_eq]
  by_cases h1 : RightS L W H I V P
  · rw [if_pos h1]
    by_cases h2 : FitsS S Q
    · rw [if_pos h2]
      obtain ⟨⟨s1, s2⟩, q1, q2⟩ := id h2
      have hb := mulb10 (show 0 ≤ S by omega) s2 (show 0 ≤ Q by omega) q2
      obtain ⟨_, ⟨hh1, hh2⟩, _, _, ⟨i1, i2⟩, _⟩ := id h1
      by_cases h3 : S ≤ L
      · rw [if_pos h3, if_neg (by omega), Int.tmod_eq_emod_of_nonneg (by omega), Int.tmod_eq_emod_of_nonneg (by omega), wrap64_wf (S * Q) (by omega) (by omega)]
        by_cases h4 : H % Q = 0
        · rw [if_pos h4]
          by_cases h5 : I % Q = 0
          · rw [if_pos h5]
            by_cases h6 : S * Q ≤ 64
            · have hm : CutS L W H I V P S Q := ⟨h1, h2, h3, h4, h5, h6⟩
              rw [decide_eq_true h6, decide_eq_true hm]
            · rw [decide_eq_false h6, decide_eq_false (fun x => h6 x.2.2.2.2.2)]
          · rw [if_neg h5, decide_eq_false (fun x => h5 x.2.2.2.2.1)]
        · rw [if_neg h4, decide_eq_false (fun x => h4 x.2.2.2.1)]
      · rw [if_neg h3, decide_eq_false (fun x => h3 x.2.2.1)]
    · rw [if_neg h2, decide_eq_false (fun x => h2 x.2.1)]
  · rw [if_neg h1, decide_eq_false (fun x => h1 x.1)]
theorem cut_facts {L W H I V P S Q : Int} (h : CutS L W H I V P S Q) : 1 ≤ S ∧ S ≤ 16 ∧ 1 ≤ Q ∧ Q ≤ 16 ∧ 1 ≤ L ∧ L ≤ 16 ∧ 1 ≤ H ∧ H ≤ 16 ∧ 1 ≤ I ∧ I ≤ 256 := by
  obtain ⟨⟨⟨l1, l2⟩, ⟨h1, h2⟩, _, _, ⟨i1, i2⟩, _⟩, ⟨⟨s1, s2⟩, q1, q2⟩, hsl, hq, hi, hsq⟩ := h
  have hqh : Q ≤ H := Int.le_of_dvd (by omega) (Int.dvd_of_emod_eq_zero hq)
  omega

theorem r10right_eq (L W H I V P S Q : Int) : pelotonref10_Right.f L W H I V P S Q = some (decide (CutS L W H I V P S Q)) := by
  have hbad : ¬ CutS L W H I V P S Q → some false = some (decide (CutS L W H I V P S Q)) := fun h => by rw [decide_eq_false h]
  unfold pelotonref10_Right.f
  rw [r7right_eq L W H I V P]
  simp only [Option.bind_some, decide_eq_true_eq]
  by_cases h1 : RightS L W H I V P
  · rw [if_pos h1]
    by_cases a1 : S < 1
    · rw [if_pos a1, hbad (fun h => by have := cut_facts h; omega)]
    rw [if_neg a1]
    by_cases a2 : S > L
    · rw [if_pos a2, hbad (fun h => by have := h.2.2.1; omega)]
    rw [if_neg a2]
    by_cases a3 : Q < 1
    · rw [if_pos a3, hbad (fun h => by have := cut_facts h; omega)]
    rw [if_neg a3]
    by_cases a4 : Q > H
    · rw [if_pos a4, hbad (fun h => by
        have h4 := h.2.2.2.1
        have hqh : Q ≤ H := Int.le_of_dvd (by have := cut_facts h; omega) (Int.dvd_of_emod_eq_zero h4)
        omega)]
    rw [if_neg a4]
    obtain ⟨⟨l1, l2⟩, ⟨hh1, hh2⟩, _, _, ⟨i1, i2⟩, _⟩ := id h1
    have hb := mulb10 (show 0 ≤ S by omega) (show S ≤ 64 by omega) (show 0 ≤ Q by omega) (show Q ≤ 64 by omega)
    rw [if_neg (by omega), Int.tmod_eq_emod_of_nonneg (by omega), Int.tmod_eq_emod_of_nonneg (by omega), wrap64_wf (S * Q) (by omega) (by omega)]
    by_cases h4 : H % Q = 0
    · rw [if_pos h4]
      by_cases h5 : I % Q = 0
      · rw [if_pos h5]
        by_cases h6 : S * Q ≤ 64
        · have hm : CutS L W H I V P S Q := ⟨h1, ⟨⟨by omega, by omega⟩, by omega, by omega⟩, by omega, h4, h5, h6⟩
          rw [decide_eq_true h6, decide_eq_true hm]
        · rw [decide_eq_false h6, decide_eq_false (fun x => h6 x.2.2.2.2.2)]
      · rw [if_neg h5, decide_eq_false (fun x => h5 x.2.2.2.2.1)]
    · rw [if_neg h4, decide_eq_false (fun x => h4 x.2.2.2.1)]
  · rw [if_neg h1, hbad (fun h => h1 h.1)]

theorem workers_eq (L W H I V P S Q : Int) : slice_Workers.f L W H I V P S Q = some (if CutS L W H I V P S Q then S * Q else 0) := by
  unfold slice_Workers.f
  rw [sright_eq _ _ _ _ _ _ _ _]
  simp only [Option.bind_some, decide_eq_true_eq]
  by_cases h : CutS L W H I V P S Q
  · have hf := cut_facts h
    have hb := mulb10 (show 0 ≤ S by omega) (show S ≤ 64 by omega) (show 0 ≤ Q by omega) (show Q ≤ 64 by omega)
    rw [if_pos h, if_pos h, wrap64_wf _ (by omega) (by omega)]
  · rw [if_neg h, if_neg h]

def spanS (i n p : Int) : Int × Int := (i * n / p, (i + 1) * n / p)
theorem span_b (i n p : Int) (h0 : 0 ≤ i) (h1 : i < p) (hp : p ≤ 64) (n0 : 0 ≤ n) (n1 : n ≤ 512) : 0 ≤ i * n ∧ i * n ≤ 64 * 512 ∧ 0 ≤ (i + 1) * n ∧ (i + 1) * n ≤ 64 * 512 := by
  have a := mulb10 h0 (show i ≤ 64 by omega) n0 n1
  have b := mulb10 (show 0 ≤ i + 1 by omega) (show i + 1 ≤ 64 by omega) n0 n1
  omega
theorem div_b (x p : Int) (h0 : 0 ≤ x) (hp : 1 ≤ p) : 0 ≤ x / p ∧ x / p ≤ x :=
  ⟨Int.ediv_nonneg h0 (by omega), Int.ediv_le_self _ h0⟩
theorem spanval (i n p : Int) (h0 : 0 ≤ i) (h1 : i < p) (hp : p ≤ 64) (n0 : 0 ≤ n) (n1 : n ≤ 512) : wrap64 (Int.tdiv (wrap64 (i * n)) p) = i * n / p ∧ wrap64 (Int.tdiv (wrap64 ((wrap64 (i + 1)) * n)) p) = (i + 1) * n / p := by
  have hb := span_b i n p h0 h1 hp n0 n1
  have d1 := div_b (i * n) p hb.1 (by omega)
  have d2 := div_b ((i + 1) * n) p hb.2.2.1 (by omega)
  constructor
  · rw [wrap64_wf (i * n) (by omega) (by omega), Int.tdiv_eq_ediv_of_nonneg hb.1, wrap64_wf _ (by omega) (by omega)]
  · rw [wrap64_wf (i + 1) (by omega) (by omega), wrap64_wf ((i + 1) * n) (by omega) (by omega), Int.tdiv_eq_ediv_of_nonneg hb.2.2.1, wrap64_wf _ (by omega) (by omega)]
theorem span_no (i n p : Int) : slice_span.f false i n p = some (0, 0, 100) := by simp [slice_span.f]
theorem span_out (i n p : Int) (h : i < 0 ∨ i ≥ p) : slice_span.f true i n p = some (0, 0, 2) := by
  unfold slice_span.f
  by_cases h1 : i < 0
  · rw [if_pos rfl, if_pos h1]
  · rw [if_pos rfl, if_neg h1, if_pos (by omega)]
theorem span_in (i n p : Int) (h0 : 0 ≤ i) (h1 : i < p) (hp : p ≤ 64) (n0 : 0 ≤ n) (n1 : n ≤ 512) : slice_span.f true i n p = some ((spanS i n p).1, (spanS i n p).2, 0) := by
  have hv := spanval i n p h0 h1 hp n0 n1
  unfold slice_span.f
  rw [if_pos rfl, if_neg (by omega), if_neg (by omega), if_neg (by omega), hv.1, hv.2]; rfl

theorem refspan_eq (i n p : Int) (h0 : 0 ≤ i) (h1 : i < p) (hp : p ≤ 64) (n0 : 0 ≤ n) (n1 : n ≤ 512) : pelotonref10_Span.f i n p = some (spanS i n p) := by
  have hv := spanval i n p h0 h1 hp n0 n1
  unfold pelotonref10_Span.f
  rw [if_neg (by omega), hv.1, hv.2]; rfl

theorem layers_eq (L W H I V P S Q i : Int) : slice_Layers.f L W H I V P S Q i = slice_span.f (decide (CutS L W H I V P S Q)) i L S := by
  unfold slice_Layers.f
  rw [sright_eq _ _ _ _ _ _ _ _, Option.bind_some]
  cases slice_span.f (decide (CutS L W H I V P S Q)) i L S <;> rfl

theorem heads_eq (L W H I V P S Q i : Int) : slice_Heads.f L W H I V P S Q i = slice_span.f (decide (CutS L W H I V P S Q)) i H Q := by
  unfold slice_Heads.f
  rw [sright_eq _ _ _ _ _ _ _ _, Option.bind_some]
  cases slice_span.f (decide (CutS L W H I V P S Q)) i H Q <;> rfl

theorem inner_eq (L W H I V P S Q i : Int) : slice_Inner.f L W H I V P S Q i = slice_span.f (decide (CutS L W H I V P S Q)) i I Q := by
  unfold slice_Inner.f
  rw [sright_eq _ _ _ _ _ _ _ _, Option.bind_some]
  cases slice_span.f (decide (CutS L W H I V P S Q)) i I Q <;> rfl

theorem awake10_ok (k : Nat) (hk : 30 ≤ k) : pelotonlaw10_awake.f k = some true :=
  at_rounds pelotonlaw10_awake.mono hk (by decide +kernel)

theorem SliceCuts_j4 (L W H I V P S Q i : Int) (hc : CutS L W H I V P S Q) (k : Nat) (hk : 20 ≤ k) (x12 x14 a b c d : Int)
    (hv : slice_span.f true i H Q = some (a, b, x12)) (hw : slice_span.f true i I Q = some (c, d, x14)) : pelotonlaw10_SliceCuts.j4 k i x12 x14 L W H I V P S Q a b c d = some true := by
  obtain ⟨k, rfl⟩ : ∃ m, k = m + 4 := ⟨k - 4, by omega⟩
  have hf := cut_facts hc
  simp only [pelotonlaw10_SliceCuts.j4]
  by_cases hout : i < 0 ∨ i ≥ Q
  · rw [span_out i H Q hout] at hv
    rw [span_out i I Q hout] at hw
    simp only [Option.some.injEq, Prod.mk.injEq] at hv hw
    obtain ⟨rfl, rfl, rfl⟩ := hv
    obtain ⟨rfl, rfl, rfl⟩ := hw
    have hj : pelotonlaw10_SliceCuts.j5 (k + 3) i 2 2 true L W H I V P S Q 0 0 0 0 = some true := by
      simp [pelotonlaw10_SliceCuts.j5, pelotonlaw10_SliceCuts.j6]
    by_cases h1 : i < 0
    · rw [if_pos h1, hj]
    · rw [if_neg h1, decide_eq_true (by omega), hj]
  · rw [span_in i H Q (by omega) (by omega) (by omega) (by omega) (by omega)] at hv
    rw [span_in i I Q (by omega) (by omega) (by omega) (by omega) (by omega)] at hw
    simp only [Option.some.injEq, Prod.mk.injEq] at hv hw
    obtain ⟨rfl, rfl, rfl⟩ := hv
    obtain ⟨rfl, rfl, rfl⟩ := hw
    rw [if_neg (by omega), decide_eq_false (by omega)]
    simp only [pelotonlaw10_SliceCuts.j5, pelotonlaw10_SliceCuts.j7]
    rw [refspan_eq i H Q (by omega) (by omega) (by omega) (by omega) (by omega), refspan_eq i I Q (by omega) (by omega) (by omega) (by omega) (by omega)]
    simp
theorem SliceCuts : pelotonlaw10_SliceCuts.Pure := by
  intro L W H I V P S Q i hs hc hi
  refine ⟨104, ?_⟩
  unfold pelotonlaw10_SliceCuts.f
  rw [awake10_ok 104 (by omega), Option.bind_some, if_pos rfl, r10right_eq _ _ _ _ _ _ _ _, Option.bind_some]
  by_cases h : CutS L W H I V P S Q
  · have hf := cut_facts h
    have hb := mulb10 (show 0 ≤ S by omega) (show S ≤ 64 by omega) (show 0 ≤ Q by omega) (show Q ≤ 64 by omega)
    rw [decide_eq_true h, if_pos rfl, wrap64_wf _ (by omega) (by omega)]
    simp only [pelotonlaw10_SliceCuts.j0]
    rw [sright_eq _ _ _ _ _ _ _ _, decide_eq_true h, Option.bind_some, if_neg (by simp), workers_eq _ _ _ _ _ _ _ _, if_pos h, Option.bind_some, bne_self_eq_false]
    simp only [pelotonlaw10_SliceCuts.j1]
    rw [if_neg (by simp), layers_eq _ _ _ _ _ _ _ _ _, heads_eq _ _ _ _ _ _ _ _ _, inner_eq _ _ _ _ _ _ _ _ _, decide_eq_true h]
    have hh : ∃ a b e, slice_span.f true i H Q = some (a, b, e) := by
      by_cases ho : i < 0 ∨ i ≥ Q
      · exact ⟨_, _, _, span_out i H Q ho⟩
      · exact ⟨_, _, _, span_in i H Q (by omega) (by omega) (by omega) (by omega) (by omega)⟩
    have hii : ∃ a b e, slice_span.f true i I Q = some (a, b, e) := by
      by_cases ho : i < 0 ∨ i ≥ Q
      · exact ⟨_, _, _, span_out i I Q ho⟩
      · exact ⟨_, _, _, span_in i I Q (by omega) (by omega) (by omega) (by omega) (by omega)⟩
    obtain ⟨a, b, e, hv⟩ := hh
    obtain ⟨c, d, f, hw⟩ := hii
    rw [hv, hw]
    by_cases ho : i < 0 ∨ i ≥ S
    · rw [span_out i L S ho]
      simp only [Option.bind_some, if_true]
      have hj : pelotonlaw10_SliceCuts.j3 102 i 2 e f true L W H I V P S Q 0 0 a b c d = some true := by
        simp only [pelotonlaw10_SliceCuts.j3]
        rw [SliceCuts_j4 L W H I V P S Q i h 101 (by omega) e f a b c d hv hw]
        simp
      by_cases h1 : i < 0
      · rw [if_pos h1, hj]
      · rw [if_neg h1, decide_eq_true (by omega), hj]
    · rw [span_in i L S (by omega) (by omega) (by omega) (by omega) (by omega)]
      simp only [Option.bind_some, if_true]
      rw [if_neg (by omega), decide_eq_false (by omega)]
      simp only [pelotonlaw10_SliceCuts.j3]
      rw [refspan_eq i L S (by omega) (by omega) (by omega) (by omega) (by omega), SliceCuts_j4 L W H I V P S Q i h 101 (by omega) e f a b c d hv hw]
      simp
  · rw [decide_eq_false h, if_neg (by simp)]
    simp only [pelotonlaw10_SliceCuts.j0]
    rw [sright_eq _ _ _ _ _ _ _ _, decide_eq_false h, Option.bind_some, if_neg (by simp), workers_eq _ _ _ _ _ _ _ _, if_neg h, Option.bind_some, bne_self_eq_false]
    simp only [pelotonlaw10_SliceCuts.j1]
    rw [if_neg (by simp), layers_eq _ _ _ _ _ _ _ _ _, heads_eq _ _ _ _ _ _ _ _ _, inner_eq _ _ _ _ _ _ _ _ _, decide_eq_false h, span_no, span_no, span_no]
    simp [pelotonlaw10_SliceCuts.j2]

end Go.Proofs.Ytijkcjlkfjeedaa.Pure
