/- MatmulSpans: the law's plain part: what its functions compute answers true, for all arguments of its types. No condition beside the given bounds. -/
import Derived.Test.YtananmepljeldaaQMatmulSpansx3
import Derived.Test.YtananmepljeldaaMath
namespace Go.Proofs.Ytananmepljeldaa.Pure
open Go.RowKit Go.Proofs.Ytananmepljeldaa.QMatmulSpans Go.Proofs.YtananmepljeldaaW.PrintWords Go.Proofs.YtananmepljeldaaW.PrintLast Go.Proofs.YtananmepljeldaaW.PrintMore Go.PelMath
set_option linter.unusedVariables false
set_option linter.unusedSimpArgs false
theorem wf64 {x : Int} (h : (Lit.int .i64 x).wf = true) : -9223372036854775808 ≤ x ∧ x ≤ 9223372036854775807 := by
  simp [Lit.wf, IntKind.min, IntKind.max, IntKind.bits, IntKind.signed] at h; omega
theorem wf32 {x : Int} (h : (Lit.int .i32 x).wf = true) : -2147483648 ≤ x ∧ x ≤ 2147483647 := by
  simp [Lit.wf, IntKind.min, IntKind.max, IntKind.bits, IntKind.signed] at h; omega
theorem wf8 {x : Int} (h : (Lit.int .i8 x).wf = true) : -128 ≤ x ∧ x ≤ 127 := by
  simp [Lit.wf, IntKind.min, IntKind.max, IntKind.bits, IntKind.signed] at h; omega

def nn (n : Int) : Nat := (mn (mx n 0) 62).toNat
theorem nn_le (n : Int) : nn n ≤ 62 := by unfold nn mn mx; (repeat' split) <;> omega
theorem nn_of (n : Int) (h0 : 0 ≤ n) (h1 : n ≤ 62) : nn n = n.toNat := by unfold nn mn mx; (repeat' split) <;> omega

def clamp (x a b : Int) : Int := if x < a then a else if b < x then b else x
theorem clamp_range (x a b : Int) (h : a ≤ b) : a ≤ clamp x a b ∧ clamp x a b ≤ b := by unfold clamp; (repeat' split) <;> omega
theorem clamp_mono (x y a b : Int) (h : a ≤ b) (hxy : x ≤ y) : clamp x a b ≤ clamp y a b := by unfold clamp; (repeat' split) <;> omega
theorem clamp_id (x a b : Int) (h0 : a ≤ x) (h1 : x ≤ b) : clamp x a b = x := by unfold clamp; (repeat' split) <;> omega

theorem mul32 (x y : Int) (hx : -2147483648 ≤ x ∧ x ≤ 2147483647) (hy : -2147483648 ≤ y ∧ y ≤ 2147483647) : -4611686018427387904 ≤ x * y ∧ x * y ≤ 4611686018427387904 := by
  have h := Int.natAbs_mul x y
  have h1 : x.natAbs ≤ 2147483648 := by omega
  have h2 : y.natAbs ≤ 2147483648 := by omega
  have h3 : x.natAbs * y.natAbs ≤ 2147483648 * 2147483648 := Nat.mul_le_mul h1 h2
  omega

theorem wrap32_range (x : Int) : -2147483648 ≤ wrap32 x ∧ wrap32 x ≤ 2147483647 := by unfold wrap32; omega
theorem wrap32_0 : wrap32 0 = 0 := by unfold wrap32; omega
theorem rd_nat (l : List Int) (i : Nat) (h : i < l.length) : rd l (i : Int) = l[i] := by
  unfold rd; simp [List.getD, h]
theorem drop_cons (l : List Int) (i : Nat) (h : i < l.length) : l.drop i = rd l (i : Int) :: l.drop (i + 1) := by
  rw [rd_nat l i h, List.drop_eq_getElem_cons h]
theorem rd_mem (l : List Int) (i : Nat) (h : i < l.length) : rd l (i : Int) ∈ l := by rw [rd_nat l i h]; exact List.getElem_mem h
theorem next (i n : Nat) (h : i < n) (hn : n ≤ 9223372036854775807) : wrap64 ((i : Int) + 1) = ((i + 1 : Nat) : Int) := by
  rw [wrap64_wf _ (by omega) (by omega)]; omega

def dotI : List Int → List Int → Int
  | x :: a, y :: b => x * y + dotI a b
  | _, _ => 0
def prods : List Int → List Int → List Int
  | x :: a, y :: b => x * y :: prods a b
  | _, _ => []
theorem dotI_nil (a : List Int) : dotI a [] = 0 := by cases a <;> rfl
theorem tot_prods (a : List Int) : ∀ b, tot (prods a b) = dotI a b := by
  induction a with
  | nil => intro b; rfl
  | cons x a ih => intro b; cases b with
    | nil => rfl
    | cons y b => simp only [prods, tot, dotI, ih]
theorem prods_length (a : List Int) : ∀ b, (prods a b).length ≤ a.length := by
  induction a with
  | nil => intro b; simp [prods]
  | cons x a ih => intro b; cases b with
    | nil => simp [prods]
    | cons y b => simp only [prods, List.length_cons]; have := ih b; omega

theorem dot_loop (a b : List Int) (ha : a.length ≤ 9223372036854775807) (hw : ∀ x ∈ a, -128 ≤ x ∧ x ≤ 127) (hv : ∀ x ∈ b, -128 ≤ x ∧ x ≤ 127) : ∀ (d k i : Nat) (s : Int), i + d = min a.length b.length → d < k →
    round_Dot.l0 k a b (wrap32 s) (min a.length b.length : Nat) i = some (wrap32 (s + dotI (a.drop i) (b.drop i))) := by
  intro d
  induction d with
  | zero =>
    intro k i s hi hk
    obtain ⟨k, rfl⟩ : ∃ m, k = m + 1 := ⟨k - 1, by omega⟩
    simp only [round_Dot.l0]
    rw [if_neg (by omega)]
    by_cases hc : i < a.length
    · rw [List.drop_of_length_le (l := b) (by omega), dotI_nil]; simp
    · rw [List.drop_of_length_le (l := a) (by omega)]; simp [dotI]
  | succ d ih =>
    intro k i s hi hk
    obtain ⟨k, rfl⟩ : ∃ m, k = m + 1 := ⟨k - 1, by omega⟩
    have hr := hw _ (rd_mem a i (by omega)); have hq := hv _ (rd_mem b i (by omega))
    simp only [round_Dot.l0]
    rw [if_pos (by omega), if_pos (by omega), if_pos (by omega), if_pos (by omega), next i _ (show i < a.length by omega) ha,
      wrap32_wf (rd a (i : Int)) (by omega) (by omega), wrap32_wf (rd b (i : Int)) (by omega) (by omega), wrap32_add_left, wrap32_add_right, ih k (i + 1) _ (by omega) (by omega), drop_cons a i (by omega), drop_cons b i (by omega)]
    simp only [dotI]
    rw [Int.add_assoc]
theorem dot_eq (a b : List Int) (ha : a.length ≤ 9223372036854775807) (hw : ∀ x ∈ a, -128 ≤ x ∧ x ≤ 127) (hv : ∀ x ∈ b, -128 ≤ x ∧ x ≤ 127) (k : Nat) (hk : a.length < k) : round_Dot.f k a b = some (wrap32 (dotI a b)) := by
  unfold round_Dot.f
  rw [show mn (a.length : Int) (b.length : Int) = ((min a.length b.length : Nat) : Int) by unfold mn; split <;> omega]
  have := dot_loop a b ha hw hv (min a.length b.length) k 0 0 (by omega) (by omega)
  rw [wrap32_0] at this; simpa using this

theorem rest31 (n : Int) (h : -9223372036854775808 ≤ n ∧ n ≤ 9223372036854775807) : ∃ m : Nat, Int.tmod (wrap64 (Int.tmod n 31 + 31)) 31 = m ∧ m ≤ 30 := by
  have h1 := Int.tmod_lt_of_pos n (show (0 : Int) < 31 by omega)
  have h2 := Int.lt_tmod_of_pos n (show (0 : Int) < 31 by omega)
  rw [wrap64_wf _ (by omega) (by omega), Int.tmod_eq_emod_of_nonneg (by omega)]
  exact ⟨((Int.tmod n 31 + 31) % 31).toNat, by omega, by omega⟩

theorem mulb {a b A B : Int} (h0 : 0 ≤ a) (h1 : a ≤ A) (h2 : 0 ≤ b) (h3 : b ≤ B) : 0 ≤ a * b ∧ a * b ≤ A * B :=
  ⟨Int.mul_nonneg h0 h2, Int.mul_le_mul h1 h3 h2 (Int.le_trans h0 h1)⟩

def RightM (r c : Int) (n : Nat) : Prop := 0 ≤ r ∧ r ≤ 4096 ∧ 0 ≤ c ∧ c ≤ 4096 ∧ (n : Int) = r * c ∧ n ≤ 1048576
instance (r c : Int) (n : Nat) : Decidable (RightM r c n) := by unfold RightM; infer_instance

theorem side_eq (n : Int) : matmul_side.f n = some (decide (0 ≤ n ∧ n ≤ 4096)) := by
  unfold matmul_side.f
  by_cases h : 0 ≤ n
  · rw [if_pos h]; simp [h]
  · rw [if_neg h]; simp [h]
theorem wrong_eq (r c : Int) (v : List Int) : matmul_wrong.f r c v = some (!decide (RightM r c v.length)) := by
  unfold matmul_wrong.f
  rw [side_eq, side_eq]
  simp only [Option.bind_some, decide_eq_true_eq]
  by_cases h1 : 0 ≤ r ∧ r ≤ 4096
  · rw [if_pos h1]
    by_cases h2 : 0 ≤ c ∧ c ≤ 4096
    · rw [if_pos h2]
      have hb := mulb h1.1 h1.2 h2.1 h2.2
      rw [wrap64_wf _ (by omega) (by omega)]
      by_cases h3 : (v.length : Int) = r * c
      · rw [if_pos h3]
        by_cases h4 : (v.length : Int) > 1048576
        · rw [decide_eq_true h4, decide_eq_false (fun h => by obtain ⟨_, _, _, _, _, _⟩ := h; omega)]; rfl
        · have hm : RightM r c v.length := ⟨h1.1, h1.2, h2.1, h2.2, h3, by omega⟩
          rw [decide_eq_false h4, decide_eq_true hm]; rfl
      · rw [if_neg h3, decide_eq_false (fun h => h3 h.2.2.2.2.1)]; rfl
    · rw [if_neg h2, decide_eq_false (fun h => h2 ⟨h.2.2.1, h.2.2.2.1⟩)]; rfl
  · rw [if_neg h1, decide_eq_false (fun h => h1 ⟨h.1, h.2.1⟩)]; rfl

def rowOf (v : List Int) (c i : Nat) : List Int := (v.take ((i + 1) * c)).drop (i * c)
def applyS (r c : Nat) (v x : List Int) : List Int := (List.range r).map fun i => wrap32 (dotI (rowOf v c i) x)
theorem applyS_length (r c : Nat) (v x : List Int) : (applyS r c v x).length = r := by simp [applyS]
theorem row_in (v : List Int) (r c i : Nat) (h : v.length = r * c) (hi : i < r) : i * c + c ≤ v.length := by
  have := Nat.mul_le_mul_right c (show i + 1 ≤ r by omega)
  rw [Nat.add_mul] at this; omega
theorem rowOf_length (v : List Int) (r c i : Nat) (h : v.length = r * c) (hi : i < r) : (rowOf v c i).length = c := by
  have := row_in v r c i h hi
  simp only [rowOf, List.length_drop, List.length_take, Nat.add_mul]; omega
theorem rowOf_mem {v : List Int} {c i : Nat} {x : Int} (h : x ∈ rowOf v c i) : x ∈ v := List.mem_of_mem_take (List.mem_of_mem_drop h)
theorem rowOf_rd (v : List Int) (r c i j : Nat) (h : v.length = r * c) (hi : i < r) (hj : j < c) : rd (rowOf v c i) (j : Int) = rd v ((i * c + j : Nat) : Int) := by
  have h1 := row_in v r c i h hi
  have h2 := rowOf_length v r c i h hi
  rw [rd_nat _ j (by omega), rd_nat v _ (by omega)]
  simp only [rowOf, List.getElem_drop, List.getElem_take]
theorem map_range_drop (n i : Nat) (f : Nat → Int) (h : i < n) : ((List.range n).map f).drop i = f i :: ((List.range n).map f).drop (i + 1) := by
  rw [List.drop_eq_getElem_cons (by simpa using h)]; simp
theorem applyS_drop (r c i : Nat) (v x : List Int) (h : i < r) : (applyS r c v x).drop i = wrap32 (dotI (rowOf v c i) x) :: (applyS r c v x).drop (i + 1) := map_range_drop r i _ h
theorem applyS_rd (r c i : Nat) (v x : List Int) (h : i < r) : rd (applyS r c v x) (i : Int) = wrap32 (dotI (rowOf v c i) x) := by
  rw [rd_nat _ i (by rw [applyS_length]; exact h)]; simp [applyS]
theorem applyS_congr (r c : Nat) (v x : List Int) (f : Nat → Int) (h : ∀ i, i < r → wrap32 (dotI (rowOf v c i) x) = f i) : applyS r c v x = (List.range r).map f := by
  apply List.map_congr_left; intro i hi; exact h i (List.mem_range.1 hi)
theorem rowOf_eq (v : List Int) (c i : Nat) : (v.take ((i + 1) * c)).drop (i * c) = rowOf v c i := rfl
attribute [irreducible] rowOf applyS

theorem apply_loop (r c : Nat) (v x : List Int) (hr : r ≤ 4096) (hc : c ≤ 4096) (hv : v.length = r * c) (hvl : v.length ≤ 1048576) (hw : ∀ y ∈ v, -128 ≤ y ∧ y ≤ 127) (hx : ∀ y ∈ x, -128 ≤ y ∧ y ≤ 127) : ∀ (d k i : Nat) (o : List Int), i + d = r → d + 4100 < k → o.length = r →
    matmul_Apply.l0 k x o (r : Int) i r c v = some (o.take i ++ (applyS r c v x).drop i, 0) := by
  intro d
  induction d with
  | zero =>
    intro k i o hi hk ho
    obtain ⟨k, rfl⟩ : ∃ m, k = m + 1 := ⟨k - 1, by omega⟩
    simp only [matmul_Apply.l0]
    rw [if_neg (by omega), List.drop_of_length_le (by rw [applyS_length]; omega), List.take_of_length_le (by omega)]; simp
  | succ d ih =>
    intro k i o hi hk ho
    obtain ⟨k, rfl⟩ : ∃ m, k = m + 1 := ⟨k - 1, by omega⟩
    have hin := row_in v r c i hv (by omega)
    have e3 : (i + 1) * c = i * c + c := by rw [Nat.add_mul, Nat.one_mul]
    simp only [matmul_Apply.l0]
    rw [next i r (by omega) (by omega), w_mul i c (by omega), w_mul (i + 1) c (by omega), if_pos (by omega), if_pos (by omega), if_pos (by omega), if_pos (by omega)]
    simp only [Int.toNat_natCast]
    rw [rowOf_eq, dot_eq _ _ (by rw [rowOf_length v r c i hv (by omega)]; omega) (fun y hy => hw y (rowOf_mem hy)) hx k (by rw [rowOf_length v r c i hv (by omega)]; omega), Option.bind_some, if_pos (by omega), if_pos (by omega), ih k (i + 1) _ (by omega) (by omega) (by simp [ho])]
    rw [applyS_drop r c i v x (by omega)]
    rw [List.take_add_one, List.getElem?_set_self (by omega), List.take_set_of_le (Nat.le_refl _)]
    simp
theorem apply_eq (r c : Nat) (v x : List Int) (hm : RightM r c v.length) (hxl : x.length = c) (hw : ∀ y ∈ v, -128 ≤ y ∧ y ≤ 127) (hx : ∀ y ∈ x, -128 ≤ y ∧ y ≤ 127) (k : Nat) (hk : 9000 < k) :
    matmul_Apply.f k r c v x = some (applyS r c v x, 0) := by
  obtain ⟨k, rfl⟩ : ∃ m, k = m + 1 := ⟨k - 1, by omega⟩
  obtain ⟨m1, m2, m3, m4, m5, m6⟩ := id hm
  have hv : v.length = r * c := by exact_mod_cast m5
  unfold matmul_Apply.f
  rw [wrong_eq, decide_eq_true hm]
  simp only [Option.bind_some, Bool.not_true, Bool.false_eq_true, if_false, hxl, bne_self_eq_false]
  simp only [matmul_Apply.j0]
  rw [if_neg (by simp), if_pos (by omega), if_pos (by omega), Option.bind_some]
  simp only [Int.toNat_natCast, List.length_replicate]
  rw [show (0 : Int) = ((0 : Nat) : Int) from rfl]
  rw [apply_loop r c v x (by omega) (by omega) hv m6 hw hx r k 0 (List.replicate r ((0 : Nat) : Int)) (by omega) (by omega) (by simp)]
  simp
theorem apply_bad (r c : Int) (v x : List Int) (h : ¬ (RightM r c v.length ∧ (x.length : Int) = c)) (k : Nat) (hk : 2 < k) : matmul_Apply.f k r c v x = some ([], 30) := by
  obtain ⟨k, rfl⟩ : ∃ m, k = m + 1 := ⟨k - 1, by omega⟩
  unfold matmul_Apply.f
  rw [wrong_eq]
  by_cases hm : RightM r c v.length
  · have hne : (x.length : Int) ≠ c := fun e => h ⟨hm, e⟩
    rw [decide_eq_true hm]
    simp only [Option.bind_some, Bool.not_true, Bool.false_eq_true, if_false]
    rw [bne_iff_ne.2 hne]
    simp [matmul_Apply.j0]
  · rw [decide_eq_false hm]
    simp [matmul_Apply.j0]

theorem ints_loop (a b : List Int) (ha : a.length ≤ 9223372036854775807) (hab : a.length = b.length) : ∀ (d k i : Nat), i + d = a.length → d < k →
    pelotonref04_Ints.l0 k a b i = some (decide (a.drop i = b.drop i)) := by
  intro d
  induction d with
  | zero =>
    intro k i hi hk
    obtain ⟨k, rfl⟩ : ∃ m, k = m + 1 := ⟨k - 1, by omega⟩
    simp only [pelotonref04_Ints.l0]
    rw [if_neg (by omega), List.drop_of_length_le (by omega), List.drop_of_length_le (by omega)]; simp
  | succ d ih =>
    intro k i hi hk
    obtain ⟨k, rfl⟩ : ∃ m, k = m + 1 := ⟨k - 1, by omega⟩
    simp only [pelotonref04_Ints.l0]
    rw [if_pos (by omega), if_pos (by omega), if_pos (by omega), next i _ (show i < a.length by omega) ha, ih k (i + 1) (by omega) (by omega), drop_cons a i (by omega), drop_cons b i (by omega)]
    by_cases hc : rd a (i : Int) = rd b (i : Int)
    · rw [if_pos hc]; simp [hc]
    · rw [if_neg hc]; simp [hc]
theorem ints_eq (a b : List Int) (ha : a.length ≤ 9223372036854775807) (k : Nat) (hk : a.length < k) : pelotonref04_Ints.f k a b = some (decide (a = b)) := by
  unfold pelotonref04_Ints.f
  by_cases h : (a.length : Int) = b.length
  · rw [if_pos h]
    have := ints_loop a b ha (by omega) a.length k 0 (by omega) hk
    simpa using this
  · rw [if_neg h, decide_eq_false (fun e => h (by rw [e]))]

def spansS (n parts : Nat) : List Int := (List.range (parts + 1)).map fun i => ((i * n / parts : Nat) : Int)
theorem spansS_length (n parts : Nat) : (spansS n parts).length = parts + 1 := by simp [spansS]
theorem spansS_rd (n parts i : Nat) (h : i ≤ parts) : rd (spansS n parts) (i : Int) = ((i * n / parts : Nat) : Int) := by
  rw [rd_nat _ i (by rw [spansS_length]; omega)]; simp [spansS]
theorem spansS_drop (n parts i : Nat) (h : i < parts + 1) : (spansS n parts).drop i = ((i * n / parts : Nat) : Int) :: (spansS n parts).drop (i + 1) := map_range_drop (parts + 1) i _ h
attribute [irreducible] spansS
theorem spans_loop (n parts : Nat) (hn : n ≤ 1099511627776) (hp0 : 1 ≤ parts) (hp : parts ≤ 4096) : ∀ (d k i : Nat) (o : List Int), i + d = parts + 1 → d < k → o.length = parts + 1 →
    matmul_Spans.l0 k n parts o ((parts + 1 : Nat) : Int) i = some (o.take i ++ (spansS n parts).drop i, 0) := by
  intro d
  induction d with
  | zero =>
    intro k i o hi hk ho
    obtain ⟨k, rfl⟩ : ∃ m, k = m + 1 := ⟨k - 1, by omega⟩
    simp only [matmul_Spans.l0]
    rw [if_neg (by omega), List.drop_of_length_le (by rw [spansS_length]; omega), List.take_of_length_le (by omega)]; simp
  | succ d ih =>
    intro k i o hi hk ho
    obtain ⟨k, rfl⟩ : ∃ m, k = m + 1 := ⟨k - 1, by omega⟩
    have hb : i * n ≤ 4096 * 1099511627776 := Nat.mul_le_mul (by omega) hn
    simp only [matmul_Spans.l0]
    rw [if_pos (by omega), if_neg (by omega), if_pos (by omega), if_pos (by omega), next i (parts + 1) (by omega) (by omega), w_mul i n (by omega), w_div (i * n) parts (by omega), ih k (i + 1) _ (by omega) (by omega) (by simp [ho])]
    rw [spansS_drop n parts i (by omega)]
    simp only [Int.toNat_natCast]
    rw [List.take_add_one, List.getElem?_set_self (by omega), List.take_set_of_le (Nat.le_refl _)]
    simp
theorem spans_eq (n parts : Nat) (hn : n ≤ 1099511627776) (hp0 : 1 ≤ parts) (hp : parts ≤ 4096) (k : Nat) (hk : 5000 < k) : matmul_Spans.f k n parts = some (spansS n parts, 0) := by
  obtain ⟨k, rfl⟩ : ∃ m, k = m + 1 := ⟨k - 1, by omega⟩
  unfold matmul_Spans.f
  rw [if_neg (by omega), if_neg (by omega), if_neg (by omega), decide_eq_false (by omega)]
  simp only [matmul_Spans.j0]
  rw [show wrap64 ((parts : Int) + 1) = ((parts + 1 : Nat) : Int) from w_add parts 1 (by omega), if_neg (by simp), if_pos (by omega), if_pos (by omega), Option.bind_some]
  simp only [Int.toNat_natCast, List.length_replicate]
  rw [show (0 : Int) = ((0 : Nat) : Int) from rfl]
  rw [spans_loop n parts hn hp0 hp (parts + 1) k 0 (List.replicate (parts + 1) ((0 : Nat) : Int)) (by omega) (by omega) (by simp)]
  simp
theorem spans_bad (n parts : Int) (h : n < 0 ∨ n > 1099511627776 ∨ parts < 1 ∨ parts > 4096) (k : Nat) (hk : 2 < k) : matmul_Spans.f k n parts = some ([], 2) := by
  obtain ⟨k, rfl⟩ : ∃ m, k = m + 1 := ⟨k - 1, by omega⟩
  have hj : matmul_Spans.j0 (k + 1) n parts true = some ([], 2) := by simp [matmul_Spans.j0]
  unfold matmul_Spans.f
  rw [hj]
  by_cases h1 : n < 0
  · rw [if_pos h1]
  · rw [if_neg h1]
    by_cases h2 : n > 1099511627776
    · rw [if_pos h2]
    · rw [if_neg h2]
      by_cases h3 : parts < 1
      · rw [if_pos h3]
      · rw [if_neg h3, decide_eq_true (by omega), hj]

theorem awake04_ok (k : Nat) (hk : 30 ≤ k) : pelotonlaw04_awake.f k = some true :=
  at_rounds pelotonlaw04_awake.mono hk (by decide +kernel)

theorem dotI_zero (a : List Int) : ∀ n, dotI a (List.replicate n 0) = 0 := by
  induction a with
  | nil => intro n; rfl
  | cons x a ih => intro n; cases n with
    | zero => rfl
    | succ n => simp only [List.replicate_succ, dotI, ih]; omega
theorem dotI_unit (a : List Int) : ∀ (n i : Nat), i < n → i < a.length → dotI a ((List.replicate n 0).set i 1) = rd a (i : Int) := by
  induction a with
  | nil => intro n i h1 h2; simp at h2
  | cons x a ih => intro n i h1 h2; cases n with
    | zero => omega
    | succ n => cases i with
      | zero => simp only [List.replicate_succ, List.set_cons_zero, dotI, dotI_zero]; rw [rd_nat _ 0 (by simp)]; simp
      | succ i =>
        simp only [List.length_cons] at h2
        simp only [List.replicate_succ, List.set_cons_succ, dotI]
        rw [ih n i (by omega) (by omega), rd_nat _ (i + 1) (by simp; omega), rd_nat a i (by omega)]; simp
theorem restp (x n : Int) (h0 : 0 < n) (h1 : n ≤ 4611686018427387904) : ∃ m : Nat, Int.tmod (wrap64 (Int.tmod x n + n)) n = m ∧ (m : Int) < n := by
  have g1 := Int.tmod_lt_of_pos x h0
  have g2 := Int.lt_tmod_of_pos x h0
  rw [wrap64_wf _ (by omega) (by omega), Int.tmod_eq_emod_of_nonneg (by omega)]
  have e1 := Int.emod_nonneg (Int.tmod x n + n) (show n ≠ 0 by omega)
  have e2 := Int.emod_lt_of_pos (Int.tmod x n + n) h0
  exact ⟨((Int.tmod x n + n) % n).toNat, by omega, by omega⟩

theorem span_step (n p i : Nat) (hp : 0 < p) : (i + 1) * n / p - i * n / p = n / p ∨ (i + 1) * n / p - i * n / p = n / p + 1 := by
  have h1 := Nat.div_add_mod n p
  have h2 := Nat.mod_lt n hp
  generalize n / p = q at *
  generalize n % p = r at *
  subst h1
  have e : ∀ j, j * (p * q + r) / p = j * q + j * r / p := by
    intro j
    rw [show j * (p * q + r) = j * r + p * (j * q) by rw [Nat.mul_add, Nat.mul_left_comm]; omega, Nat.add_mul_div_left _ _ hp]; omega
  rw [e, e]
  have h3 : (i + 1) * r = i * r + r := by rw [Nat.add_mul, Nat.one_mul]
  have h4 : (i + 1) * q = i * q + q := by rw [Nat.add_mul, Nat.one_mul]
  rw [h3, h4]
  have h5 : i * r / p ≤ (i * r + r) / p := Nat.div_le_div_right (by omega)
  have h6 : (i * r + r) / p ≤ (i * r + p) / p := Nat.div_le_div_right (by omega)
  rw [Nat.add_div_right _ hp] at h6
  omega
theorem MatmulSpans_l0 (n parts : Nat) (hn : n ≤ 1099511627776) (hp0 : 1 ≤ parts) (hp : parts ≤ 4096) : ∀ (d k i : Nat), i + d = parts → d < k →
    pelotonlaw04_MatmulSpans.l0 k n parts (spansS n parts) i = some true := by
  intro d
  induction d with
  | zero =>
    intro k i hi hk
    obtain ⟨k, rfl⟩ : ∃ m, k = m + 1 := ⟨k - 1, by omega⟩
    simp only [pelotonlaw04_MatmulSpans.l0]
    rw [if_neg (by omega)]
  | succ d ih =>
    intro k i hi hk
    obtain ⟨k, rfl⟩ : ∃ m, k = m + 1 := ⟨k - 1, by omega⟩
    have hb : i * n ≤ 4096 * 1099511627776 := Nat.mul_le_mul (by omega) hn
    have hb2 : (i + 1) * n ≤ 4097 * 1099511627776 := Nat.mul_le_mul (by omega) hn
    have hdq : i * n / parts ≤ i * n := Nat.div_le_self _ _
    have hdq2 : (i + 1) * n / parts ≤ (i + 1) * n := Nat.div_le_self _ _
    have hdn : n / parts ≤ n := Nat.div_le_self _ _
    have hmono : i * n / parts ≤ (i + 1) * n / parts := Nat.div_le_div_right (Nat.mul_le_mul_right _ (by omega))
    simp only [pelotonlaw04_MatmulSpans.l0]
    rw [if_pos (by omega), next i parts (by omega) (by omega), if_pos (by omega), if_pos (by rw [spansS_length]; omega), if_pos (by omega), if_pos (by rw [spansS_length]; omega), if_neg (by omega), w_mul i n (by omega), w_div (i * n) parts (by omega), w_div n parts (by omega), show wrap64 (((n / parts : Nat) : Int) + 1) = ((n / parts + 1 : Nat) : Int) from w_add _ 1 (by omega),
      spansS_rd n parts i (by omega), spansS_rd n parts (i + 1) (by omega), if_pos rfl, ih k (i + 1) (by omega) (by omega)]
    rw [w_sub ((i + 1) * n / parts) (i * n / parts) hmono (by omega)]
    rcases span_step n parts i (by omega) with h | h
    · rw [if_pos (by omega)]
    · rw [if_neg (by omega), if_pos (by omega)]
theorem MatmulSpans : pelotonlaw04_MatmulSpans.Pure := by
  intro n parts h0 h1
  refine ⟨10003, ?_⟩
  have g1 := wf64 h1
  unfold pelotonlaw04_MatmulSpans.f
  rw [awake04_ok 10003 (by omega)]
  simp only [Option.bind_some, if_true]
  by_cases hbad : n < 0 ∨ n > 1099511627776 ∨ parts < 1 ∨ parts > 4096
  · rw [spans_bad n parts hbad 10003 (by omega)]
    have hj : pelotonlaw04_MatmulSpans.j0 10003 n parts [] 2 true = some true := by simp [pelotonlaw04_MatmulSpans.j0]
    simp only [Option.bind_some, hj]
    by_cases b1 : n < 0
    · rw [if_pos b1]
    · rw [if_neg b1]
      by_cases b2 : n > 1099511627776
      · rw [if_pos b2]
      · rw [if_neg b2]
        by_cases b3 : parts < 1
        · rw [if_pos b3]
        · rw [if_neg b3, decide_eq_true (by omega), hj]
  · obtain ⟨n, rfl⟩ := Int.eq_ofNat_of_zero_le (show 0 ≤ n by omega)
    obtain ⟨parts, rfl⟩ := Int.eq_ofNat_of_zero_le (show 0 ≤ parts by omega)
    rw [spans_eq n parts (by omega) (by omega) (by omega) 10003 (by omega)]
    simp only [Option.bind_some]
    have hlast : rd (spansS n parts) (parts : Int) = n := by
      rw [spansS_rd n parts parts (by omega), Nat.mul_div_cancel_left _ (by omega)]
    have hfirst : rd (spansS n parts) 0 = 0 := by
      have := spansS_rd n parts 0 (by omega)
      simpa using this
    rw [if_neg (by omega), if_neg (by omega), if_neg (by omega), decide_eq_false (by omega)]
    simp only [pelotonlaw04_MatmulSpans.j0]
    rw [if_neg (by simp), if_pos trivial, wrap64_wf _ (by omega) (by omega), spansS_length, if_pos (by omega), if_pos (by omega), if_pos hfirst, if_pos (by omega), if_pos (by omega), hlast]
    simp only [bne_self_eq_false, pelotonlaw04_MatmulSpans.j1]
    rw [if_neg (by simp)]
    exact MatmulSpans_l0 n parts (by omega) (by omega) (by omega) parts 10001 0 (by omega) (by omega)

end Go.Proofs.Ytananmepljeldaa.Pure
