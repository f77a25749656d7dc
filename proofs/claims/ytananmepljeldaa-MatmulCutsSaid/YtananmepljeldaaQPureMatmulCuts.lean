/- MatmulCuts: the law's plain part: what its functions compute answers true, for all arguments of its types. No condition beside the given bounds. -/
import Derived.Test.YtananmepljeldaaQMatmulCutsx6
import Derived.Test.YtananmepljeldaaMath
namespace Go.Proofs.Ytananmepljeldaa.Pure
open Go.RowKit Go.Proofs.Ytananmepljeldaa.QMatmulCuts Go.Proofs.YtananmepljeldaaW.PrintWords Go.Proofs.YtananmepljeldaaW.PrintLast Go.Proofs.YtananmepljeldaaW.PrintMore Go.PelMath
set_option linter.unusedVariables false
set_option linter.unusedSimpArgs false
theorem wf64 {x : Int} (h : (Lit.int .i64 x).wf = true) : -9223372036854775808 ≤ x ∧ x ≤ 9223372036854775807 := by
  simp [Lit.wf, IntKind.min, IntKind.max, IntKind.bits, IntKind.signed] at h; omega
theorem wf32 {x : Int} (h : (Lit.int .i32 x).wf = true) : -2147483648 ≤ x ∧ x ≤ 2147483647 := by
  simp [Lit.wf, IntKind.min, IntKind.max, IntKind.bits, IntKind.signed] at h; omega
theorem wf8 {x : Int} (h : (Lit.int .i8 x).wf = true) : -128 ≤ x ∧ x ≤ 127 := by
  simp [Lit.wf, IntKind.min, IntKind.max, IntKind.bits, IntKind.signed] at h; omega

def nn (n : Int) : Nat := (mn (mx n 0) 62).toNat
theorem nn_le (n : Int) : nn n ≤ 62 := by unfold nn mn mx; (repeat' split) <;> omega
theorem nn_of (n : Int) (h0 : 0 ≤ n) (h1 : n ≤ 62) : nn n = n.toNat := by unfold nn mn mx; (repeat' split) <;> omega

def clamp (x a b : Int) : Int := if x < a then a else if b < x then b else x
theorem clamp_range (x a b : Int) (h : a ≤ b) : a ≤ clamp x a b ∧ clamp x a b ≤ b := by unfold clamp; (repeat' split) <;> omega
theorem clamp_mono (x y a b : Int) (h : a ≤ b) (hxy : x ≤ y) : clamp x a b ≤ clamp y a b := by unfold clamp; (repeat' split) <;> omega
theorem clamp_id (x a b : Int) (h0 : a ≤ x) (h1 : x ≤ b) : clamp x a b = x := by unfold clamp; (repeat' split) <;> omega

theorem mul32 (x y : Int) (hx : -2147483648 ≤ x ∧ x ≤ 2147483647) (hy : -2147483648 ≤ y ∧ y ≤ 2147483647) : -4611686018427387904 ≤ x * y ∧ x * y ≤ 4611686018427387904 := by
  have h := Int.natAbs_mul x y
  have h1 : x.natAbs ≤ 2147483648 := by omega
  have h2 : y.natAbs ≤ 2147483648 := by omega
  have h3 : x.natAbs * y.natAbs ≤ 2147483648 * 2147483648 := Nat.mul_le_mul h1 h2
  omega

theorem wrap32_range (x : Int) : -2147483648 ≤ wrap32 x ∧ wrap32 x ≤ 2147483647 := by unfold wrap32; omega
theorem wrap32_0 : wrap32 0 = 0 := by unfold wrap32; omega
theorem rd_nat (l : List Int) (i : Nat) (h : i < l.length) : rd l (i : Int) = l[i] := by
  unfold rd; simp [List.getD, h]
theorem drop_cons (l : List Int) (i : Nat) (h : i < l.length) : l.drop i = rd l (i : Int) :: l.drop (i + 1) := by
  rw [rd_nat l i h, List.drop_eq_getElem_cons h]
theorem rd_mem (l : List Int) (i : Nat) (h : i < l.length) : rd l (i : Int) ∈ l := by rw [rd_nat l i h]; exact List.getElem_mem h
theorem next (i n : Nat) (h : i < n) (hn : n ≤ 9223372036854775807) : wrap64 ((i : Int) + 1) = ((i + 1 : Nat) : Int) := by
  rw [wrap64_wf _ (by omega) (by omega)]; omega

def dotI : List Int → List Int → Int
  | x :: a, y :: b => x * y + dotI a b
  | _, _ => 0
def prods : List Int → List Int → List Int
  | x :: a, y :: b => x * y :: prods a b
  | _, _ => []
theorem dotI_nil (a : List Int) : dotI a [] = 0 := by cases a <;> rfl
theorem tot_prods (a : List Int) : ∀ b, tot (prods a b) = dotI a b := by
  induction a with
  | nil => intro b; rfl
  | cons x a ih => intro b; cases b with
    | nil => rfl
    | cons y b => simp only [prods, tot, dotI, ih]
theorem prods_length (a : List Int) : ∀ b, (prods a b).length ≤ a.length := by
  induction a with
  | nil => intro b; simp [prods]
  | cons x a ih => intro b; cases b with
    | nil => simp [prods]
    | cons y b => simp only [prods, List.length_cons]; have := ih b; omega

theorem dot_loop (a b : List Int) (ha : a.length ≤ 9223372036854775807) (hw : ∀ x ∈ a, -128 ≤ x ∧ x ≤ 127) (hv : ∀ x ∈ b, -128 ≤ x ∧ x ≤ 127) : ∀ (d k i : Nat) (s : Int), i + d = min a.length b.length → d < k →
    round_Dot.l0 k a b (wrap32 s) (min a.length b.length : Nat) i = some (wrap32 (s + dotI (a.drop i) (b.drop i))) := by
  intro d
  induction d with
  | zero =>
    intro k i s hi hk
    obtain ⟨k, rfl⟩ : ∃ m, k = m + 1 := ⟨k - 1, by omega⟩
    simp only [round_Dot.l0]
    rw [if_neg (by omega)]
    by_cases hc : i < a.length
    · rw [List.drop_of_length_le (l := b) (by omega), dotI_nil]; simp
    · rw [List.drop_of_length_le (l := a) (by omega)]; simp [dotI]
  | succ d ih =>
    intro k i s hi hk
    obtain ⟨k, rfl⟩ : ∃ m, k = m + 1 := ⟨k - 1, by omega⟩
    have hr := hw _ (rd_mem a i (by omega)); have hq := hv _ (rd_mem b i (by omega))
    simp only [round_Dot.l0]
    rw [if_pos (by omega), if_pos (by omega), if_pos (by omega), if_pos (by omega), next i _ (show i < a.length by omega) ha,
      wrap32_wf (rd a (i : Int)) (by omega) (by omega), wrap32_wf (rd b (i : Int)) (by omega) (by omega), wrap32_add_left, wrap32_add_right, ih k (i + 1) _ (by omega) (by omega), drop_cons a i (by omega), drop_cons b i (by omega)]
    simp only [dotI]
    rw [Int.add_assoc]
theorem dot_eq (a b : List Int) (ha : a.length ≤ 9223372036854775807) (hw : ∀ x ∈ a, -128 ≤ x ∧ x ≤ 127) (hv : ∀ x ∈ b, -128 ≤ x ∧ x ≤ 127) (k : Nat) (hk : a.length < k) : round_Dot.f k a b = some (wrap32 (dotI a b)) := by
  unfold round_Dot.f
  rw [show mn (a.length : Int) (b.length : Int) = ((min a.length b.length : Nat) : Int) by unfold mn; split <;> omega]
  have := dot_loop a b ha hw hv (min a.length b.length) k 0 0 (by omega) (by omega)
  rw [wrap32_0] at this; simpa using this

theorem rest31 (n : Int) (h : -9223372036854775808 ≤ n ∧ n ≤ 9223372036854775807) : ∃ m : Nat, Int.tmod (wrap64 (Int.tmod n 31 + 31)) 31 = m ∧ m ≤ 30 := by
  have h1 := Int.tmod_lt_of_pos n (show (0 : Int) < 31 by omega)
  have h2 := Int.lt_tmod_of_pos n (show (0 : Int) < 31 by omega)
  rw [wrap64_wf _ (by omega) (by omega), Int.tmod_eq_emod_of_nonneg (by omega)]
  exact ⟨((Int.tmod n 31 + 31) % 31).toNat, by omega, by omega⟩

theorem mulb {a b A B : Int} (h0 : 0 ≤ a) (h1 : a ≤ A) (h2 : 0 ≤ b) (h3 : b ≤ B) : 0 ≤ a * b ∧ a * b ≤ A * B :=
  ⟨Int.mul_nonneg h0 h2, Int.mul_le_mul h1 h3 h2 (Int.le_trans h0 h1)⟩

def RightM (r c : Int) (n : Nat) : Prop := 0 ≤ r ∧ r ≤ 4096 ∧ 0 ≤ c ∧ c ≤ 4096 ∧ (n : Int) = r * c ∧ n ≤ 1048576
instance (r c : Int) (n : Nat) : Decidable (RightM r c n) := by unfold RightM; infer_instance

theorem side_eq (n : Int) : matmul_side.f n = some (decide (0 ≤ n ∧ n ≤ 4096)) := by
  unfold matmul_side.f
  by_cases h : 0 ≤ n
  · rw [if_pos h]; simp [h]
  · rw [if_neg h]; simp [h]
theorem wrong_eq (r c : Int) (v : List Int) : matmul_wrong.f r c v = some (!decide (RightM r c v.length)) := by
  unfold matmul_wrong.f
  rw [side_eq, side_eq]
  simp only [Option.bind_some, decide_eq_true_eq]
  by_cases h1 : 0 ≤ r ∧ r ≤ 4096
  · rw [if_pos h1]
    by_cases h2 : 0 ≤ c ∧ c ≤ 4096
    · rw [if_pos h2]
      have hb := mulb h1.1 h1.2 h2.1 h2.2
      rw [wrap64_wf _ (by omega) (by omega)]
      by_cases h3 : (v.length : Int) = r * c
      · rw [if_pos h3]
        by_cases h4 : (v.length : Int) > 1048576
        · rw [decide_eq_true h4, decide_eq_false (fun h => by obtain ⟨_, _, _, _, _, _⟩ := h; omega)]; rfl
        · have hm : RightM r c v.length := ⟨h1.1, h1.2, h2.1, h2.2, h3, by omega⟩
          rw [decide_eq_false h4, decide_eq_true hm]; rfl
      · rw [if_neg h3, decide_eq_false (fun h => h3 h.2.2.2.2.1)]; rfl
    · rw [if_neg h2, decide_eq_false (fun h => h2 ⟨h.2.2.1, h.2.2.2.1⟩)]; rfl
  · rw [if_neg h1, decide_eq_false (fun h => h1 ⟨h.1, h.2.1⟩)]; rfl

theorem refright_eq (r c : Int) (v : List Int) : pelotonref04_Right.f r c v = some (decide (RightM r c v.length)) := by
  unfold pelotonref04_Right.f
  by_cases h1 : r ≥ 0
  · by_cases h2 : c ≥ 0
    · by_cases h3 : r ≤ 4096
      · by_cases h4 : c ≤ 4096
        · have hb := mulb h1 h3 h2 h4
          rw [if_pos h1, if_pos h2, if_pos h3, if_pos h4, wrap64_wf _ (by omega) (by omega)]
          by_cases h5 : (v.length : Int) = r * c
          · rw [if_pos h5]
            by_cases h6 : (v.length : Int) ≤ 1048576
            · have hm : RightM r c v.length := ⟨h1, h3, h2, h4, h5, by omega⟩
              rw [decide_eq_true h6, decide_eq_true hm]
            · rw [decide_eq_false h6, decide_eq_false (fun h => by obtain ⟨_, _, _, _, _, _⟩ := h; omega)]
          · rw [if_neg h5, decide_eq_false (fun h => h5 h.2.2.2.2.1)]
        · rw [if_pos h1, if_pos h2, if_pos h3, if_neg h4, decide_eq_false (fun h => h4 h.2.2.2.1)]
      · rw [if_pos h1, if_pos h2, if_neg h3, decide_eq_false (fun h => h3 h.2.1)]
    · rw [if_pos h1, if_neg h2, decide_eq_false (fun h => h2 h.2.2.1)]
  · rw [if_neg h1, decide_eq_false (fun h => h1 h.1)]

def rowOf (v : List Int) (c i : Nat) : List Int := (v.take ((i + 1) * c)).drop (i * c)
def applyS (r c : Nat) (v x : List Int) : List Int := (List.range r).map fun i => wrap32 (dotI (rowOf v c i) x)
theorem applyS_length (r c : Nat) (v x : List Int) : (applyS r c v x).length = r := by simp [applyS]
theorem row_in (v : List Int) (r c i : Nat) (h : v.length = r * c) (hi : i < r) : i * c + c ≤ v.length := by
  have := Nat.mul_le_mul_right c (show i + 1 ≤ r by omega)
  rw [Nat.add_mul] at this; omega
theorem rowOf_length (v : List Int) (r c i : Nat) (h : v.length = r * c) (hi : i < r) : (rowOf v c i).length = c := by
  have := row_in v r c i h hi
  simp only [rowOf, List.length_drop, List.length_take, Nat.add_mul]; omega
theorem rowOf_mem {v : List Int} {c i : Nat} {x : Int} (h : x ∈ rowOf v c i) : x ∈ v := List.mem_of_mem_take (List.mem_of_mem_drop h)
theorem rowOf_rd (v : List Int) (r c i j : Nat) (h : v.length = r * c) (hi : i < r) (hj : j < c) : rd (rowOf v c i) (j : Int) = rd v ((i * c + j : Nat) : Int) := by
  have h1 := row_in v r c i h hi
  have h2 := rowOf_length v r c i h hi
  rw [rd_nat _ j (by omega), rd_nat v _ (by omega)]
  simp only [rowOf, List.getElem_drop, List.getElem_take]
theorem map_range_drop (n i : Nat) (f : Nat → Int) (h : i < n) : ((List.range n).map f).drop i = f i :: ((List.range n).map f).drop (i + 1) := by
  rw [List.drop_eq_getElem_cons (by simpa using h)]; simp
theorem applyS_drop (r c i : Nat) (v x : List Int) (h : i < r) : (applyS r c v x).drop i = wrap32 (dotI (rowOf v c i) x) :: (applyS r c v x).drop (i + 1) := map_range_drop r i _ h
theorem applyS_rd (r c i : Nat) (v x : List Int) (h : i < r) : rd (applyS r c v x) (i : Int) = wrap32 (dotI (rowOf v c i) x) := by
  rw [rd_nat _ i (by rw [applyS_length]; exact h)]; simp [applyS]
theorem applyS_congr (r c : Nat) (v x : List Int) (f : Nat → Int) (h : ∀ i, i < r → wrap32 (dotI (rowOf v c i) x) = f i) : applyS r c v x = (List.range r).map f := by
  apply List.map_congr_left; intro i hi; exact h i (List.mem_range.1 hi)
theorem rowOf_eq (v : List Int) (c i : Nat) : (v.take ((i + 1) * c)).drop (i * c) = rowOf v c i := rfl
attribute [irreducible] rowOf applyS

theorem apply_loop (r c : Nat) (v x : List Int) (hr : r ≤ 4096) (hc : c ≤ 4096) (hv : v.length = r * c) (hvl : v.length ≤ 1048576) (hw : ∀ y ∈ v, -128 ≤ y ∧ y ≤ 127) (hx : ∀ y ∈ x, -128 ≤ y ∧ y ≤ 127) : ∀ (d k i : Nat) (o : List Int), i + d = r → d + 4100 < k → o.length = r →
    matmul_Apply.l0 k x o (r : Int) i r c v = some (o.take i ++ (applyS r c v x).drop i, 0) := by
  intro d
  induction d with
  | zero =>
    intro k i o hi hk ho
    obtain ⟨k, rfl⟩ : ∃ m, k = m + 1 := ⟨k - 1, by omega⟩
    simp only [matmul_Apply.l0]
    rw [if_neg (by omega), List.drop_of_length_le (by rw [applyS_length]; omega), List.take_of_length_le (by omega)]; simp
  | succ d ih =>
    intro k i o hi hk ho
    obtain ⟨k, rfl⟩ : ∃ m, k = m + 1 := ⟨k - 1, by omega⟩
    have hin := row_in v r c i hv (by omega)
    have e3 : (i + 1) * c = i * c + c := by rw [Nat.add_mul, Nat.one_mul]
    simp only [matmul_Apply.l0]
    rw [next i r (by omega) (by omega), w_mul i c (by omega), w_mul (i + 1) c (by omega), if_pos (by omega), if_pos (by omega), if_pos (by omega), if_pos (by omega)]
    simp only [Int.toNat_natCast]
    rw [rowOf_eq, dot_eq _ _ (by rw [rowOf_length v r c i hv (by omega)]; omega) (fun y hy => hw y (rowOf_mem hy)) hx k (by rw [rowOf_length v r c i hv (by omega)]; omega), Option.bind_some, if_pos (by omega), if_pos (by omega), ih k (i + 1) _ (by omega) (by omega) (by simp [ho])]
    rw [applyS_drop r c i v x (by omega)]
    rw [List.take_add_one, List.getElem?_set_self (by omega), List.take_set_of_le (Nat.le_refl _)]
    simp
theorem apply_eq (r c : Nat) (v x : List Int) (hm : RightM r c v.length) (hxl : x.length = c) (hw : ∀ y ∈ v, -128 ≤ y ∧ y ≤ 127) (hx : ∀ y ∈ x, -128 ≤ y ∧ y ≤ 127) (k : Nat) (hk : 9000 < k) :
    matmul_Apply.f k r c v x = some (applyS r c v x, 0) := by
  obtain ⟨k, rfl⟩ : ∃ m, k = m + 1 := ⟨k - 1, by omega⟩
  obtain ⟨m1, m2, m3, m4, m5, m6⟩ := id hm
  have hv : v.length = r * c := by exact_mod_cast m5
  unfold matmul_Apply.f
  rw [wrong_eq, decide_eq_true hm]
  simp only [Option.bind_some, Bool.not_true, Bool.false_eq_true, if_false, hxl, bne_self_eq_false]
  simp only [matmul_Apply.j0]
  rw [if_neg (by simp), if_pos (by omega), if_pos (by omega), Option.bind_some]
  simp only [Int.toNat_natCast, List.length_replicate]
  rw [show (0 : Int) = ((0 : Nat) : Int) from rfl]
  rw [apply_loop r c v x (by omega) (by omega) hv m6 hw hx r k 0 (List.replicate r ((0 : Nat) : Int)) (by omega) (by omega) (by simp)]
  simp
theorem apply_bad (r c : Int) (v x : List Int) (h : ¬ (RightM r c v.length ∧ (x.length : Int) = c)) (k : Nat) (hk : 2 < k) : matmul_Apply.f k r c v x = some ([], 30) := by
  obtain ⟨k, rfl⟩ : ∃ m, k = m + 1 := ⟨k - 1, by omega⟩
  unfold matmul_Apply.f
  rw [wrong_eq]
  by_cases hm : RightM r c v.length
  · have hne : (x.length : Int) ≠ c := fun e => h ⟨hm, e⟩
    rw [decide_eq_true hm]
    simp only [Option.bind_some, Bool.not_true, Bool.false_eq_true, if_false]
    rw [bne_iff_ne.2 hne]
    simp [matmul_Apply.j0]
  · rw [decide_eq_false hm]
    simp [matmul_Apply.j0]

theorem ints_loop (a b : List Int) (ha : a.length ≤ 9223372036854775807) (hab : a.length = b.length) : ∀ (d k i : Nat), i + d = a.length → d < k →
    pelotonref04_Ints.l0 k a b i = some (decide (a.drop i = b.drop i)) := by
  intro d
  induction d with
  | zero =>
    intro k i hi hk
    obtain ⟨k, rfl⟩ : ∃ m, k = m + 1 := ⟨k - 1, by omega⟩
    simp only [pelotonref04_Ints.l0]
    rw [if_neg (by omega), List.drop_of_length_le (by omega), List.drop_of_length_le (by omega)]; simp
  | succ d ih =>
    intro k i hi hk
    obtain ⟨k, rfl⟩ : ∃ m, k = m + 1 := ⟨k - 1, by omega⟩
    simp only [pelotonref04_Ints.l0]
    rw [if_pos (by omega), if_pos (by omega), if_pos (by omega), next i _ (show i < a.length by omega) ha, ih k (i + 1) (by omega) (by omega), drop_cons a i (by omega), drop_cons b i (by omega)]
    by_cases hc : rd a (i : Int) = rd b (i : Int)
    · rw [if_pos hc]; simp [hc]
    · rw [if_neg hc]; simp [hc]
theorem ints_eq (a b : List Int) (ha : a.length ≤ 9223372036854775807) (k : Nat) (hk : a.length < k) : pelotonref04_Ints.f k a b = some (decide (a = b)) := by
  unfold pelotonref04_Ints.f
  by_cases h : (a.length : Int) = b.length
  · rw [if_pos h]
    have := ints_loop a b ha (by omega) a.length k 0 (by omega) hk
    simpa using this
  · rw [if_neg h, decide_eq_false (fun e => h (by rw [e]))]

def spansS (n parts : Nat) : List Int := (List.range (parts + 1)).map fun i => ((i * n / parts : Nat) : Int)
theorem spansS_length (n parts : Nat) : (spansS n parts).length = parts + 1 := by simp [spansS]
theorem spansS_rd (n parts i : Nat) (h : i ≤ parts) : rd (spansS n parts) (i : Int) = ((i * n / parts : Nat) : Int) := by
  rw [rd_nat _ i (by rw [spansS_length]; omega)]; simp [spansS]
theorem spansS_drop (n parts i : Nat) (h : i < parts + 1) : (spansS n parts).drop i = ((i * n / parts : Nat) : Int) :: (spansS n parts).drop (i + 1) := map_range_drop (parts + 1) i _ h
attribute [irreducible] spansS
theorem spans_loop (n parts : Nat) (hn : n ≤ 1099511627776) (hp0 : 1 ≤ parts) (hp : parts ≤ 4096) : ∀ (d k i : Nat) (o : List Int), i + d = parts + 1 → d < k → o.length = parts + 1 →
    matmul_Spans.l0 k n parts o ((parts + 1 : Nat) : Int) i = some (o.take i ++ (spansS n parts).drop i, 0) := by
  intro d
  induction d with
  | zero =>
    intro k i o hi hk ho
    obtain ⟨k, rfl⟩ : ∃ m, k = m + 1 := ⟨k - 1, by omega⟩
    simp only [matmul_Spans.l0]
    rw [if_neg (by omega), List.drop_of_length_le (by rw [spansS_length]; omega), List.take_of_length_le (by omega)]; simp
  | succ d ih =>
    intro k i o hi hk ho
    obtain ⟨k, rfl⟩ : ∃ m, k = m + 1 := ⟨k - 1, by omega⟩
    have hb : i * n ≤ 4096 * 1099511627776 := Nat.mul_le_mul (by omega) hn
    simp only [matmul_Spans.l0]
    rw [if_pos (by omega), if_neg (by omega), if_pos (by omega), if_pos (by omega), next i (parts + 1) (by omega) (by omega), w_mul i n (by omega), w_div (i * n) parts (by omega), ih k (i + 1) _ (by omega) (by omega) (by simp [ho])]
    rw [spansS_drop n parts i (by omega)]
    simp only [Int.toNat_natCast]
    rw [List.take_add_one, List.getElem?_set_self (by omega), List.take_set_of_le (Nat.le_refl _)]
    simp
theorem spans_eq (n parts : Nat) (hn : n ≤ 1099511627776) (hp0 : 1 ≤ parts) (hp : parts ≤ 4096) (k : Nat) (hk : 5000 < k) : matmul_Spans.f k n parts = some (spansS n parts, 0) := by
  obtain ⟨k, rfl⟩ : ∃ m, k = m + 1 := ⟨k - 1, by omega⟩
  unfold matmul_Spans.f
  rw [if_neg (by omega), if_neg (by omega), if_neg (by omega), decide_eq_false (by omega)]
  simp only [matmul_Spans.j0]
  rw [show wrap64 ((parts : Int) + 1) = ((parts + 1 : Nat) : Int) from w_add parts 1 (by omega), if_neg (by simp), if_pos (by omega), if_pos (by omega), Option.bind_some]
  simp only [Int.toNat_natCast, List.length_replicate]
  rw [show (0 : Int) = ((0 : Nat) : Int) from rfl]
  rw [spans_loop n parts hn hp0 hp (parts + 1) k 0 (List.replicate (parts + 1) ((0 : Nat) : Int)) (by omega) (by omega) (by simp)]
  simp
theorem spans_bad (n parts : Int) (h : n < 0 ∨ n > 1099511627776 ∨ parts < 1 ∨ parts > 4096) (k : Nat) (hk : 2 < k) : matmul_Spans.f k n parts = some ([], 2) := by
  obtain ⟨k, rfl⟩ : ∃ m, k = m + 1 := ⟨k - 1, by omega⟩
  have hj : matmul_Spans.j0 (k + 1) n parts true = some ([], 2) := by simp [matmul_Spans.j0]
  unfold matmul_Spans.f
  rw [hj]
  by_cases h1 : n < 0
  · rw [if_pos h1]
  · rw [if_neg h1]
    by_cases h2 : n > 1099511627776
    · rw [if_pos h2]
    · rw [if_neg h2]
      by_cases h3 : parts < 1
      · rw [if_pos h3]
      · rw [if_neg h3, decide_eq_true (by omega), hj]

theorem clone_eq (l : List Int) (h : l.length < 140737488355328) : slices_Clone_int8_int8.f l = some l := by
  unfold slices_Clone_int8_int8.f
  simp only [Option.bind_some, List.length_nil, List.nil_append]
  rw [if_pos (by omega)]

def SpanOk (lo hi n : Int) : Prop := 0 ≤ lo ∧ lo ≤ hi ∧ hi ≤ n
instance (lo hi n : Int) : Decidable (SpanOk lo hi n) := by unfold SpanOk; infer_instance
theorem mspan_bad (r c : Int) (v : List Int) (lo hi n : Int) (h : ¬ RightM r c v.length) : matmul_span.f r c v lo hi n = some 30 := by
  unfold matmul_span.f; rw [wrong_eq, decide_eq_false h]; rfl
theorem mspan_eq (r c : Int) (v : List Int) (lo hi n : Int) (h : RightM r c v.length) : matmul_span.f r c v lo hi n = some (if SpanOk lo hi n then 0 else 2) := by
  unfold matmul_span.f; rw [wrong_eq, decide_eq_true h]
  simp only [Option.bind_some, Bool.not_true, Bool.false_eq_true, if_false]
  by_cases h1 : lo < 0
  · rw [if_pos h1, if_neg (fun g => by have := g.1; omega)]
  · rw [if_neg h1]
    by_cases h2 : lo > hi
    · rw [if_pos h2, if_neg (fun g => by have := g.2.1; omega)]
    · rw [if_neg h2]
      by_cases h3 : hi > n
      · rw [if_pos h3, if_neg (fun g => by have := g.2.2; omega)]
      · rw [if_neg h3, if_pos ⟨by omega, by omega, by omega⟩]

def partS (v : List Int) (c lo hi : Nat) : Nat → Nat → List Int
  | 0, _ => []
  | d + 1, i => (v.take (i * c + hi)).drop (i * c + lo) ++ partS v c lo hi d (i + 1)
theorem seg_length (v : List Int) (a b : Nat) (h : b ≤ v.length) : ((v.take b).drop a).length = b - a := by
  simp only [List.length_drop, List.length_take]; omega
theorem seg_mem {v : List Int} {a b : Nat} {x : Int} (h : x ∈ (v.take b).drop a) : x ∈ v := List.mem_of_mem_take (List.mem_of_mem_drop h)
theorem seg_join (v : List Int) (a m b : Nat) (h0 : a ≤ m) (h1 : m ≤ b) (h2 : b ≤ v.length) : (v.take m).drop a ++ (v.take b).drop m = (v.take b).drop a := by
  have e : v.take m = (v.take b).take m := by rw [List.take_take, Nat.min_eq_left h1]
  have hl : (v.take b).length = b := by rw [List.length_take]; omega
  generalize v.take b = w at *
  rw [e]
  conv => rhs; rw [← List.take_append_drop m w]
  rw [List.drop_append, List.length_take]
  rw [show a - min m w.length = 0 by omega]; rfl
theorem seg_full (v : List Int) (b : Nat) : (v.take b).drop b = [] := by
  apply List.drop_eq_nil_of_le; rw [List.length_take]; omega
theorem seg_cons (v : List Int) (a b : Nat) (h0 : a < b) (h1 : b ≤ v.length) : (v.take b).drop a = rd v (a : Int) :: (v.take b).drop (a + 1) := by
  rw [List.drop_eq_getElem_cons (by rw [List.length_take]; omega), List.getElem_take, rd_nat v a (by omega)]
theorem row_end (v : List Int) (r c i : Nat) (h : v.length = r * c) (hi : i < r) : i * c + c ≤ v.length := by
  have := Nat.mul_le_mul_right c (show i + 1 ≤ r by omega)
  rw [Nat.add_mul] at this; omega
theorem partS_mem (v : List Int) (c lo hi : Nat) : ∀ d i x, x ∈ partS v c lo hi d i → x ∈ v := by
  intro d
  induction d with
  | zero => intro i x h; simp [partS] at h
  | succ d ih =>
    intro i x h
    rw [partS, List.mem_append] at h
    rcases h with h | h
    · exact seg_mem h
    · exact ih _ _ h
theorem partS_length (v : List Int) (r c lo hi : Nat) (hv : v.length = r * c) (h0 : lo ≤ hi) (h1 : hi ≤ c) : ∀ d i, i + d ≤ r → (partS v c lo hi d i).length = d * (hi - lo) := by
  intro d
  induction d with
  | zero => intro i h; simp [partS]
  | succ d ih =>
    intro i h
    have := row_end v r c i hv (by omega)
    rw [partS, List.length_append, ih (i + 1) (by omega), seg_length _ _ _ (by omega), Nat.add_mul]; omega
theorem partS_rows (v : List Int) (r c : Nat) (hv : v.length = r * c) : ∀ d i, i + d ≤ r → partS v c 0 c d i = (v.take ((i + d) * c)).drop (i * c) := by
  intro d
  induction d with
  | zero => intro i h; rw [partS, Nat.add_zero, seg_full]
  | succ d ih =>
    intro i h
    have h1 := row_end v r c i hv (by omega)
    have h2 : (i + (d + 1)) * c ≤ v.length := by rw [hv]; exact Nat.mul_le_mul_right c h
    have h3 : (i + 1) * c = i * c + c := by rw [Nat.add_mul, Nat.one_mul]
    have h4 : (i + 1) * c ≤ (i + (d + 1)) * c := Nat.mul_le_mul_right c (by omega)
    rw [partS, ih (i + 1) (by omega), h3, show i + 1 + d = i + (d + 1) by omega, Nat.add_zero]
    exact seg_join v _ _ _ (by omega) (by omega) h2
attribute [irreducible] partS

theorem rows_bad (r c : Int) (v : List Int) (lo hi : Int) (h : ¬ RightM r c v.length) : matmul_Rows.f r c v lo hi = some (0, 0, [], 30) := by
  unfold matmul_Rows.f; rw [mspan_bad _ _ _ _ _ _ h]; rfl
theorem rows_no (r c : Int) (v : List Int) (lo hi : Int) (h : RightM r c v.length) (hs : ¬ SpanOk lo hi r) : matmul_Rows.f r c v lo hi = some (0, 0, [], 2) := by
  unfold matmul_Rows.f; rw [mspan_eq _ _ _ _ _ _ h, if_neg hs]; rfl
theorem rows_go (r c : Int) (v : List Int) (lo hi D : Int) (A B : Nat) (h : RightM r c v.length) (hs : SpanOk lo hi r) (eA : wrap64 (lo * c) = (A : Int)) (eB : wrap64 (hi * c) = (B : Int)) (eD : wrap64 (hi - lo) = D) (hAB : A ≤ B) (hB : B ≤ v.length) : matmul_Rows.f r c v lo hi = some (D, c, (v.take B).drop A, 0) := by
  have hl : ((v.take B).drop A).length < 140737488355328 := Nat.lt_of_le_of_lt (Nat.le_trans (by rw [seg_length v A B hB]; exact Nat.sub_le _ _) (Nat.le_trans hB h.2.2.2.2.2)) (by decide)
  unfold matmul_Rows.f
  rw [mspan_eq r c v lo hi r h, if_pos hs, Option.bind_some, if_pos rfl, eA, eB, eD, if_pos (Int.natCast_nonneg A), if_pos (Int.ofNat_le.2 hAB), if_pos (Int.ofNat_le.2 hB), Int.toNat_natCast, Int.toNat_natCast, clone_eq _ hl, Option.bind_some]
theorem rows_eq (r c : Nat) (v : List Int) (lo hi : Nat) (h : RightM r c v.length) (h0 : lo ≤ hi) (h1 : hi ≤ r) : matmul_Rows.f r c v lo hi = some (((hi - lo : Nat) : Int), (c : Int), (v.take (hi * c)).drop (lo * c), 0) := by
  obtain ⟨m1, m2, m3, m4, m5, m6⟩ := id h
  have hv : v.length = r * c := by exact_mod_cast m5
  have e1 : lo * c ≤ hi * c := Nat.mul_le_mul_right c h0
  have e2 : hi * c ≤ v.length := by rw [hv]; exact Nat.mul_le_mul_right c h1
  exact rows_go r c v lo hi _ _ _ h ⟨Int.natCast_nonneg lo, Int.ofNat_le.2 h0, Int.ofNat_le.2 h1⟩ (w_mul lo c (by omega)) (w_mul hi c (by omega)) (w_sub hi lo h0 (by omega)) e1 e2

theorem cols_loop (r c : Nat) (v : List Int) (lo hi : Nat) (w : Int) (hv : v.length = r * c) (hr : r ≤ 4096) (hc : c ≤ 4096) (hvl : v.length ≤ 1048576) (h0 : lo ≤ hi) (h1 : hi ≤ c) : ∀ (d k i : Nat) (o : List Int), i + d = r → d < k → o.length ≤ i * 4096 →
    matmul_Cols.l0 k lo hi (r : Int) i r c v r w o = some ((r : Int), w, o ++ partS v c lo hi d i, 0) := by
  intro d
  induction d with
  | zero =>
    intro k i o hi' hk ho
    obtain ⟨k, rfl⟩ : ∃ m, k = m + 1 := ⟨k - 1, by omega⟩
    simp only [matmul_Cols.l0]
    rw [if_neg (by omega), partS, List.append_nil]
  | succ d ih =>
    intro k i o hi' hk ho
    obtain ⟨k, rfl⟩ : ∃ m, k = m + 1 := ⟨k - 1, by omega⟩
    have hin := row_end v r c i hv (by omega)
    have hsl := seg_length v (i * c + lo) (i * c + hi) (by omega)
    simp only [matmul_Cols.l0]
    rw [if_pos (by omega), w_mul i c (by omega), w_add (i * c) lo (by omega), w_add (i * c) hi (by omega), if_pos (by omega), if_pos (by omega), if_pos (by omega)]
    simp only [Int.toNat_natCast]
    rw [if_pos (by rw [hsl]; omega), next i r (by omega) (by omega), ih k (i + 1) _ (by omega) (by omega) (by rw [List.length_append, hsl]; omega), List.append_assoc]
    rw [show partS v c lo hi (d + 1) i = (v.take (i * c + hi)).drop (i * c + lo) ++ partS v c lo hi d (i + 1) by rw [partS]]
theorem cols_bad (k : Nat) (r c : Int) (v : List Int) (lo hi : Int) (h : ¬ RightM r c v.length) : matmul_Cols.f k r c v lo hi = some (0, 0, [], 30) := by
  unfold matmul_Cols.f; rw [mspan_bad _ _ _ _ _ _ h]; rfl
theorem cols_no (k : Nat) (r c : Int) (v : List Int) (lo hi : Int) (h : RightM r c v.length) (hs : ¬ SpanOk lo hi c) : matmul_Cols.f k r c v lo hi = some (0, 0, [], 2) := by
  unfold matmul_Cols.f; rw [mspan_eq _ _ _ _ _ _ h, if_neg hs]; rfl
theorem cols_eq (k : Nat) (r c : Nat) (v : List Int) (lo hi : Nat) (h : RightM r c v.length) (h0 : lo ≤ hi) (h1 : hi ≤ c) (hk : 4100 < k) : matmul_Cols.f k r c v lo hi = some ((r : Int), ((hi - lo : Nat) : Int), partS v c lo hi r 0, 0) := by
  obtain ⟨m1, m2, m3, m4, m5, m6⟩ := id h
  have hv : v.length = r * c := by exact_mod_cast m5
  unfold matmul_Cols.f
  rw [mspan_eq _ _ _ _ _ _ h, if_pos ⟨by omega, by omega, by omega⟩]
  simp only [Option.bind_some]
  rw [if_pos trivial, w_sub hi lo h0 (by omega)]
  have := cols_loop r c v lo hi ((hi - lo : Nat) : Int) hv (by omega) (by omega) m6 h0 h1 r k 0 [] (by omega) (by omega) (by simp)
  simpa using this

theorem wide_loop (v : List Int) (r c : Int) (hvl : v.length ≤ 1048576) : ∀ (d k i : Nat) (o : List Int), i + d = v.length → d < k → o.length = v.length →
    matmul_Wide.l0 k v (v.length : Int) i r c o = some (r, c, o.take i ++ (v.map wrap32).drop i, 0) := by
  intro d
  induction d with
  | zero =>
    intro k i o hi hk ho
    obtain ⟨k, rfl⟩ : ∃ m, k = m + 1 := ⟨k - 1, by omega⟩
    simp only [matmul_Wide.l0]
    rw [if_neg (by omega), List.drop_of_length_le (by rw [List.length_map]; omega), List.take_of_length_le (by omega)]; simp
  | succ d ih =>
    intro k i o hi hk ho
    obtain ⟨k, rfl⟩ : ∃ m, k = m + 1 := ⟨k - 1, by omega⟩
    simp only [matmul_Wide.l0]
    rw [if_pos (by omega), if_pos (by omega), if_pos (by omega), if_pos (by omega), next i v.length (by omega) (by omega), ih k (i + 1) _ (by omega) (by omega) (by simp [ho])]
    have e : (v.map wrap32).drop i = wrap32 (rd v (i : Int)) :: (v.map wrap32).drop (i + 1) := by
      rw [List.drop_eq_getElem_cons (by rw [List.length_map]; omega), List.getElem_map, rd_nat v i (by omega)]
    rw [e]
    simp only [Int.toNat_natCast]
    rw [List.take_add_one, List.getElem?_set_self (by omega), List.take_set_of_le (Nat.le_refl _)]
    simp
theorem wide_bad (k : Nat) (r c : Int) (v : List Int) (h : ¬ RightM r c v.length) : matmul_Wide.f k r c v = some (0, 0, [], 30) := by
  unfold matmul_Wide.f; rw [wrong_eq, decide_eq_false h]; rfl
theorem wide_eq (k : Nat) (r c : Int) (v : List Int) (h : RightM r c v.length) (hk : v.length < k) : matmul_Wide.f k r c v = some (r, c, v.map wrap32, 0) := by
  have hvl := h.2.2.2.2.2
  unfold matmul_Wide.f; rw [wrong_eq, decide_eq_true h]
  simp only [Option.bind_some, Bool.not_true, Bool.false_eq_true, if_false]
  rw [if_pos (by omega), if_pos (by omega)]
  have := wide_loop v r c hvl v.length k 0 (List.replicate v.length 0) (by omega) hk (by simp)
  simpa using this

theorem same_loop (r c r' c' : Int) (a b : List Int) (ha : a.length ≤ 9223372036854775807) (hab : a.length = b.length) : ∀ (d k i : Nat), i + d = a.length → d < k →
    pelotonref04_Same.l0 k i r c a r' c' b = some (decide (a.drop i = b.drop i)) := by
  intro d
  induction d with
  | zero =>
    intro k i hi hk
    obtain ⟨k, rfl⟩ : ∃ m, k = m + 1 := ⟨k - 1, by omega⟩
    simp only [pelotonref04_Same.l0]
    rw [if_neg (by omega), List.drop_of_length_le (by omega), List.drop_of_length_le (by omega)]; simp
  | succ d ih =>
    intro k i hi hk
    obtain ⟨k, rfl⟩ : ∃ m, k = m + 1 := ⟨k - 1, by omega⟩
    simp only [pelotonref04_Same.l0]
    rw [if_pos (by omega), if_pos (by omega), if_pos (by omega), next i _ (show i < a.length by omega) ha, ih k (i + 1) (by omega) (by omega), drop_cons a i (by omega), drop_cons b i (by omega)]
    by_cases hc : rd a (i : Int) = rd b (i : Int)
    · rw [if_pos hc]; simp [hc]
    · rw [if_neg hc]; simp [hc]
theorem same_self (r c : Int) (a : List Int) (ha : a.length ≤ 1048576) (k : Nat) (hk : 1048579 < k) : pelotonref04_Same.f k r c a r c a = some true := by
  obtain ⟨k, rfl⟩ : ∃ m, k = m + 1 := ⟨k - 1, by omega⟩
  unfold pelotonref04_Same.f
  rw [if_pos rfl, if_pos rfl]
  simp only [bne_self_eq_false, pelotonref04_Same.j0]
  rw [if_neg (by simp)]
  have := same_loop r c r c a a (by omega) rfl a.length k 0 (by omega) (by omega)
  simpa using this

theorem refpart_l1 (rr cc : Int) (r c : Nat) (v : List Int) (hv : v.length = r * c) (hr : r ≤ 4096) (hc : c ≤ 4096) (hvl : v.length ≤ 1048576) (i : Nat) (hi : i < r) (hi2 lo : Nat) (h1 : hi2 ≤ c) (x2 : Int) : ∀ (d k j : Nat) (o : List Int), j + d = hi2 → d < k → o.length ≤ i * 4096 + j →
    pelotonref04_Part.l1 k x2 lo hi2 i j r c v rr cc o = pelotonref04_Part.l0 (k - (d + 1)) x2 lo hi2 ((i + 1 : Nat) : Int) r c v rr cc (o ++ (v.take (i * c + hi2)).drop (i * c + j)) := by
  intro d
  induction d with
  | zero =>
    intro k j o hj hk ho
    obtain ⟨k, rfl⟩ : ∃ m, k = m + 1 := ⟨k - 1, by omega⟩
    simp only [pelotonref04_Part.l1]
    rw [if_neg (by omega), next i r hi (by omega), show j = hi2 by omega, seg_full, List.append_nil]; rfl
  | succ d ih =>
    intro k j o hj hk ho
    obtain ⟨k, rfl⟩ : ∃ m, k = m + 1 := ⟨k - 1, by omega⟩
    have hin := row_end v r c i hv hi
    simp only [pelotonref04_Part.l1]
    rw [if_pos (by omega), w_mul i c (by omega), w_add (i * c) j (by omega), if_pos (by omega), if_pos (by omega), if_pos (by omega), next j hi2 (by omega) (by omega), ih k (j + 1) _ (by omega) (by omega) (by rw [List.length_append, List.length_singleton]; omega)]
    rw [seg_cons v (i * c + j) (i * c + hi2) (by omega) (by omega), List.append_assoc, List.singleton_append, show k + 1 - (d + 1 + 1) = k - (d + 1) by omega, Nat.add_assoc]
theorem refpart_l0 (rr cc : Int) (r c : Nat) (v : List Int) (hv : v.length = r * c) (hr : r ≤ 4096) (hc : c ≤ 4096) (hvl : v.length ≤ 1048576) (lo hi : Nat) (h0 : lo ≤ hi) (h1 : hi ≤ c) (e : Nat) (he : e ≤ r) (s : Nat) (hs : hi - lo + 1 < s) : ∀ (d k i : Nat) (o : List Int), i + d = e → d * s < k → o.length ≤ i * 4096 →
    pelotonref04_Part.l0 k e lo hi i r c v rr cc o = some (rr, cc, o ++ partS v c lo hi d i) := by
  intro d
  induction d with
  | zero =>
    intro k i o hi' hk ho
    obtain ⟨k, rfl⟩ : ∃ m, k = m + 1 := ⟨k - 1, by omega⟩
    simp only [pelotonref04_Part.l0]
    rw [if_neg (by omega), partS, List.append_nil]
  | succ d ih =>
    intro k i o hi' hk ho
    obtain ⟨k, rfl⟩ : ∃ m, k = m + 1 := ⟨k - 1, by omega⟩
    have hin := row_end v r c i hv (by omega)
    have hsl := seg_length v (i * c + lo) (i * c + hi) (by omega)
    simp only [pelotonref04_Part.l0]
    rw [Nat.add_mul, Nat.one_mul] at hk
    have hk2 : hi - lo < k := by generalize d * s = D at *; omega
    have hk3 : d * s < k - (hi - lo + 1) := by generalize d * s = D at *; omega
    clear hk hs
    have hd : (o ++ (v.take (i * c + hi)).drop (i * c + lo)).length ≤ (i + 1) * 4096 := by
      rw [List.length_append, hsl, Nat.add_mul, Nat.one_mul]
      have e4 : i * c + hi - (i * c + lo) ≤ 4096 := by omega
      exact Nat.add_le_add ho e4
    rw [if_pos (by omega), refpart_l1 rr cc r c v hv hr hc hvl i (by omega) hi lo h1 e (hi - lo) k lo o (by omega) hk2 (Nat.le_trans ho (Nat.le_add_right _ _)),
      ih (k - (hi - lo + 1)) (i + 1) (o ++ (v.take (i * c + hi)).drop (i * c + lo)) (by omega) hk3 hd, List.append_assoc]
    rw [show partS v c lo hi (d + 1) i = (v.take (i * c + hi)).drop (i * c + lo) ++ partS v c lo hi d (i + 1) by rw [partS]]
theorem refpart_eq (r c : Nat) (v : List Int) (h : RightM r c v.length) (a b lo hi : Nat) (h0 : lo ≤ hi) (h1 : hi ≤ c) (h2 : a ≤ b) (h3 : b ≤ r) (k : Nat) (hk : 20500000 < k) :
    pelotonref04_Part.f k r c v a b lo hi = some (((b - a : Nat) : Int), ((hi - lo : Nat) : Int), partS v c lo hi (b - a) a) := by
  obtain ⟨m1, m2, m3, m4, m5, m6⟩ := id h
  have hv : v.length = r * c := by exact_mod_cast m5
  unfold pelotonref04_Part.f
  rw [w_sub b a h2 (by omega), w_sub hi lo h0 (by omega), refpart_l0 _ _ r c v hv (by omega) (by omega) m6 lo hi h0 h1 b h3 5000 (by omega) (b - a) k a [] (by omega) (Nat.lt_of_le_of_lt (Nat.mul_le_mul_right 5000 (show b - a ≤ 4096 by omega)) (Nat.lt_trans (by decide) hk)) (by simp), List.nil_append]

theorem awake04_ok (k : Nat) (hk : 30 ≤ k) : pelotonlaw04_awake.f k = some true :=
  at_rounds pelotonlaw04_awake.mono hk (by decide +kernel)

theorem dotI_zero (a : List Int) : ∀ n, dotI a (List.replicate n 0) = 0 := by
  induction a with
  | nil => intro n; rfl
  | cons x a ih => intro n; cases n with
    | zero => rfl
    | succ n => simp only [List.replicate_succ, dotI, ih]; omega
theorem dotI_unit (a : List Int) : ∀ (n i : Nat), i < n → i < a.length → dotI a ((List.replicate n 0).set i 1) = rd a (i : Int) := by
  induction a with
  | nil => intro n i h1 h2; simp at h2
  | cons x a ih => intro n i h1 h2; cases n with
    | zero => omega
    | succ n => cases i with
      | zero => simp only [List.replicate_succ, List.set_cons_zero, dotI, dotI_zero]; rw [rd_nat _ 0 (by simp)]; simp
      | succ i =>
        simp only [List.length_cons] at h2
        simp only [List.replicate_succ, List.set_cons_succ, dotI]
        rw [ih n i (by omega) (by omega), rd_nat _ (i + 1) (by simp; omega), rd_nat a i (by omega)]; simp
theorem restp (x n : Int) (h0 : 0 < n) (h1 : n ≤ 4611686018427387904) : ∃ m : Nat, Int.tmod (wrap64 (Int.tmod x n + n)) n = m ∧ (m : Int) < n := by
  have g1 := Int.tmod_lt_of_pos x h0
  have g2 := Int.lt_tmod_of_pos x h0
  rw [wrap64_wf _ (by omega) (by omega), Int.tmod_eq_emod_of_nonneg (by omega)]
  have e1 := Int.emod_nonneg (Int.tmod x n + n) (show n ≠ 0 by omega)
  have e2 := Int.emod_lt_of_pos (Int.tmod x n + n) h0
  exact ⟨((Int.tmod x n + n) % n).toNat, by omega, by omega⟩

theorem MatmulCuts_j7 (r c : Nat) (v : List Int) (h : RightM r c v.length) (hw : ∀ y ∈ v, -128 ≤ y ∧ y ≤ 127) (lo hi : Int) (k : Nat) (hk : 21000000 < k) (ra ca : Int) (va : List Int) (ea : Int) (hf : matmul_Cols.f k r c v lo hi = some (ra, ca, va, ea)) :
    pelotonlaw04_MatmulCuts.j7 k lo hi ea (decide (SpanOk lo hi c)) r c v ra ca va = some true := by
  obtain ⟨k, rfl⟩ : ∃ m, k = m + 1 := ⟨k - 1, by omega⟩
  obtain ⟨m1, m2, m3, m4, m5, m6⟩ := id h
  have hv : v.length = r * c := by exact_mod_cast m5
  simp only [pelotonlaw04_MatmulCuts.j7]
  by_cases hs : SpanOk lo hi c
  · obtain ⟨s1, s2, s3⟩ := id hs
    obtain ⟨lo, rfl⟩ := Int.eq_ofNat_of_zero_le s1
    obtain ⟨hi, rfl⟩ := Int.eq_ofNat_of_zero_le (show 0 ≤ hi by omega)
    rw [cols_eq (k + 1) r c v lo hi h (by omega) (by omega) (by omega)] at hf
    obtain ⟨rfl, rfl, rfl, rfl⟩ : (r : Int) = ra ∧ ((hi - lo : Nat) : Int) = ca ∧ partS v c lo hi r 0 = va ∧ 0 = ea := by simpa using hf
    rw [decide_eq_true hs, if_pos rfl, if_pos rfl]
    have := refpart_eq r c v h 0 r lo hi (by omega) (by omega) (by omega) (by omega) k (by omega)
    simp only [Nat.sub_zero] at this
    rw [show (0 : Int) = ((0 : Nat) : Int) from rfl, this]
    simp only [Option.bind_some]
    have hb : r * (hi - lo) ≤ r * c := Nat.mul_le_mul_left r (by omega)
    rw [same_self _ _ _ (by rw [partS_length v r c lo hi hv (by omega) (by omega) r 0 (by omega)]; omega) k (by omega)]; rfl
  · rw [cols_no (k + 1) r c v lo hi h hs] at hf
    obtain ⟨rfl, rfl, rfl, rfl⟩ : 0 = ra ∧ 0 = ca ∧ [] = va ∧ 2 = ea := by simpa using hf
    rw [decide_eq_false hs, if_neg (by simp), if_pos rfl, same_self _ _ _ (by simp) k (by omega)]; rfl
theorem MatmulCuts_j6 (r c : Nat) (v : List Int) (h : RightM r c v.length) (hw : ∀ y ∈ v, -128 ≤ y ∧ y ≤ 127) (lo hi : Int) (k : Nat) (hk : 21000001 < k) (ra ca : Int) (va : List Int) (ea : Int) (hf : ∀ k, 21000000 < k → matmul_Cols.f k r c v lo hi = some (ra, ca, va, ea)) :
    pelotonlaw04_MatmulCuts.j6 k lo hi ea (decide (0 ≤ lo ∧ lo ≤ hi)) r c v ra ca va = some true := by
  obtain ⟨k, rfl⟩ : ∃ m, k = m + 1 := ⟨k - 1, by omega⟩
  simp only [pelotonlaw04_MatmulCuts.j6, decide_eq_true_eq]
  have g := MatmulCuts_j7 r c v h hw lo hi k (by omega) ra ca va ea (hf k (by omega))
  by_cases hs : 0 ≤ lo ∧ lo ≤ hi
  · rw [if_pos hs]
    rw [← g]; congr 1
    exact decide_eq_decide.2 ⟨fun e => ⟨hs.1, hs.2, e⟩, fun e => e.2.2⟩
  · rw [if_neg hs]
    rw [← g]; congr 1
    exact (decide_eq_false (fun e => hs ⟨e.1, e.2.1⟩)).symm
theorem MatmulCuts_j4 (r c : Nat) (v : List Int) (h : RightM r c v.length) (hw : ∀ y ∈ v, -128 ≤ y ∧ y ≤ 127) (lo hi : Int) (k : Nat) (hk : 21000010 < k) (rb cb : Int) (vb : List Int) (eb : Int) (hfb : matmul_Rows.f r c v lo hi = some (rb, cb, vb, eb)) (ra ca : Int) (va : List Int) (ea : Int) (hf : ∀ k, 21000000 < k → matmul_Cols.f k r c v lo hi = some (ra, ca, va, ea)) :
    pelotonlaw04_MatmulCuts.j4 k lo hi eb ea (decide (0 ≤ lo ∧ lo ≤ hi)) r c v rb cb vb ra ca va = some true := by
  obtain ⟨k, rfl⟩ : ∃ m, k = m + 2 := ⟨k - 2, by omega⟩
  obtain ⟨m1, m2, m3, m4, m5, m6⟩ := id h
  have hv : v.length = r * c := by exact_mod_cast m5
  have g6 := MatmulCuts_j6 r c v h hw lo hi k (by omega) ra ca va ea hf
  simp only [pelotonlaw04_MatmulCuts.j4, pelotonlaw04_MatmulCuts.j5]
  by_cases hs : SpanOk lo hi r
  · obtain ⟨s1, s2, s3⟩ := id hs
    rw [decide_eq_true (⟨s1, s2⟩ : 0 ≤ lo ∧ lo ≤ hi)] at g6 ⊢
    obtain ⟨lo, rfl⟩ := Int.eq_ofNat_of_zero_le s1
    obtain ⟨hi, rfl⟩ := Int.eq_ofNat_of_zero_le (show 0 ≤ hi by omega)
    have e2 : hi * c ≤ v.length := by rw [hv]; exact Nat.mul_le_mul_right c (by omega)
    rw [rows_eq r c v lo hi h (by omega) (by omega)] at hfb
    obtain ⟨rfl, rfl, rfl, rfl⟩ : ((hi - lo : Nat) : Int) = rb ∧ (c : Int) = cb ∧ (v.take (hi * c)).drop (lo * c) = vb ∧ 0 = eb := by simpa using hfb
    rw [if_pos rfl, if_pos (decide_eq_true s3), if_pos rfl]
    have := refpart_eq r c v h lo hi 0 c (by omega) (by omega) (by omega) (by omega) k (by omega)
    rw [partS_rows v r c hv (hi - lo) lo (by omega), show lo + (hi - lo) = hi by omega] at this
    simp only [Nat.sub_zero] at this
    rw [show (0 : Int) = ((0 : Nat) : Int) from rfl, this]
    simp only [Option.bind_some]
    rw [same_self _ _ _ (by rw [seg_length _ _ _ e2]; omega) k (by omega)]
    simp only [Option.bind_some]
    rw [if_pos trivial]
    exact g6
  · rw [rows_no r c v lo hi h hs] at hfb
    obtain ⟨rfl, rfl, rfl, rfl⟩ : 0 = rb ∧ 0 = cb ∧ [] = vb ∧ 2 = eb := by simpa using hfb
    have hz : (if decide (0 ≤ lo ∧ lo ≤ hi) = true then decide (hi ≤ (r : Int)) else false) = false := by
      by_cases hq : 0 ≤ lo ∧ lo ≤ hi
      · rw [if_pos (decide_eq_true hq), decide_eq_false (fun e => hs ⟨hq.1, hq.2, e⟩)]
      · rw [if_neg (by simpa using hq)]
    have hend : (if (2 : Int) = 2 then (pelotonref04_Same.f k 0 0 [] 0 0 []).bind fun t222 => if t222 = true then pelotonlaw04_MatmulCuts.j6 k lo hi ea (decide (0 ≤ lo ∧ lo ≤ hi)) (↑r) (↑c) v ra ca va else some false else some false) = some true := by
      rw [if_pos rfl, same_self _ _ _ (by simp) k (by omega), Option.bind_some, if_pos rfl]; exact g6
    by_cases hq : 0 ≤ lo ∧ lo ≤ hi
    · rw [if_pos (decide_eq_true hq), decide_eq_false (fun e => hs ⟨hq.1, hq.2, e⟩), if_neg (by simp)]; exact hend
    · rw [if_neg (by simpa using hq), if_neg (by simp)]; exact hend
theorem MatmulCuts_l0 (r c : Nat) (v : List Int) (h : RightM r c v.length) (hw : ∀ y ∈ v, -128 ≤ y ∧ y ≤ 127) (lo hi : Int) (rb cb : Int) (vb : List Int) (eb : Int) (hfb : matmul_Rows.f r c v lo hi = some (rb, cb, vb, eb)) (ra ca : Int) (va : List Int) (ea : Int) (hf : ∀ k, 21000000 < k → matmul_Cols.f k r c v lo hi = some (ra, ca, va, ea)) : ∀ (d k i : Nat), i + d = v.length → d + 21000020 < k →
    pelotonlaw04_MatmulCuts.l0 k lo hi eb ea i r c v rb cb vb ra ca va r c (v.map wrap32) = some true := by
  intro d
  induction d with
  | zero =>
    intro k i hi' hk
    obtain ⟨k, rfl⟩ : ∃ m, k = m + 1 := ⟨k - 1, by omega⟩
    have g := MatmulCuts_j4 r c v h hw lo hi k (by omega) rb cb vb eb hfb ra ca va ea hf
    simp only [pelotonlaw04_MatmulCuts.l0]
    rw [if_neg (by rw [List.length_map]; omega)]
    by_cases hq : lo ≥ 0
    · rw [if_pos hq]
      rw [← g]; congr 1
      exact decide_eq_decide.2 ⟨fun e => ⟨hq, e⟩, fun e => e.2⟩
    · rw [if_neg hq]
      rw [← g]; congr 1
      exact (decide_eq_false (fun e => hq e.1)).symm
  | succ d ih =>
    intro k i hi' hk
    obtain ⟨k, rfl⟩ : ∃ m, k = m + 1 := ⟨k - 1, by omega⟩
    have hvl := h.2.2.2.2.2
    have e : rd (v.map wrap32) (i : Int) = wrap32 (rd v (i : Int)) := by
      rw [rd_nat _ i (by rw [List.length_map]; omega), List.getElem_map, rd_nat v i (by omega)]
    simp only [pelotonlaw04_MatmulCuts.l0]
    rw [if_pos (by rw [List.length_map]; omega), if_pos (by omega), if_pos (by omega), if_pos e, next i v.length (by omega) (by omega)]
    exact ih k (i + 1) (by omega) (by omega)
theorem MatmulCuts : pelotonlaw04_MatmulCuts.Pure := by
  intro r c v lo hi ⟨hr, hc, hvm, hw⟩ hlo hhi
  refine ⟨23000000, ?_⟩
  have hw8 : ∀ y ∈ v, -128 ≤ y ∧ y ≤ 127 := fun y hy => wf8 (hw y hy)
  have ht : pelotonlaw04_MatmulCuts.j0 23000000 lo hi true r c v = some true := by
    simp only [pelotonlaw04_MatmulCuts.j0]; simp [awake04_ok 22999999 (by omega)]
  unfold pelotonlaw04_MatmulCuts.f
  rw [awake04_ok 23000000 (by omega)]
  simp only [Option.bind_some, if_true, pelotonlaw04_small.f]
  by_cases hs : (v.length : Int) ≤ 600
  · rw [decide_eq_true hs]
    simp only [Bool.not_true, pelotonlaw04_MatmulCuts.j0]
    rw [if_neg (by simp)]
    by_cases hm : RightM r c v.length
    · obtain ⟨m1, m2, m3, m4, m5, m6⟩ := id hm
      obtain ⟨r, rfl⟩ := Int.eq_ofNat_of_zero_le m1
      obtain ⟨c, rfl⟩ := Int.eq_ofNat_of_zero_le m3
      have hrows : ∃ rb cb vb eb, matmul_Rows.f r c v lo hi = some (rb, cb, vb, eb) := by
        by_cases hs : SpanOk lo hi r
        · obtain ⟨s1, s2, s3⟩ := id hs
          obtain ⟨lo, rfl⟩ := Int.eq_ofNat_of_zero_le s1
          obtain ⟨hi, rfl⟩ := Int.eq_ofNat_of_zero_le (show 0 ≤ hi by omega)
          exact ⟨_, _, _, _, rows_eq r c v lo hi hm (by omega) (by omega)⟩
        · exact ⟨_, _, _, _, rows_no r c v lo hi hm hs⟩
      have hcols : ∃ ra ca va ea, ∀ k, 21000000 < k → matmul_Cols.f k r c v lo hi = some (ra, ca, va, ea) := by
        by_cases hs : SpanOk lo hi c
        · obtain ⟨s1, s2, s3⟩ := id hs
          obtain ⟨lo, rfl⟩ := Int.eq_ofNat_of_zero_le s1
          obtain ⟨hi, rfl⟩ := Int.eq_ofNat_of_zero_le (show 0 ≤ hi by omega)
          exact ⟨_, _, _, _, fun k hk => cols_eq k r c v lo hi hm (by omega) (by omega) (by omega)⟩
        · exact ⟨_, _, _, _, fun k hk => cols_no k r c v lo hi hm hs⟩
      obtain ⟨rb, cb, vb, eb, hfb⟩ := hrows
      obtain ⟨ra, ca, va, ea, hf⟩ := hcols
      rw [hfb, hf 22999999 (by omega), wide_eq 22999999 r c v hm (by omega), refright_eq, decide_eq_true hm]
      simp only [Option.bind_some]
      rw [if_pos trivial, if_pos trivial, if_pos trivial, if_pos trivial, List.length_map]
      simp only [bne_self_eq_false, pelotonlaw04_MatmulCuts.j2]
      rw [if_neg (by simp)]
      exact MatmulCuts_l0 r c v hm hw8 lo hi rb cb vb eb hfb ra ca va ea hf v.length 22999998 0 (by omega) (by omega)
    · rw [rows_bad r c v lo hi hm, cols_bad _ r c v lo hi hm, wide_bad _ r c v hm, refright_eq, decide_eq_false hm]
      simp only [Option.bind_some]
      rw [if_neg (by simp), if_pos trivial, if_pos trivial, if_pos trivial, same_self _ _ _ (by simp) 22999999 (by omega)]
      simp [pelotonlaw04_MatmulCuts.j1]
  · rw [decide_eq_false hs]
    exact ht

end Go.Proofs.Ytananmepljeldaa.Pure
