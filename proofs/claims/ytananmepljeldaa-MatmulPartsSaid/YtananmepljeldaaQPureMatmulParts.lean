/- MatmulParts: the law's plain part: what its functions compute answers true, for all arguments of its types. No condition beside the given bounds. -/
import Derived.Test.YtananmepljeldaaQMatmulPartsx4
import Derived.Test.YtananmepljeldaaMath
namespace Go.Proofs.Ytananmepljeldaa.Pure
open Go.RowKit Go.Proofs.Ytananmepljeldaa.QMatmulParts Go.Proofs.YtananmepljeldaaW.PrintWords Go.Proofs.YtananmepljeldaaW.PrintLast Go.Proofs.YtananmepljeldaaW.PrintMore Go.PelMath
set_option linter.unusedVariables false
set_option linter.unusedSimpArgs false
theorem wf64 {x : Int} (h : (Lit.int .i64 x).wf = true) : -9223372036854775808 ≤ x ∧ x ≤ 9223372036854775807 := by
  simp [Lit.wf, IntKind.min, IntKind.max, IntKind.bits, IntKind.signed] at h; omega
theorem wf32 {x : Int} (h : (Lit.int .i32 x).wf = true) : -2147483648 ≤ x ∧ x ≤ 2147483647 := by
  simp [Lit.wf, IntKind.min, IntKind.max, IntKind.bits, IntKind.signed] at h; omega
theorem wf8 {x : Int} (h : (Lit.int .i8 x).wf = true) : -128 ≤ x ∧ x ≤ 127 := by
  simp [Lit.wf, IntKind.min, IntKind.max, IntKind.bits, IntKind.signed] at h; omega

def nn (n : Int) : Nat := (mn (mx n 0) 62).toNat
theorem nn_le (n : Int) : nn n ≤ 62 := by unfold nn mn mx; (repeat' split) <;> omega
theorem nn_of (n : Int) (h0 : 0 ≤ n) (h1 : n ≤ 62) : nn n = n.toNat := by unfold nn mn mx; (repeat' split) <;> omega

def clamp (x a b : Int) : Int := if x < a then a else if b < x then b else x
theorem clamp_range (x a b : Int) (h : a ≤ b) : a ≤ clamp x a b ∧ clamp x a b ≤ b := by unfold clamp; (repeat' split) <;> omega
theorem clamp_mono (x y a b : Int) (h : a ≤ b) (hxy : x ≤ y) : clamp x a b ≤ clamp y a b := by unfold clamp; (repeat' split) <;> omega
theorem clamp_id (x a b : Int) (h0 : a ≤ x) (h1 : x ≤ b) : clamp x a b = x := by unfold clamp; (repeat' split) <;> omega

theorem mul32 (x y : Int) (hx : -2147483648 ≤ x ∧ x ≤ 2147483647) (hy : -2147483648 ≤ y ∧ y ≤ 2147483647) : -4611686018427387904 ≤ x * y ∧ x * y ≤ 4611686018427387904 := by
  have h := Int.natAbs_mul x y
  have h1 : x.natAbs ≤ 2147483648 := by omega
  have h2 : y.natAbs ≤ 2147483648 := by omega
  have h3 : x.natAbs * y.natAbs ≤ 2147483648 * 2147483648 := Nat.mul_le_mul h1 h2
  omega

theorem wrap32_range (x : Int) : -2147483648 ≤ wrap32 x ∧ wrap32 x ≤ 2147483647 := by unfold wrap32; omega
theorem wrap32_0 : wrap32 0 = 0 := by unfold wrap32; omega
theorem rd_nat (l : List Int) (i : Nat) (h : i < l.length) : rd l (i : Int) = l[i] := by
  unfold rd; simp [List.getD, h]
theorem drop_cons (l : List Int) (i : Nat) (h : i < l.length) : l.drop i = rd l (i : Int) :: l.drop (i + 1) := by
  rw [rd_nat l i h, List.drop_eq_getElem_cons h]
theorem rd_mem (l : List Int) (i : Nat) (h : i < l.length) : rd l (i : Int) ∈ l := by rw [rd_nat l i h]; exact List.getElem_mem h
theorem next (i n : Nat) (h : i < n) (hn : n ≤ 9223372036854775807) : wrap64 ((i : Int) + 1) = ((i + 1 : Nat) : Int) := by
  rw [wrap64_wf _ (by omega) (by omega)]; omega

theorem sum_loop (l : List Int) (hl : l.length ≤ 9223372036854775807) : ∀ (d k i : Nat) (s : Int), i + d = l.length → d < k →
    round_Sum.l0 k s l l.length i = some (wrap32 (s + tot (l.drop i))) := by
  intro d
  induction d with
  | zero =>
    intro k i s hi hk
    obtain ⟨k, rfl⟩ : ∃ m, k = m + 1 := ⟨k - 1, by omega⟩
    simp only [round_Sum.l0]
    rw [if_neg (by omega), List.drop_of_length_le (by omega)]; simp [tot]
  | succ d ih =>
    intro k i s hi hk
    obtain ⟨k, rfl⟩ : ∃ m, k = m + 1 := ⟨k - 1, by omega⟩
    simp only [round_Sum.l0]
    rw [if_pos (by omega), if_pos (by omega), if_pos (by omega), next i _ (by omega) hl, ih k (i + 1) _ (by omega) (by omega), drop_cons l i (by omega)]
    simp only [tot]
    rw [show ∀ a b c : Int, wrap32 ((a + b % 4294967296) % 4294967296 + c) = wrap32 (a + (b + c)) from fun a b c => by unfold wrap32; omega]
theorem sum_eq (l : List Int) (hl : l.length ≤ 9223372036854775807) (k : Nat) (hk : l.length < k) : round_Sum.f k l = some (wrap32 (tot l)) := by
  unfold round_Sum.f
  have := sum_loop l hl l.length k 0 0 (by omega) hk
  simpa using this

def dotI : List Int → List Int → Int
  | x :: a, y :: b => x * y + dotI a b
  | _, _ => 0
def prods : List Int → List Int → List Int
  | x :: a, y :: b => x * y :: prods a b
  | _, _ => []
theorem dotI_nil (a : List Int) : dotI a [] = 0 := by cases a <;> rfl
theorem tot_prods (a : List Int) : ∀ b, tot (prods a b) = dotI a b := by
  induction a with
  | nil => intro b; rfl
  | cons x a ih => intro b; cases b with
    | nil => rfl
    | cons y b => simp only [prods, tot, dotI, ih]
theorem prods_length (a : List Int) : ∀ b, (prods a b).length ≤ a.length := by
  induction a with
  | nil => intro b; simp [prods]
  | cons x a ih => intro b; cases b with
    | nil => simp [prods]
    | cons y b => simp only [prods, List.length_cons]; have := ih b; omega

theorem dotI_split (a : List Int) : ∀ (b : List Int) (k n : Nat), k ≤ n → n = min a.length b.length →
    dotI a b = dotI (a.take k) (b.take k) + dotI ((a.take n).drop k) ((b.take n).drop k) := by
  induction a with
  | nil => intro b k n h hn; simp [dotI]
  | cons x a ih =>
    intro b k n h hn
    cases b with
    | nil => simp [dotI_nil]
    | cons y b =>
      simp only [List.length_cons] at hn
      obtain ⟨n, rfl⟩ : ∃ m, n = m + 1 := ⟨n - 1, by omega⟩
      cases k with
      | zero =>
        have := ih b 0 n (by omega) (by omega)
        simp only [List.take_zero, List.drop_zero, dotI, Int.zero_add, List.take_succ_cons] at this ⊢
        rw [this]
      | succ k =>
        have := ih b k n (by omega) (by omega)
        simp only [List.take_succ_cons, List.drop_succ_cons, dotI]
        rw [this]; omega

theorem rest9 (n : Int) (h : -9223372036854775808 ≤ n ∧ n ≤ 9223372036854775807) : ∃ m : Nat, Int.tmod (wrap64 (Int.tmod n 9 + 9)) 9 = m ∧ m ≤ 8 := by
  have h1 := Int.tmod_lt_of_pos n (show (0 : Int) < 9 by omega)
  have h2 := Int.lt_tmod_of_pos n (show (0 : Int) < 9 by omega)
  rw [wrap64_wf _ (by omega) (by omega), Int.tmod_eq_emod_of_nonneg (by omega)]
  exact ⟨((Int.tmod n 9 + 9) % 9).toNat, by omega, by omega⟩

theorem dot_loop (a b : List Int) (ha : a.length ≤ 9223372036854775807) (hw : ∀ x ∈ a, -128 ≤ x ∧ x ≤ 127) (hv : ∀ x ∈ b, -128 ≤ x ∧ x ≤ 127) : ∀ (d k i : Nat) (s : Int), i + d = min a.length b.length → d < k →
    round_Dot.l0 k a b (wrap32 s) (min a.length b.length : Nat) i = some (wrap32 (s + dotI (a.drop i) (b.drop i))) := by
  intro d
  induction d with
  | zero =>
    intro k i s hi hk
    obtain ⟨k, rfl⟩ : ∃ m, k = m + 1 := ⟨k - 1, by omega⟩
    simp only [round_Dot.l0]
    rw [if_neg (by omega)]
    by_cases hc : i < a.length
    · rw [List.drop_of_length_le (l := b) (by omega), dotI_nil]; simp
    · rw [List.drop_of_length_le (l := a) (by omega)]; simp [dotI]
  | succ d ih =>
    intro k i s hi hk
    obtain ⟨k, rfl⟩ : ∃ m, k = m + 1 := ⟨k - 1, by omega⟩
    have hr := hw _ (rd_mem a i (by omega)); have hq := hv _ (rd_mem b i (by omega))
    simp only [round_Dot.l0]
    rw [if_pos (by omega), if_pos (by omega), if_pos (by omega), if_pos (by omega), next i _ (show i < a.length by omega) ha,
      wrap32_wf (rd a (i : Int)) (by omega) (by omega), wrap32_wf (rd b (i : Int)) (by omega) (by omega), wrap32_add_left, wrap32_add_right, ih k (i + 1) _ (by omega) (by omega), drop_cons a i (by omega), drop_cons b i (by omega)]
    simp only [dotI]
    rw [Int.add_assoc]
theorem dot_eq (a b : List Int) (ha : a.length ≤ 9223372036854775807) (hw : ∀ x ∈ a, -128 ≤ x ∧ x ≤ 127) (hv : ∀ x ∈ b, -128 ≤ x ∧ x ≤ 127) (k : Nat) (hk : a.length < k) : round_Dot.f k a b = some (wrap32 (dotI a b)) := by
  unfold round_Dot.f
  rw [show mn (a.length : Int) (b.length : Int) = ((min a.length b.length : Nat) : Int) by unfold mn; split <;> omega]
  have := dot_loop a b ha hw hv (min a.length b.length) k 0 0 (by omega) (by omega)
  rw [wrap32_0] at this; simpa using this

theorem rest31 (n : Int) (h : -9223372036854775808 ≤ n ∧ n ≤ 9223372036854775807) : ∃ m : Nat, Int.tmod (wrap64 (Int.tmod n 31 + 31)) 31 = m ∧ m ≤ 30 := by
  have h1 := Int.tmod_lt_of_pos n (show (0 : Int) < 31 by omega)
  have h2 := Int.lt_tmod_of_pos n (show (0 : Int) < 31 by omega)
  rw [wrap64_wf _ (by omega) (by omega), Int.tmod_eq_emod_of_nonneg (by omega)]
  exact ⟨((Int.tmod n 31 + 31) % 31).toNat, by omega, by omega⟩

theorem mulb {a b A B : Int} (h0 : 0 ≤ a) (h1 : a ≤ A) (h2 : 0 ≤ b) (h3 : b ≤ B) : 0 ≤ a * b ∧ a * b ≤ A * B :=
  ⟨Int.mul_nonneg h0 h2, Int.mul_le_mul h1 h3 h2 (Int.le_trans h0 h1)⟩

def RightM (r c : Int) (n : Nat) : Prop := 0 ≤ r ∧ r ≤ 4096 ∧ 0 ≤ c ∧ c ≤ 4096 ∧ (n : Int) = r * c ∧ n ≤ 1048576
instance (r c : Int) (n : Nat) : Decidable (RightM r c n) := by unfold RightM; infer_instance

theorem side_eq (n : Int) : matmul_side.f n = some (decide (0 ≤ n ∧ n ≤ 4096)) := by
  unfold matmul_side.f
  by_cases h : 0 ≤ n
  · rw [if_pos h]; simp [h]
  · rw [if_neg h]; simp [h]
theorem wrong_eq (r c : Int) (v : List Int) : matmul_wrong.f r c v = some (!decide (RightM r c v.length)) := by
  unfold matmul_wrong.f
  rw [side_eq, side_eq]
  simp only [Option.bind_some, decide_eq_true_eq]
  by_cases h1 : 0 ≤ r ∧ r ≤ 4096
  · rw [if_pos h1]
    by_cases h2 : 0 ≤ c ∧ c ≤ 4096
    · rw [if_pos h2]
      have hb := mulb h1.1 h1.2 h2.1 h2.2
      rw [wrap64_wf _ (by omega) (by omega)]
      by_cases h3 : (v.length : Int) = r * c
      · rw [if_pos h3]
        by_cases h4 : (v.length : Int) > 1048576
        · rw [decide_eq_true h4, decide_eq_false (fun h => by obtain ⟨_, _, _, _, _, _⟩ := h; omega)]; rfl
        · have hm : RightM r c v.length := ⟨h1.1, h1.2, h2.1, h2.2, h3, by omega⟩
          rw [decide_eq_false h4, decide_eq_true hm]; rfl
      · rw [if_neg h3, decide_eq_false (fun h => h3 h.2.2.2.2.1)]; rfl
    · rw [if_neg h2, decide_eq_false (fun h => h2 ⟨h.2.2.1, h.2.2.2.1⟩)]; rfl
  · rw [if_neg h1, decide_eq_false (fun h => h1 ⟨h.1, h.2.1⟩)]; rfl

def rowOf (v : List Int) (c i : Nat) : List Int := (v.take ((i + 1) * c)).drop (i * c)
def applyS (r c : Nat) (v x : List Int) : List Int := (List.range r).map fun i => wrap32 (dotI (rowOf v c i) x)
theorem applyS_length (r c : Nat) (v x : List Int) : (applyS r c v x).length = r := by simp [applyS]
theorem row_in (v : List Int) (r c i : Nat) (h : v.length = r * c) (hi : i < r) : i * c + c ≤ v.length := by
  have := Nat.mul_le_mul_right c (show i + 1 ≤ r by omega)
  rw [Nat.add_mul] at this; omega
theorem rowOf_length (v : List Int) (r c i : Nat) (h : v.length = r * c) (hi : i < r) : (rowOf v c i).length = c := by
  have := row_in v r c i h hi
  simp only [rowOf, List.length_drop, List.length_take, Nat.add_mul]; omega
theorem rowOf_mem {v : List Int} {c i : Nat} {x : Int} (h : x ∈ rowOf v c i) : x ∈ v := List.mem_of_mem_take (List.mem_of_mem_drop h)
theorem rowOf_rd (v : List Int) (r c i j : Nat) (h : v.length = r * c) (hi : i < r) (hj : j < c) : rd (rowOf v c i) (j : Int) = rd v ((i * c + j : Nat) : Int) := by
  have h1 := row_in v r c i h hi
  have h2 := rowOf_length v r c i h hi
  rw [rd_nat _ j (by omega), rd_nat v _ (by omega)]
  simp only [rowOf, List.getElem_drop, List.getElem_take]
theorem map_range_drop (n i : Nat) (f : Nat → Int) (h : i < n) : ((List.range n).map f).drop i = f i :: ((List.range n).map f).drop (i + 1) := by
  rw [List.drop_eq_getElem_cons (by simpa using h)]; simp
theorem applyS_drop (r c i : Nat) (v x : List Int) (h : i < r) : (applyS r c v x).drop i = wrap32 (dotI (rowOf v c i) x) :: (applyS r c v x).drop (i + 1) := map_range_drop r i _ h
theorem applyS_rd (r c i : Nat) (v x : List Int) (h : i < r) : rd (applyS r c v x) (i : Int) = wrap32 (dotI (rowOf v c i) x) := by
  rw [rd_nat _ i (by rw [applyS_length]; exact h)]; simp [applyS]
theorem applyS_congr (r c : Nat) (v x : List Int) (f : Nat → Int) (h : ∀ i, i < r → wrap32 (dotI (rowOf v c i) x) = f i) : applyS r c v x = (List.range r).map f := by
  apply List.map_congr_left; intro i hi; exact h i (List.mem_range.1 hi)
theorem rowOf_eq (v : List Int) (c i : Nat) : (v.take ((i + 1) * c)).drop (i * c) = rowOf v c i := rfl
attribute [irreducible] rowOf applyS

theorem apply_loop (r c : Nat) (v x : List Int) (hr : r ≤ 4096) (hc : c ≤ 4096) (hv : v.length = r * c) (hvl : v.length ≤ 1048576) (hw : ∀ y ∈ v, -128 ≤ y ∧ y ≤ 127) (hx : ∀ y ∈ x, -128 ≤ y ∧ y ≤ 127) : ∀ (d k i : Nat) (o : List Int), i + d = r → d + 4100 < k → o.length = r →
    matmul_Apply.l0 k x o (r : Int) i r c v = some (o.take i ++ (applyS r c v x).drop i, 0) := by
  intro d
  induction d with
  | zero =>
    intro k i o hi hk ho
    obtain ⟨k, rfl⟩ : ∃ m, k = m + 1 := ⟨k - 1, by omega⟩
    simp only [matmul_Apply.l0]
    rw [if_neg (by omega), List.drop_of_length_le (by rw [applyS_length]; omega), List.take_of_length_le (by omega)]; simp
  | succ d ih =>
    intro k i o hi hk ho
    obtain ⟨k, rfl⟩ : ∃ m, k = m + 1 := ⟨k - 1, by omega⟩
    have hin := row_in v r c i hv (by omega)
    have e3 : (i + 1) * c = i * c + c := by rw [Nat.add_mul, Nat.one_mul]
    simp only [matmul_Apply.l0]
    rw [next i r (by omega) (by omega), w_mul i c (by omega), w_mul (i + 1) c (by omega), if_pos (by omega), if_pos (by omega), if_pos (by omega), if_pos (by omega)]
    simp only [Int.toNat_natCast]
    rw [rowOf_eq, dot_eq _ _ (by rw [rowOf_length v r c i hv (by omega)]; omega) (fun y hy => hw y (rowOf_mem hy)) hx k (by rw [rowOf_length v r c i hv (by omega)]; omega), Option.bind_some, if_pos (by omega), if_pos (by omega), ih k (i + 1) _ (by omega) (by omega) (by simp [ho])]
    rw [applyS_drop r c i v x (by omega)]
    rw [List.take_add_one, List.getElem?_set_self (by omega), List.take_set_of_le (Nat.le_refl _)]
    simp
theorem apply_eq (r c : Nat) (v x : List Int) (hm : RightM r c v.length) (hxl : x.length = c) (hw : ∀ y ∈ v, -128 ≤ y ∧ y ≤ 127) (hx : ∀ y ∈ x, -128 ≤ y ∧ y ≤ 127) (k : Nat) (hk : 9000 < k) :
    matmul_Apply.f k r c v x = some (applyS r c v x, 0) := by
  obtain ⟨k, rfl⟩ : ∃ m, k = m + 1 := ⟨k - 1, by omega⟩
  obtain ⟨m1, m2, m3, m4, m5, m6⟩ := id hm
  have hv : v.length = r * c := by exact_mod_cast m5
  unfold matmul_Apply.f
  rw [wrong_eq, decide_eq_true hm]
  simp only [Option.bind_some, Bool.not_true, Bool.false_eq_true, if_false, hxl, bne_self_eq_false]
  simp only [matmul_Apply.j0]
  rw [if_neg (by simp), if_pos (by omega), if_pos (by omega), Option.bind_some]
  simp only [Int.toNat_natCast, List.length_replicate]
  rw [show (0 : Int) = ((0 : Nat) : Int) from rfl]
  rw [apply_loop r c v x (by omega) (by omega) hv m6 hw hx r k 0 (List.replicate r ((0 : Nat) : Int)) (by omega) (by omega) (by simp)]
  simp
theorem apply_bad (r c : Int) (v x : List Int) (h : ¬ (RightM r c v.length ∧ (x.length : Int) = c)) (k : Nat) (hk : 2 < k) : matmul_Apply.f k r c v x = some ([], 30) := by
  obtain ⟨k, rfl⟩ : ∃ m, k = m + 1 := ⟨k - 1, by omega⟩
  unfold matmul_Apply.f
  rw [wrong_eq]
  by_cases hm : RightM r c v.length
  · have hne : (x.length : Int) ≠ c := fun e => h ⟨hm, e⟩
    rw [decide_eq_true hm]
    simp only [Option.bind_some, Bool.not_true, Bool.false_eq_true, if_false]
    rw [bne_iff_ne.2 hne]
    simp [matmul_Apply.j0]
  · rw [decide_eq_false hm]
    simp [matmul_Apply.j0]

theorem ints_loop (a b : List Int) (ha : a.length ≤ 9223372036854775807) (hab : a.length = b.length) : ∀ (d k i : Nat), i + d = a.length → d < k →
    pelotonref04_Ints.l0 k a b i = some (decide (a.drop i = b.drop i)) := by
  intro d
  induction d with
  | zero =>
    intro k i hi hk
    obtain ⟨k, rfl⟩ : ∃ m, k = m + 1 := ⟨k - 1, by omega⟩
    simp only [pelotonref04_Ints.l0]
    rw [if_neg (by omega), List.drop_of_length_le (by omega), List.drop_of_length_le (by omega)]; simp
  | succ d ih =>
    intro k i hi hk
    obtain ⟨k, rfl⟩ : ∃ m, k = m + 1 := ⟨k - 1, by omega⟩
    simp only [pelotonref04_Ints.l0]
    rw [if_pos (by omega), if_pos (by omega), if_pos (by omega), next i _ (show i < a.length by omega) ha, ih k (i + 1) (by omega) (by omega), drop_cons a i (by omega), drop_cons b i (by omega)]
    by_cases hc : rd a (i : Int) = rd b (i : Int)
    · rw [if_pos hc]; simp [hc]
    · rw [if_neg hc]; simp [hc]
theorem ints_eq (a b : List Int) (ha : a.length ≤ 9223372036854775807) (k : Nat) (hk : a.length < k) : pelotonref04_Ints.f k a b = some (decide (a = b)) := by
  unfold pelotonref04_Ints.f
  by_cases h : (a.length : Int) = b.length
  · rw [if_pos h]
    have := ints_loop a b ha (by omega) a.length k 0 (by omega) hk
    simpa using this
  · rw [if_neg h, decide_eq_false (fun e => h (by rw [e]))]

def spansS (n parts : Nat) : List Int := (List.range (parts + 1)).map fun i => ((i * n / parts : Nat) : Int)
theorem spansS_length (n parts : Nat) : (spansS n parts).length = parts + 1 := by simp [spansS]
theorem spansS_rd (n parts i : Nat) (h : i ≤ parts) : rd (spansS n parts) (i : Int) = ((i * n / parts : Nat) : Int) := by
  rw [rd_nat _ i (by rw [spansS_length]; omega)]; simp [spansS]
theorem spansS_drop (n parts i : Nat) (h : i < parts + 1) : (spansS n parts).drop i = ((i * n / parts : Nat) : Int) :: (spansS n parts).drop (i + 1) := map_range_drop (parts + 1) i _ h
attribute [irreducible] spansS
theorem spans_loop (n parts : Nat) (hn : n ≤ 1099511627776) (hp0 : 1 ≤ parts) (hp : parts ≤ 4096) : ∀ (d k i : Nat) (o : List Int), i + d = parts + 1 → d < k → o.length = parts + 1 →
    matmul_Spans.l0 k n parts o ((parts + 1 : Nat) : Int) i = some (o.take i ++ (spansS n parts).drop i, 0) := by
  intro d
  induction d with
  | zero =>
    intro k i o hi hk ho
    obtain ⟨k, rfl⟩ : ∃ m, k = m + 1 := ⟨k - 1, by omega⟩
    simp only [matmul_Spans.l0]
    rw [if_neg (by omega), List.drop_of_length_le (by rw [spansS_length]; omega), List.take_of_length_le (by omega)]; simp
  | succ d ih =>
    intro k i o hi hk ho
    obtain ⟨k, rfl⟩ : ∃ m, k = m + 1 := ⟨k - 1, by omega⟩
    have hb : i * n ≤ 4096 * 1099511627776 := Nat.mul_le_mul (by omega) hn
    simp only [matmul_Spans.l0]
    rw [if_pos (by omega), if_neg (by omega), if_pos (by omega), if_pos (by omega), next i (parts + 1) (by omega) (by omega), w_mul i n (by omega), w_div (i * n) parts (by omega), ih k (i + 1) _ (by omega) (by omega) (by simp [ho])]
    rw [spansS_drop n parts i (by omega)]
    simp only [Int.toNat_natCast]
    rw [List.take_add_one, List.getElem?_set_self (by omega), List.take_set_of_le (Nat.le_refl _)]
    simp
theorem spans_eq (n parts : Nat) (hn : n ≤ 1099511627776) (hp0 : 1 ≤ parts) (hp : parts ≤ 4096) (k : Nat) (hk : 5000 < k) : matmul_Spans.f k n parts = some (spansS n parts, 0) := by
  obtain ⟨k, rfl⟩ : ∃ m, k = m + 1 := ⟨k - 1, by omega⟩
  unfold matmul_Spans.f
  rw [if_neg (by omega), if_neg (by omega), if_neg (by omega), decide_eq_false (by omega)]
  simp only [matmul_Spans.j0]
  rw [show wrap64 ((parts : Int) + 1) = ((parts + 1 : Nat) : Int) from w_add parts 1 (by omega), if_neg (by simp), if_pos (by omega), if_pos (by omega), Option.bind_some]
  simp only [Int.toNat_natCast, List.length_replicate]
  rw [show (0 : Int) = ((0 : Nat) : Int) from rfl]
  rw [spans_loop n parts hn hp0 hp (parts + 1) k 0 (List.replicate (parts + 1) ((0 : Nat) : Int)) (by omega) (by omega) (by simp)]
  simp
theorem spans_bad (n parts : Int) (h : n < 0 ∨ n > 1099511627776 ∨ parts < 1 ∨ parts > 4096) (k : Nat) (hk : 2 < k) : matmul_Spans.f k n parts = some ([], 2) := by
  obtain ⟨k, rfl⟩ : ∃ m, k = m + 1 := ⟨k - 1, by omega⟩
  have hj : matmul_Spans.j0 (k + 1) n parts true = some ([], 2) := by simp [matmul_Spans.j0]
  unfold matmul_Spans.f
  rw [hj]
  by_cases h1 : n < 0
  · rw [if_pos h1]
  · rw [if_neg h1]
    by_cases h2 : n > 1099511627776
    · rw [if_pos h2]
    · rw [if_neg h2]
      by_cases h3 : parts < 1
      · rw [if_pos h3]
      · rw [if_neg h3, decide_eq_true (by omega), hj]

theorem clone_eq (l : List Int) (h : l.length < 140737488355328) : slices_Clone_int8_int8.f l = some l := by
  unfold slices_Clone_int8_int8.f
  simp only [Option.bind_some, List.length_nil, List.nil_append]
  rw [if_pos (by omega)]

def SpanOk (lo hi n : Int) : Prop := 0 ≤ lo ∧ lo ≤ hi ∧ hi ≤ n
instance (lo hi n : Int) : Decidable (SpanOk lo hi n) := by unfold SpanOk; infer_instance
theorem mspan_bad (r c : Int) (v : List Int) (lo hi n : Int) (h : ¬ RightM r c v.length) : matmul_span.f r c v lo hi n = some 30 := by
  unfold matmul_span.f; rw [wrong_eq, decide_eq_false h]; rfl
theorem mspan_eq (r c : Int) (v : List Int) (lo hi n : Int) (h : RightM r c v.length) : matmul_span.f r c v lo hi n = some (if SpanOk lo hi n then 0 else 2) := by
  unfold matmul_span.f; rw [wrong_eq, decide_eq_true h]
  simp only [Option.bind_some, Bool.not_true, Bool.false_eq_true, if_false]
  by_cases h1 : lo < 0
  · rw [if_pos h1, if_neg (fun g => by have := g.1; omega)]
  · rw [if_neg h1]
    by_cases h2 : lo > hi
    · rw [if_pos h2, if_neg (fun g => by have := g.2.1; omega)]
    · rw [if_neg h2]
      by_cases h3 : hi > n
      · rw [if_pos h3, if_neg (fun g => by have := g.2.2; omega)]
      · rw [if_neg h3, if_pos ⟨by omega, by omega, by omega⟩]

def partS (v : List Int) (c lo hi : Nat) : Nat → Nat → List Int
  | 0, _ => []
  | d + 1, i => (v.take (i * c + hi)).drop (i * c + lo) ++ partS v c lo hi d (i + 1)
theorem seg_length (v : List Int) (a b : Nat) (h : b ≤ v.length) : ((v.take b).drop a).length = b - a := by
  simp only [List.length_drop, List.length_take]; omega
theorem seg_mem {v : List Int} {a b : Nat} {x : Int} (h : x ∈ (v.take b).drop a) : x ∈ v := List.mem_of_mem_take (List.mem_of_mem_drop h)
theorem seg_join (v : List Int) (a m b : Nat) (h0 : a ≤ m) (h1 : m ≤ b) (h2 : b ≤ v.length) : (v.take m).drop a ++ (v.take b).drop m = (v.take b).drop a := by
  have e : v.take m = (v.take b).take m := by rw [List.take_take, Nat.min_eq_left h1]
  have hl : (v.take b).length = b := by rw [List.length_take]; omega
  generalize v.take b = w at *
  rw [e]
  conv => rhs; rw [← List.take_append_drop m w]
  rw [List.drop_append, List.length_take]
  rw [show a - min m w.length = 0 by omega]; rfl
theorem seg_full (v : List Int) (b : Nat) : (v.take b).drop b = [] := by
  apply List.drop_eq_nil_of_le; rw [List.length_take]; omega
theorem seg_cons (v : List Int) (a b : Nat) (h0 : a < b) (h1 : b ≤ v.length) : (v.take b).drop a = rd v (a : Int) :: (v.take b).drop (a + 1) := by
  rw [List.drop_eq_getElem_cons (by rw [List.length_take]; omega), List.getElem_take, rd_nat v a (by omega)]
theorem row_end (v : List Int) (r c i : Nat) (h : v.length = r * c) (hi : i < r) : i * c + c ≤ v.length := by
  have := Nat.mul_le_mul_right c (show i + 1 ≤ r by omega)
  rw [Nat.add_mul] at this; omega
theorem partS_mem (v : List Int) (c lo hi : Nat) : ∀ d i x, x ∈ partS v c lo hi d i → x ∈ v := by
  intro d
  induction d with
  | zero => intro i x h; simp [partS] at h
  | succ d ih =>
    intro i x h
    rw [partS, List.mem_append] at h
    rcases h with h | h
    · exact seg_mem h
    · exact ih _ _ h
theorem partS_length (v : List Int) (r c lo hi : Nat) (hv : v.length = r * c) (h0 : lo ≤ hi) (h1 : hi ≤ c) : ∀ d i, i + d ≤ r → (partS v c lo hi d i).length = d * (hi - lo) := by
  intro d
  induction d with
  | zero => intro i h; simp [partS]
  | succ d ih =>
    intro i h
    have := row_end v r c i hv (by omega)
    rw [partS, List.length_append, ih (i + 1) (by omega), seg_length _ _ _ (by omega), Nat.add_mul]; omega
theorem partS_rows (v : List Int) (r c : Nat) (hv : v.length = r * c) : ∀ d i, i + d ≤ r → partS v c 0 c d i = (v.take ((i + d) * c)).drop (i * c) := by
  intro d
  induction d with
  | zero => intro i h; rw [partS, Nat.add_zero, seg_full]
  | succ d ih =>
    intro i h
    have h1 := row_end v r c i hv (by omega)
    have h2 : (i + (d + 1)) * c ≤ v.length := by rw [hv]; exact Nat.mul_le_mul_right c h
    have h3 : (i + 1) * c = i * c + c := by rw [Nat.add_mul, Nat.one_mul]
    have h4 : (i + 1) * c ≤ (i + (d + 1)) * c := Nat.mul_le_mul_right c (by omega)
    rw [partS, ih (i + 1) (by omega), h3, show i + 1 + d = i + (d + 1) by omega, Nat.add_zero]
    exact seg_join v _ _ _ (by omega) (by omega) h2
attribute [irreducible] partS

theorem rows_bad (r c : Int) (v : List Int) (lo hi : Int) (h : ¬ RightM r c v.length) : matmul_Rows.f r c v lo hi = some (0, 0, [], 30) := by
  unfold matmul_Rows.f; rw [mspan_bad _ _ _ _ _ _ h]; rfl
theorem rows_no (r c : Int) (v : List Int) (lo hi : Int) (h : RightM r c v.length) (hs : ¬ SpanOk lo hi r) : matmul_Rows.f r c v lo hi = some (0, 0, [], 2) := by
  unfold matmul_Rows.f; rw [mspan_eq _ _ _ _ _ _ h, if_neg hs]; rfl
theorem rows_go (r c : Int) (v : List Int) (lo hi D : Int) (A B : Nat) (h : RightM r c v.length) (hs : SpanOk lo hi r) (eA : wrap64 (lo * c) = (A : Int)) (eB : wrap64 (hi * c) = (B : Int)) (eD : wrap64 (hi - lo) = D) (hAB : A ≤ B) (hB : B ≤ v.length) : matmul_Rows.f r c v lo hi = some (D, c, (v.take B).drop A, 0) := by
  have hl : ((v.take B).drop A).length < 140737488355328 := Nat.lt_of_le_of_lt (Nat.le_trans (by rw [seg_length v A B hB]; exact Nat.sub_le _ _) (Nat.le_trans hB h.2.2.2.2.2)) (by decide)
  unfold matmul_Rows.f
  rw [mspan_eq r c v lo hi r h, if_pos hs, Option.bind_some, if_pos rfl, eA, eB, eD, if_pos (Int.natCast_nonneg A), if_pos (Int.ofNat_le.2 hAB), if_pos (Int.ofNat_le.2 hB), Int.toNat_natCast, Int.toNat_natCast, clone_eq _ hl, Option.bind_some]
theorem rows_eq (r c : Nat) (v : List Int) (lo hi : Nat) (h : RightM r c v.length) (h0 : lo ≤ hi) (h1 : hi ≤ r) : matmul_Rows.f r c v lo hi = some (((hi - lo : Nat) : Int), (c : Int), (v.take (hi * c)).drop (lo * c), 0) := by
  obtain ⟨m1, m2, m3, m4, m5, m6⟩ := id h
  have hv : v.length = r * c := by exact_mod_cast m5
  have e1 : lo * c ≤ hi * c := Nat.mul_le_mul_right c h0
  have e2 : hi * c ≤ v.length := by rw [hv]; exact Nat.mul_le_mul_right c h1
  exact rows_go r c v lo hi _ _ _ h ⟨Int.natCast_nonneg lo, Int.ofNat_le.2 h0, Int.ofNat_le.2 h1⟩ (w_mul lo c (by omega)) (w_mul hi c (by omega)) (w_sub hi lo h0 (by omega)) e1 e2

theorem cols_loop (r c : Nat) (v : List Int) (lo hi : Nat) (w : Int) (hv : v.length = r * c) (hr : r ≤ 4096) (hc : c ≤ 4096) (hvl : v.length ≤ 1048576) (h0 : lo ≤ hi) (h1 : hi ≤ c) : ∀ (d k i : Nat) (o : List Int), i + d = r → d < k → o.length ≤ i * 4096 →
    matmul_Cols.l0 k lo hi (r : Int) i r c v r w o = some ((r : Int), w, o ++ partS v c lo hi d i, 0) := by
  intro d
  induction d with
  | zero =>
    intro k i o hi' hk ho
    obtain ⟨k, rfl⟩ : ∃ m, k = m + 1 := ⟨k - 1, by omega⟩
    simp only [matmul_Cols.l0]
    rw [if_neg (by omega), partS, List.append_nil]
  | succ d ih =>
    intro k i o hi' hk ho
    obtain ⟨k, rfl⟩ : ∃ m, k = m + 1 := ⟨k - 1, by omega⟩
    have hin := row_end v r c i hv (by omega)
    have hsl := seg_length v (i * c + lo) (i * c + hi) (by omega)
    simp only [matmul_Cols.l0]
    rw [if_pos (by omega), w_mul i c (by omega), w_add (i * c) lo (by omega), w_add (i * c) hi (by omega), if_pos (by omega), if_pos (by omega), if_pos (by omega)]
    simp only [Int.toNat_natCast]
    rw [if_pos (by rw [hsl]; omega), next i r (by omega) (by omega), ih k (i + 1) _ (by omega) (by omega) (by rw [List.length_append, hsl]; omega), List.append_assoc]
    rw [show partS v c lo hi (d + 1) i = (v.take (i * c + hi)).drop (i * c + lo) ++ partS v c lo hi d (i + 1) by rw [partS]]
theorem cols_bad (k : Nat) (r c : Int) (v : List Int) (lo hi : Int) (h : ¬ RightM r c v.length) : matmul_Cols.f k r c v lo hi = some (0, 0, [], 30) := by
  unfold matmul_Cols.f; rw [mspan_bad _ _ _ _ _ _ h]; rfl
theorem cols_no (k : Nat) (r c : Int) (v : List Int) (lo hi : Int) (h : RightM r c v.length) (hs : ¬ SpanOk lo hi c) : matmul_Cols.f k r c v lo hi = some (0, 0, [], 2) := by
  unfold matmul_Cols.f; rw [mspan_eq _ _ _ _ _ _ h, if_neg hs]; rfl
theorem cols_eq (k : Nat) (r c : Nat) (v : List Int) (lo hi : Nat) (h : RightM r c v.length) (h0 : lo ≤ hi) (h1 : hi ≤ c) (hk : 4100 < k) : matmul_Cols.f k r c v lo hi = some ((r : Int), ((hi - lo : Nat) : Int), partS v c lo hi r 0, 0) := by
  obtain ⟨m1, m2, m3, m4, m5, m6⟩ := id h
  have hv : v.length = r * c := by exact_mod_cast m5
  unfold matmul_Cols.f
  rw [mspan_eq _ _ _ _ _ _ h, if_pos ⟨by omega, by omega, by omega⟩]
  simp only [Option.bind_some]
  rw [if_pos trivial, w_sub hi lo h0 (by omega)]
  have := cols_loop r c v lo hi ((hi - lo : Nat) : Int) hv (by omega) (by omega) m6 h0 h1 r k 0 [] (by omega) (by omega) (by simp)
  simpa using this

def Right3 (r c : Int) (n : Nat) : Prop := 0 ≤ r ∧ r ≤ 4096 ∧ 0 ≤ c ∧ c ≤ 4096 ∧ (n : Int) = r * c
instance (r c : Int) (n : Nat) : Decidable (Right3 r c n) := by unfold Right3; infer_instance
theorem right3_m (r c : Int) (n : Nat) : RightM r c n ↔ Right3 r c n ∧ n ≤ 1048576 := by
  unfold RightM Right3
  constructor
  · rintro ⟨a, b, c, d, e, f⟩; exact ⟨⟨a, b, c, d, e⟩, f⟩
  · rintro ⟨⟨a, b, c, d, e⟩, f⟩; exact ⟨a, b, c, d, e, f⟩

theorem awake04_ok (k : Nat) (hk : 30 ≤ k) : pelotonlaw04_awake.f k = some true :=
  at_rounds pelotonlaw04_awake.mono hk (by decide +kernel)

theorem dotI_zero (a : List Int) : ∀ n, dotI a (List.replicate n 0) = 0 := by
  induction a with
  | nil => intro n; rfl
  | cons x a ih => intro n; cases n with
    | zero => rfl
    | succ n => simp only [List.replicate_succ, dotI, ih]; omega
theorem dotI_unit (a : List Int) : ∀ (n i : Nat), i < n → i < a.length → dotI a ((List.replicate n 0).set i 1) = rd a (i : Int) := by
  induction a with
  | nil => intro n i h1 h2; simp at h2
  | cons x a ih => intro n i h1 h2; cases n with
    | zero => omega
    | succ n => cases i with
      | zero => simp only [List.replicate_succ, List.set_cons_zero, dotI, dotI_zero]; rw [rd_nat _ 0 (by simp)]; simp
      | succ i =>
        simp only [List.length_cons] at h2
        simp only [List.replicate_succ, List.set_cons_succ, dotI]
        rw [ih n i (by omega) (by omega), rd_nat _ (i + 1) (by simp; omega), rd_nat a i (by omega)]; simp
theorem restp (x n : Int) (h0 : 0 < n) (h1 : n ≤ 4611686018427387904) : ∃ m : Nat, Int.tmod (wrap64 (Int.tmod x n + n)) n = m ∧ (m : Int) < n := by
  have g1 := Int.tmod_lt_of_pos x h0
  have g2 := Int.lt_tmod_of_pos x h0
  rw [wrap64_wf _ (by omega) (by omega), Int.tmod_eq_emod_of_nonneg (by omega)]
  have e1 := Int.emod_nonneg (Int.tmod x n + n) (show n ≠ 0 by omega)
  have e2 := Int.emod_lt_of_pos (Int.tmod x n + n) h0
  exact ⟨((Int.tmod x n + n) % n).toNat, by omega, by omega⟩

theorem seg_seg (v : List Int) (A B m n : Nat) (h : A + n ≤ B) : ((((v.take B).drop A).take n).drop m) = (v.take (A + n)).drop (A + m) := by
  rw [List.take_drop, List.take_take, Nat.min_eq_left h, List.drop_drop]
theorem row_of_rows (v : List Int) (r c lo hi i : Nat) (hi' : lo + i < hi) : rowOf ((v.take (hi * c)).drop (lo * c)) c i = rowOf v c (lo + i) := by
  have h := Nat.mul_le_mul_right c (show lo + (i + 1) ≤ hi by omega)
  rw [Nat.add_mul] at h
  rw [← rowOf_eq, ← rowOf_eq, seg_seg v (lo * c) (hi * c) (i * c) ((i + 1) * c) h, ← Nat.add_mul, ← Nat.add_mul, Nat.add_assoc]
theorem applyS_get (r c : Nat) (v x : List Int) (i : Nat) (h : i < (applyS r c v x).length) : (applyS r c v x)[i] = wrap32 (dotI (rowOf v c i) x) := by
  have h2 : i < r := by rw [applyS_length] at h; exact h
  have := applyS_rd r c i v x h2
  rw [rd_nat _ i h] at this; exact this
theorem apply_rows (r c : Nat) (v x : List Int) (lo hi : Nat) (h0 : lo ≤ hi) (h1 : hi ≤ r) : (applyS r c v x).take lo ++ applyS (hi - lo) c ((v.take (hi * c)).drop (lo * c)) x = (applyS r c v x).take hi := by
  have e : applyS (hi - lo) c ((v.take (hi * c)).drop (lo * c)) x = ((applyS r c v x).take hi).drop lo := by
    apply List.ext_getElem
    · rw [applyS_length, List.length_drop, List.length_take, applyS_length]; omega
    · intro i g1 g2
      rw [applyS_length] at g1
      rw [applyS_get, List.getElem_drop, List.getElem_take, applyS_get, row_of_rows v r c lo hi i (by omega)]
  rw [e]
  have t : (applyS r c v x).take lo = ((applyS r c v x).take hi).take lo := by rw [List.take_take, Nat.min_eq_left h0]
  rw [t, List.take_append_drop]
theorem partS_step (v : List Int) (c lo hi d i : Nat) : partS v c lo hi (d + 1) i = (v.take (i * c + hi)).drop (i * c + lo) ++ partS v c lo hi d (i + 1) := by rw [partS]
theorem row_of_part (v : List Int) (r c lo hi : Nat) (hv : v.length = r * c) (h0 : lo ≤ hi) (h1 : hi ≤ c) : ∀ d i q, i + d ≤ r → q < d → rowOf (partS v c lo hi d i) (hi - lo) q = (v.take ((i + q) * c + hi)).drop ((i + q) * c + lo) := by
  intro d
  induction d with
  | zero => intro i q h hq; omega
  | succ d ih =>
    intro i q h hq
    have hin := row_end v r c i hv (by omega)
    have hsl : ((v.take (i * c + hi)).drop (i * c + lo)).length = hi - lo := by rw [seg_length _ _ _ (by omega)]; omega
    rw [partS_step]
    cases q with
    | zero =>
      rw [← rowOf_eq, Nat.zero_add, Nat.one_mul, Nat.zero_mul, List.drop_zero, List.take_left' hsl]; rfl
    | succ q =>
      have e := ih (i + 1) q (by omega) (by omega)
      rw [← rowOf_eq] at e ⊢
      rw [show i + (q + 1) = i + 1 + q by omega, ← e]
      generalize partS v c lo hi d (i + 1) = P at *
      generalize (v.take (i * c + hi)).drop (i * c + lo) = S at *
      clear ih e hin
      have n1 : (q + 1 + 1) * (hi - lo) = S.length + (q + 1) * (hi - lo) := by rw [hsl, Nat.add_mul (q + 1) 1, Nat.one_mul, Nat.add_comm]
      have n2 : (q + 1) * (hi - lo) = S.length + q * (hi - lo) := by rw [hsl, Nat.add_mul q 1, Nat.one_mul, Nat.add_comm]
      rw [n1, List.take_append, List.take_of_length_le (Nat.le_add_right _ _), Nat.add_sub_cancel_left, n2, List.drop_append, List.drop_of_length_le (Nat.le_add_right _ _), Nat.add_sub_cancel_left, List.nil_append]
theorem row_cut (v : List Int) (r c lo hi q : Nat) (h1 : hi ≤ c) : (v.take (q * c + hi)).drop (q * c + lo) = ((rowOf v c q).take hi).drop lo := by
  rw [← rowOf_eq, seg_seg v (q * c) ((q + 1) * c) lo hi (by rw [Nat.add_mul, Nat.one_mul]; exact Nat.add_le_add_left h1 _)]
theorem dot_next (a b : List Int) (lo hi : Nat) (h0 : lo ≤ hi) (ha : hi ≤ a.length) (hb : hi ≤ b.length) : dotI (a.take hi) (b.take hi) = dotI (a.take lo) (b.take lo) + dotI ((a.take hi).drop lo) ((b.take hi).drop lo) := by
  have := dotI_split (a.take hi) (b.take hi) lo hi h0 (by rw [List.length_take, List.length_take]; omega)
  rw [List.take_take, List.take_take, List.take_take, List.take_take, Nat.min_eq_left h0, Nat.min_self] at this
  exact this
theorem rdL_set (X : List (List Int)) (n q : Nat) (y : List Int) (hn : n < X.length) : rd_L3 (X.set n y) (q : Int) = if n = q then y else rd_L3 X (q : Int) := by
  unfold rd_L3
  simp only [Int.toNat_natCast, List.getD_eq_getElem?_getD, List.getElem?_set]
  by_cases h : n = q
  · subst h; simp [hn]
  · rw [if_neg h, if_neg h]
theorem rightm_of (a c n : Nat) (ha : a ≤ 4096) (hc : c ≤ 4096) (hn : n = a * c) (hb : n ≤ 1048576) : RightM a c n :=
  ⟨Int.natCast_nonneg a, Int.ofNat_le.2 ha, Int.natCast_nonneg c, Int.ofNat_le.2 hc, by rw [hn, Int.natCast_mul], hb⟩
theorem MatmulParts_l2 (r c : Nat) (v : List Int) (hr : r ≤ 4096) (A : List Int) (hA : A.length = r) (X : List (List Int)) (hX : X.length = r) (hq : ∀ q, q < r → (rd_L3 X (q : Int)).length ≤ 9 ∧ wrap32 (tot (rd_L3 X (q : Int))) = rd A (q : Int)) : ∀ (d k j : Nat), j + d = r → d + 5000 < k →
    pelotonlaw04_MatmulParts.l2 k A A X j r c v = some true := by
  intro d
  induction d with
  | zero =>
    intro k j hj hk
    obtain ⟨k, rfl⟩ : ∃ m, k = m + 1 := ⟨k - 1, by omega⟩
    simp only [pelotonlaw04_MatmulParts.l2]
    rw [if_neg (by omega), ints_eq A A (by omega) k (by omega)]; simp
  | succ d ih =>
    intro k j hj hk
    obtain ⟨k, rfl⟩ : ∃ m, k = m + 1 := ⟨k - 1, by omega⟩
    obtain ⟨g1, g2⟩ := hq j (by omega)
    simp only [pelotonlaw04_MatmulParts.l2]
    rw [if_pos (by omega), if_pos (by omega), if_pos (by omega), sum_eq _ (by omega) k (by omega), Option.bind_some, if_pos (by omega), if_pos g2, next j r (by omega) (by omega)]
    exact ih k (j + 1) (by omega) (by omega)
theorem MatmulParts_l1 (r c : Nat) (v x A : List Int) (p : Int) (sr sc o : List Int) (i n : Nat) (hn : i < n) (hn2 : n ≤ 100) (y : List Int) (hr : r ≤ 4096) (hy : y.length = r) : ∀ (d k j : Nat) (X : List (List Int)), j + d = r → d < k → X.length = r → (∀ q, j ≤ q → q < r → (rd_L3 X (q : Int)).length ≤ 100) →
    ∃ X', X'.length = r ∧ (∀ q, q < j → rd_L3 X' (q : Int) = rd_L3 X (q : Int)) ∧ (∀ q, j ≤ q → q < r → rd_L3 X' (q : Int) = rd_L3 X (q : Int) ++ [rd y (q : Int)]) ∧
      pelotonlaw04_MatmulParts.l1 k x A p sr sc o X i y j r c v = pelotonlaw04_MatmulParts.l0 (k - (d + 1)) x A p sr sc o X' ((i + 1 : Nat) : Int) r c v := by
  intro d
  induction d with
  | zero =>
    intro k j X hj hk hX hl
    obtain ⟨k, rfl⟩ : ∃ m, k = m + 1 := ⟨k - 1, by omega⟩
    refine ⟨X, hX, fun q _ => rfl, fun q h1 h2 => by omega, ?_⟩
    simp only [pelotonlaw04_MatmulParts.l1]
    rw [if_neg (by omega), next i n hn (by omega)]; rfl
  | succ d ih =>
    intro k j X hj hk hX hl
    obtain ⟨k, rfl⟩ : ∃ m, k = m + 1 := ⟨k - 1, by omega⟩
    obtain ⟨X', h1, h2, h3, h4⟩ := ih k (j + 1) (X.set j (rd_L3 X (j : Int) ++ [rd y (j : Int)])) (by omega) (by omega) (by rw [List.length_set]; exact hX)
      (fun q hq1 hq2 => by
        rw [rdL_set X j q _ (by omega), if_neg (by omega)]
        exact hl q (by omega) hq2)
    refine ⟨X', h1, ?_, ?_, ?_⟩
    · intro q hq
      rw [h2 q (by omega), rdL_set X j q _ (by omega), if_neg (by omega)]
    · intro q hq1 hq2
      by_cases e : j = q
      · subst e
        rw [h2 j (by omega), rdL_set X j j _ (by omega), if_pos rfl]
      · rw [h3 q (by omega) hq2, rdL_set X j q _ (by omega), if_neg e]
    · have := hl j (Nat.le_refl _) (by omega)
      simp only [pelotonlaw04_MatmulParts.l1]
      rw [if_pos (by omega), if_pos (by omega), if_pos (by omega), if_pos (by omega), if_pos (by omega), next j r (by omega) (by omega), Int.toNat_natCast, h4, show k + 1 - (d + 1 + 1) = k - (d + 1) by omega]
theorem MatmulParts_l0 (r c p : Nat) (v x : List Int) (hm : RightM r c v.length) (hxl : x.length = c) (hw : ∀ y ∈ v, -128 ≤ y ∧ y ≤ 127) (hx : ∀ y ∈ x, -128 ≤ y ∧ y ≤ 127) (hp0 : 1 ≤ p) (hp : p ≤ 9) (s : Nat) (hs : r + 10 < s) : ∀ (d k i : Nat) (X : List (List Int)), i + d = p → d * s + 20000 < k → X.length = r →
    (∀ q, q < r → (rd_L3 X (q : Int)).length = i ∧ wrap32 (tot (rd_L3 X (q : Int))) = wrap32 (dotI ((rowOf v c q).take (i * c / p)) (x.take (i * c / p)))) →
    pelotonlaw04_MatmulParts.l0 k x (applyS r c v x) p (spansS r p) (spansS c p) ((applyS r c v x).take (i * r / p)) X i r c v = some true := by
  obtain ⟨m1, m2, m3, m4, m5, m6⟩ := id hm
  have hv : v.length = r * c := by exact_mod_cast m5
  have hr : r ≤ 4096 := by omega
  have hc : c ≤ 4096 := by omega
  have hal : (applyS r c v x).length = r := applyS_length r c v x
  intro d
  induction d with
  | zero =>
    intro k i X hi hk hX hq
    obtain ⟨k, rfl⟩ : ∃ m, k = m + 1 := ⟨k - 1, by omega⟩
    have hip : i = p := by omega
    rw [hip] at hq ⊢
    simp only [pelotonlaw04_MatmulParts.l0]
    rw [if_neg (Int.lt_irrefl _), Nat.mul_div_cancel_left _ (show 0 < p by omega), List.take_of_length_le (Nat.le_of_eq hal)]
    refine MatmulParts_l2 r c v hr _ hal X hX (fun q hqr => ?_) r k 0 (by omega) (by omega)
    obtain ⟨g1, g2⟩ := hq q hqr
    rw [Nat.mul_div_cancel_left _ (show 0 < p by omega), List.take_of_length_le (Nat.le_of_eq (rowOf_length v r c q hv hqr)), List.take_of_length_le (Nat.le_of_eq hxl)] at g2
    exact ⟨by omega, by rw [g2, applyS_rd r c q v x hqr]⟩
  | succ d ih =>
    intro k i X hi hk hX hq
    obtain ⟨k, rfl⟩ : ∃ m, k = m + 2 := ⟨k - 2, by omega⟩
    rw [Nat.add_mul, Nat.one_mul] at hk
    have hk2 : d * s + 20000 < k - (r + 1) := by generalize d * s = D at *; omega
    have hk3 : 20000 < k := by generalize d * s = D at *; omega
    have ih' := fun X' => ih (k - (r + 1)) (i + 1) X' (by omega) hk2
    clear ih hk hk2 hs
    have hip : i < p := by omega
    have le1 : i * r / p ≤ (i + 1) * r / p := Nat.div_le_div_right (Nat.mul_le_mul_right _ (by omega))
    have le2 : (i + 1) * r / p ≤ r := Nat.div_le_of_le_mul (Nat.mul_le_mul_right _ (by omega))
    have le3 : i * c / p ≤ (i + 1) * c / p := Nat.div_le_div_right (Nat.mul_le_mul_right _ (by omega))
    have le4 : (i + 1) * c / p ≤ c := Nat.div_le_of_le_mul (Nat.mul_le_mul_right _ (by omega))
    have sr1 := spansS_rd r p i (by omega)
    have sr2 := spansS_rd r p (i + 1) (by omega)
    have sc1 := spansS_rd c p i (by omega)
    have sc2 := spansS_rd c p (i + 1) (by omega)
    have lr := spansS_length r p
    have lc := spansS_length c p
    generalize spansS r p = SR at *
    generalize spansS c p = SC at *
    generalize i * r / p = lo at *
    generalize (i + 1) * r / p = hi' at *
    generalize i * c / p = lo2 at *
    generalize (i + 1) * c / p = hi2 at *
    have e2 : hi' * c ≤ v.length := by rw [hv]; exact Nat.mul_le_mul_right c le2
    have e3 : ((v.take (hi' * c)).drop (lo * c)).length = (hi' - lo) * c := by rw [seg_length v _ _ e2, Nat.sub_mul]
    have hmr : RightM ((hi' - lo : Nat) : Int) c ((v.take (hi' * c)).drop (lo * c)).length := rightm_of _ _ _ (by omega) hc e3 (by rw [seg_length v _ _ e2]; exact Nat.le_trans (Nat.sub_le _ _) (Nat.le_trans e2 m6))
    have e4 : (partS v c lo2 hi2 r 0).length = r * (hi2 - lo2) := partS_length v r c lo2 hi2 hv le3 le4 r 0 (by omega)
    have hmc : RightM r ((hi2 - lo2 : Nat) : Int) (partS v c lo2 hi2 r 0).length := rightm_of _ _ _ hr (by omega) e4 (by rw [e4]; exact Nat.le_trans (Nat.mul_le_mul_left r (show hi2 - lo2 ≤ c by omega)) (by rw [← hv]; exact m6))
    have hxs : ((x.take hi2).drop lo2).length = hi2 - lo2 := by rw [seg_length x _ _ (by omega)]
    have ra := rows_eq r c v lo hi' hm le1 le2
    have rb := apply_eq (hi' - lo) c _ x hmr hxl (fun y hy => hw y (seg_mem hy)) hx (k + 1) (by omega)
    have rc := cols_eq (k + 1) r c v lo2 hi2 hm le3 le4 (by omega)
    have rdd := apply_eq r (hi2 - lo2) _ ((x.take hi2).drop lo2) hmc hxs (fun y hy => hw y (partS_mem v c lo2 hi2 r 0 y hy)) (fun y hy => hx y (seg_mem hy)) (k + 1) (by omega)
    have lrows := apply_rows r c v x lo hi' le1 le2
    have l19 := applyS_length (hi' - lo) c ((v.take (hi' * c)).drop (lo * c)) x
    have l23 := applyS_length r (hi2 - lo2) (partS v c lo2 hi2 r 0) ((x.take hi2).drop lo2)
    have hval : ∀ q, q < r → rd (applyS r (hi2 - lo2) (partS v c lo2 hi2 r 0) ((x.take hi2).drop lo2)) (q : Int) = wrap32 (dotI (((rowOf v c q).take hi2).drop lo2) ((x.take hi2).drop lo2)) := by
      intro q hqr
      rw [applyS_rd _ _ _ _ _ hqr, row_of_part v r c lo2 hi2 hv le3 le4 r 0 q (by omega) hqr, Nat.zero_add, row_cut v r c lo2 hi2 q le4]
    clear e2 e3 e4 hmr hmc
    generalize applyS (hi' - lo) c ((v.take (hi' * c)).drop (lo * c)) x = AR at *
    generalize applyS r (hi2 - lo2) (partS v c lo2 hi2 r 0) ((x.take hi2).drop lo2) = AC at *
    obtain ⟨X', g1, _, g3, g4⟩ := MatmulParts_l1 r c v x (applyS r c v x) p SR SC ((applyS r c v x).take hi') i p hip (by omega) AC hr l23 r k 0 X (by omega) (by omega) hX (fun q _ hqr => by have := (hq q hqr).1; omega)
    have hfin := ih' X' g1 (fun q hqr => by
      obtain ⟨a1, a2⟩ := hq q hqr
      rw [g3 q (Nat.zero_le _) hqr]
      refine ⟨by rw [List.length_append, a1]; rfl, ?_⟩
      have hrl := rowOf_length v r c q hv hqr
      rw [tot_append, show tot [rd AC (q : Int)] = rd AC (q : Int) by simp [tot], hval q hqr, wrap32_add_right, ← wrap32_add_left, a2, wrap32_add_left, dot_next (rowOf v c q) x lo2 hi2 le3 (by omega) (by omega)])
    have hnx : wrap64 ((i : Int) + 1) = ((i + 1 : Nat) : Int) := next i p hip (by omega)
    have c1 : (i : Int) < (p : Int) := Int.ofNat_lt.2 hip
    have c2 : (0 : Int) ≤ (i : Int) := Int.natCast_nonneg i
    have c3 : (i : Int) < (SR.length : Int) := Int.ofNat_lt.2 (by rw [lr]; exact Nat.lt_succ_of_lt hip)
    have c4 : (0 : Int) ≤ ((i + 1 : Nat) : Int) := Int.natCast_nonneg _
    have c5 : ((i + 1 : Nat) : Int) < (SR.length : Int) := Int.ofNat_lt.2 (by rw [lr]; exact Nat.succ_lt_succ hip)
    have c6 : (i : Int) < (SC.length : Int) := Int.ofNat_lt.2 (by rw [lc]; exact Nat.lt_succ_of_lt hip)
    have c7 : ((i + 1 : Nat) : Int) < (SC.length : Int) := Int.ofNat_lt.2 (by rw [lc]; exact Nat.succ_lt_succ hip)
    have c8 : (0 : Int) ≤ (lo2 : Int) := Int.natCast_nonneg _
    have c9 : (lo2 : Int) ≤ (hi2 : Int) := Int.ofNat_le.2 le3
    have c10 : (hi2 : Int) ≤ (x.length : Int) := Int.ofNat_le.2 (by rw [hxl]; exact le4)
    have hll : ((applyS r c v x).take lo).length + AR.length < 35184372088832 := by
      rw [List.length_take, hal, l19]
      have : min lo r + (hi' - lo) ≤ 4096 + 4096 := by omega
      exact Nat.lt_of_le_of_lt this (by decide)
    simp only [pelotonlaw04_MatmulParts.l0, hnx, sr1, sr2, sc1, sc2, Int.toNat_natCast]
    rw [if_pos c1, if_pos c2, if_pos c3, if_pos c4, if_pos c5, ra]
    simp only [Option.bind_some]
    rw [rb]
    simp only [Option.bind_some]
    rw [if_pos c6, if_pos c7, rc]
    simp only [Option.bind_some]
    rw [if_pos c8, if_pos c9, if_pos c10, rdd]
    simp only [Option.bind_some]
    rw [if_pos trivial, if_pos trivial, if_pos trivial, if_pos trivial, l23]
    simp only [bne_self_eq_false, pelotonlaw04_MatmulParts.j3]
    rw [if_neg (by simp), if_pos hll, lrows]
    rw [show (0 : Int) = ((0 : Nat) : Int) from rfl, g4]
    exact hfin
theorem MatmulParts : pelotonlaw04_MatmulParts.Pure := by
  intro r c v x seed ⟨hr, hc, hvm, hw⟩ ⟨hxm, hxw⟩ hsd
  refine ⟨100010, ?_⟩
  have hw8 : ∀ y ∈ v, -128 ≤ y ∧ y ≤ 127 := fun y hy => wf8 (hw y hy)
  have hx8 : ∀ y ∈ x, -128 ≤ y ∧ y ≤ 127 := fun y hy => wf8 (hxw y hy)
  have ht : pelotonlaw04_MatmulParts.j0 100010 x seed true r c v = some true := by
    simp only [pelotonlaw04_MatmulParts.j0]; simp [awake04_ok 100009 (by omega)]
  unfold pelotonlaw04_MatmulParts.f
  rw [awake04_ok 100010 (by omega)]
  simp only [Option.bind_some, if_true, pelotonlaw04_small.f]
  by_cases hs : (v.length : Int) ≤ 600
  · rw [decide_eq_true hs, if_pos rfl]
    by_cases hxs : (x.length : Int) > 300
    · rw [decide_eq_true hxs]; exact ht
    · rw [decide_eq_false hxs]
      simp only [pelotonlaw04_MatmulParts.j0]
      rw [if_neg (by simp)]
      by_cases hm : RightM r c v.length ∧ (x.length : Int) = c
      · obtain ⟨hm, hxc⟩ := hm
        obtain ⟨m1, m2, m3, m4, m5, m6⟩ := id hm
        obtain ⟨r, rfl⟩ := Int.eq_ofNat_of_zero_le m1
        obtain ⟨c, rfl⟩ := Int.eq_ofNat_of_zero_le m3
        obtain ⟨m, hm9, hm8⟩ := rest9 seed (wf64 hsd)
        rw [hm9]
        have hp1 : wrap64 (1 + (m : Int)) = ((m + 1 : Nat) : Int) := by rw [wrap64_wf _ (by omega) (by omega)]; omega
        have hp2 : wrap64 (((m + 1 : Nat) : Int) + 1) = ((m + 1 + 1 : Nat) : Int) := by rw [wrap64_wf _ (by omega) (by omega)]; omega
        rw [apply_eq r c v x hm (by omega) hw8 hx8 100009 (by omega)]
        simp only [Option.bind_some, hp1, hp2]
        rw [if_pos trivial, spans_eq r (m + 1) (by omega) (by omega) (by omega) 100009 (by omega), spans_eq c (m + 1) (by omega) (by omega) (by omega) 100009 (by omega)]
        simp only [Option.bind_some, spansS_length]
        rw [if_pos trivial]
        simp only [bne_self_eq_false, pelotonlaw04_MatmulParts.j1]
        rw [if_neg (by simp), if_pos (by omega), if_pos (by omega)]
        simp only [Int.toNat_natCast]
        have g := MatmulParts_l0 r c (m + 1) v x hm (by omega) hw8 hx8 (by omega) (by omega) 4200 (by omega) (m + 1) 100008 0 (List.replicate r []) (by omega) (by omega) (by simp) (fun q hqr => by
          have e : rd_L3 (List.replicate r ([] : List Int)) (q : Int) = [] := by
            unfold rd_L3; simp [List.getD_eq_getElem?_getD, List.getElem?_replicate, hqr]
          rw [e]; simp [dotI, tot])
        simpa using g
      · rw [apply_bad r c v x hm 100009 (by omega)]
        simp only [Option.bind_some]
        rw [if_neg (by omega)]
  · rw [decide_eq_false hs, if_neg (by simp)]
    exact ht

end Go.Proofs.Ytananmepljeldaa.Pure
