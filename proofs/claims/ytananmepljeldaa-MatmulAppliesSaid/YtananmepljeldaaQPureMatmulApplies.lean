/- MatmulApplies: the law's plain part: what its functions compute answers true, for all arguments of its types. No condition beside the given bounds. -/
import Derived.Test.YtananmepljeldaaQMatmulAppliesx5
import Derived.Test.YtananmepljeldaaMath
namespace Go.Proofs.Ytananmepljeldaa.Pure
open Go.RowKit Go.Proofs.Ytananmepljeldaa.QMatmulApplies Go.Proofs.YtananmepljeldaaW.PrintWords Go.Proofs.YtananmepljeldaaW.PrintLast Go.Proofs.YtananmepljeldaaW.PrintMore Go.PelMath
set_option linter.unusedVariables false
set_option linter.unusedSimpArgs false
theorem wf64 {x : Int} (h : (Lit.int .i64 x).wf = true) : -9223372036854775808 ≤ x ∧ x ≤ 9223372036854775807 := by
  simp [Lit.wf, IntKind.min, IntKind.max, IntKind.bits, IntKind.signed] at h; omega
theorem wf32 {x : Int} (h : (Lit.int .i32 x).wf = true) : -2147483648 ≤ x ∧ x ≤ 2147483647 := by
  simp [Lit.wf, IntKind.min, IntKind.max, IntKind.bits, IntKind.signed] at h; omega
theorem wf8 {x : Int} (h : (Lit.int .i8 x).wf = true) : -128 ≤ x ∧ x ≤ 127 := by
  simp [Lit.wf, IntKind.min, IntKind.max, IntKind.bits, IntKind.signed] at h; omega

def nn (n : Int) : Nat := (mn (mx n 0) 62).toNat
theorem nn_le (n : Int) : nn n ≤ 62 := by unfold nn mn mx; (repeat' split) <;> omega
theorem nn_of (n : Int) (h0 : 0 ≤ n) (h1 : n ≤ 62) : nn n = n.toNat := by unfold nn mn mx; (repeat' split) <;> omega

def clamp (x a b : Int) : Int := if x < a then a else if b < x then b else x
theorem clamp_range (x a b : Int) (h : a ≤ b) : a ≤ clamp x a b ∧ clamp x a b ≤ b := by unfold clamp; (repeat' split) <;> omega
theorem clamp_mono (x y a b : Int) (h : a ≤ b) (hxy : x ≤ y) : clamp x a b ≤ clamp y a b := by unfold clamp; (repeat' split) <;> omega
theorem clamp_id (x a b : Int) (h0 : a ≤ x) (h1 : x ≤ b) : clamp x a b = x := by unfold clamp; (repeat' split) <;> omega

theorem mul32 (x y : Int) (hx : -2147483648 ≤ x ∧ x ≤ 2147483647) (hy : -2147483648 ≤ y ∧ y ≤ 2147483647) : -4611686018427387904 ≤ x * y ∧ x * y ≤ 4611686018427387904 := by
  have h := Int.natAbs_mul x y
  have h1 : x.natAbs ≤ 2147483648 := by omega
  have h2 : y.natAbs ≤ 2147483648 := by omega
  have h3 : x.natAbs * y.natAbs ≤ 2147483648 * 2147483648 := Nat.mul_le_mul h1 h2
  omega

theorem wrap32_range (x : Int) : -2147483648 ≤ wrap32 x ∧ wrap32 x ≤ 2147483647 := by unfold wrap32; omega
theorem wrap32_0 : wrap32 0 = 0 := by unfold wrap32; omega
theorem rd_nat (l : List Int) (i : Nat) (h : i < l.length) : rd l (i : Int) = l[i] := by
  unfold rd; simp [List.getD, h]
theorem drop_cons (l : List Int) (i : Nat) (h : i < l.length) : l.drop i = rd l (i : Int) :: l.drop (i + 1) := by
  rw [rd_nat l i h, List.drop_eq_getElem_cons h]
theorem rd_mem (l : List Int) (i : Nat) (h : i < l.length) : rd l (i : Int) ∈ l := by rw [rd_nat l i h]; exact List.getElem_mem h
theorem next (i n : Nat) (h : i < n) (hn : n ≤ 9223372036854775807) : wrap64 ((i : Int) + 1) = ((i + 1 : Nat) : Int) := by
  rw [wrap64_wf _ (by omega) (by omega)]; omega

theorem refmod_eq (x : Int) (h0 : -9223372036854775808 ≤ x) (h1 : x ≤ 9223372036854775807) : pelotonref01_Mod.f x = some (wrap32 x) := by
  unfold pelotonref01_Mod.f
  rw [Int.tmod_eq_emod]
  unfold wrap32 wrap64
  have hs : Int.natAbs 4294967296 = 4294967296 := rfl
  have hdv : (4294967296 : Int) ∣ x ↔ x % 4294967296 = 0 := ⟨Int.emod_eq_zero_of_dvd, Int.dvd_of_emod_eq_zero⟩
  by_cases hc : 0 ≤ x ∨ (4294967296 : Int) ∣ x
  · rw [if_pos hc]; simp only [Int.cast_ofNat_Int, Int.sub_zero]
    (repeat' split) <;> (simp only [Option.some.injEq]; omega)
  · rw [if_neg hc]
    rw [hdv] at hc
    (repeat' split) <;> (simp only [Option.some.injEq]; omega)

theorem refwrap_loop (l : List Int) (hl : l.length ≤ 9223372036854775807) (hw : ∀ x ∈ l, -9223372036854775808 ≤ x ∧ x ≤ 9223372036854775807) : ∀ (d k i : Nat) (s : Int), i + d = l.length → d < k →
    pelotonref01_Wrap.l0 k l (wrap32 s) i = some (wrap32 (s + tot (l.drop i))) := by
  intro d
  induction d with
  | zero =>
    intro k i s hi hk
    obtain ⟨k, rfl⟩ : ∃ m, k = m + 1 := ⟨k - 1, by omega⟩
    simp only [pelotonref01_Wrap.l0]
    rw [if_neg (by omega), List.drop_of_length_le (by omega)]; simp [tot, wrap32_wrap32]
  | succ d ih =>
    intro k i s hi hk
    obtain ⟨k, rfl⟩ : ∃ m, k = m + 1 := ⟨k - 1, by omega⟩
    have hr := hw _ (rd_mem l i (by omega))
    have w1 := wrap32_range s; have w2 := wrap32_range (rd l (i : Int))
    simp only [pelotonref01_Wrap.l0]
    rw [if_pos (by omega), if_pos (by omega), refmod_eq _ hr.1 hr.2, Option.bind_some, wrap64_wf (wrap32 (rd l (i : Int))) (by omega) (by omega), wrap64_wf (wrap32 s + _) (by omega) (by omega), refmod_eq _ (by omega) (by omega), Option.bind_some]
    have w3 := wrap32_range (wrap32 s + wrap32 (rd l (i : Int)))
    rw [wrap64_wf _ (by omega) (by omega), next i _ (by omega) hl, ih k (i + 1) _ (by omega) (by omega), drop_cons l i (by omega)]
    simp only [tot]
    rw [show ∀ a b c : Int, wrap32 (wrap32 a + wrap32 b + c) = wrap32 (a + (b + c)) from fun a b c => by unfold wrap32; omega]
theorem refwrap_eq (l : List Int) (hl : l.length ≤ 9223372036854775807) (hw : ∀ x ∈ l, -9223372036854775808 ≤ x ∧ x ≤ 9223372036854775807) (k : Nat) (hk : l.length < k) : pelotonref01_Wrap.f k l = some (wrap32 (tot l)) := by
  unfold pelotonref01_Wrap.f
  have := refwrap_loop l hl hw l.length k 0 0 (by omega) hk
  rw [wrap32_0] at this; simpa using this

def dotI : List Int → List Int → Int
  | x :: a, y :: b => x * y + dotI a b
  | _, _ => 0
def prods : List Int → List Int → List Int
  | x :: a, y :: b => x * y :: prods a b
  | _, _ => []
theorem dotI_nil (a : List Int) : dotI a [] = 0 := by cases a <;> rfl
theorem tot_prods (a : List Int) : ∀ b, tot (prods a b) = dotI a b := by
  induction a with
  | nil => intro b; rfl
  | cons x a ih => intro b; cases b with
    | nil => rfl
    | cons y b => simp only [prods, tot, dotI, ih]
theorem prods_length (a : List Int) : ∀ b, (prods a b).length ≤ a.length := by
  induction a with
  | nil => intro b; simp [prods]
  | cons x a ih => intro b; cases b with
    | nil => simp [prods]
    | cons y b => simp only [prods, List.length_cons]; have := ih b; omega

theorem dotI_split (a : List Int) : ∀ (b : List Int) (k n : Nat), k ≤ n → n = min a.length b.length →
    dotI a b = dotI (a.take k) (b.take k) + dotI ((a.take n).drop k) ((b.take n).drop k) := by
  induction a with
  | nil => intro b k n h hn; simp [dotI]
  | cons x a ih =>
    intro b k n h hn
    cases b with
    | nil => simp [dotI_nil]
    | cons y b =>
      simp only [List.length_cons] at hn
      obtain ⟨n, rfl⟩ : ∃ m, n = m + 1 := ⟨n - 1, by omega⟩
      cases k with
      | zero =>
        have := ih b 0 n (by omega) (by omega)
        simp only [List.take_zero, List.drop_zero, dotI, Int.zero_add, List.take_succ_cons] at this ⊢
        rw [this]
      | succ k =>
        have := ih b k n (by omega) (by omega)
        simp only [List.take_succ_cons, List.drop_succ_cons, dotI]
        rw [this]; omega

theorem rest9 (n : Int) (h : -9223372036854775808 ≤ n ∧ n ≤ 9223372036854775807) : ∃ m : Nat, Int.tmod (wrap64 (Int.tmod n 9 + 9)) 9 = m ∧ m ≤ 8 := by
  have h1 := Int.tmod_lt_of_pos n (show (0 : Int) < 9 by omega)
  have h2 := Int.lt_tmod_of_pos n (show (0 : Int) < 9 by omega)
  rw [wrap64_wf _ (by omega) (by omega), Int.tmod_eq_emod_of_nonneg (by omega)]
  exact ⟨((Int.tmod n 9 + 9) % 9).toNat, by omega, by omega⟩

theorem dot_loop (a b : List Int) (ha : a.length ≤ 9223372036854775807) (hw : ∀ x ∈ a, -128 ≤ x ∧ x ≤ 127) (hv : ∀ x ∈ b, -128 ≤ x ∧ x ≤ 127) : ∀ (d k i : Nat) (s : Int), i + d = min a.length b.length → d < k →
    round_Dot.l0 k a b (wrap32 s) (min a.length b.length : Nat) i = some (wrap32 (s + dotI (a.drop i) (b.drop i))) := by
  intro d
  induction d with
  | zero =>
    intro k i s hi hk
    obtain ⟨k, rfl⟩ : ∃ m, k = m + 1 := ⟨k - 1, by omega⟩
    simp only [round_Dot.l0]
    rw [if_neg (by omega)]
    by_cases hc : i < a.length
    · rw [List.drop_of_length_le (l := b) (by omega), dotI_nil]; simp
    · rw [List.drop_of_length_le (l := a) (by omega)]; simp [dotI]
  | succ d ih =>
    intro k i s hi hk
    obtain ⟨k, rfl⟩ : ∃ m, k = m + 1 := ⟨k - 1, by omega⟩
    have hr := hw _ (rd_mem a i (by omega)); have hq := hv _ (rd_mem b i (by omega))
    simp only [round_Dot.l0]
    rw [if_pos (by omega), if_pos (by omega), if_pos (by omega), if_pos (by omega), next i _ (show i < a.length by omega) ha,
      wrap32_wf (rd a (i : Int)) (by omega) (by omega), wrap32_wf (rd b (i : Int)) (by omega) (by omega), wrap32_add_left, wrap32_add_right, ih k (i + 1) _ (by omega) (by omega), drop_cons a i (by omega), drop_cons b i (by omega)]
    simp only [dotI]
    rw [Int.add_assoc]
theorem dot_eq (a b : List Int) (ha : a.length ≤ 9223372036854775807) (hw : ∀ x ∈ a, -128 ≤ x ∧ x ≤ 127) (hv : ∀ x ∈ b, -128 ≤ x ∧ x ≤ 127) (k : Nat) (hk : a.length < k) : round_Dot.f k a b = some (wrap32 (dotI a b)) := by
  unfold round_Dot.f
  rw [show mn (a.length : Int) (b.length : Int) = ((min a.length b.length : Nat) : Int) by unfold mn; split <;> omega]
  have := dot_loop a b ha hw hv (min a.length b.length) k 0 0 (by omega) (by omega)
  rw [wrap32_0] at this; simpa using this

theorem rest31 (n : Int) (h : -9223372036854775808 ≤ n ∧ n ≤ 9223372036854775807) : ∃ m : Nat, Int.tmod (wrap64 (Int.tmod n 31 + 31)) 31 = m ∧ m ≤ 30 := by
  have h1 := Int.tmod_lt_of_pos n (show (0 : Int) < 31 by omega)
  have h2 := Int.lt_tmod_of_pos n (show (0 : Int) < 31 by omega)
  rw [wrap64_wf _ (by omega) (by omega), Int.tmod_eq_emod_of_nonneg (by omega)]
  exact ⟨((Int.tmod n 31 + 31) % 31).toNat, by omega, by omega⟩

theorem mulb {a b A B : Int} (h0 : 0 ≤ a) (h1 : a ≤ A) (h2 : 0 ≤ b) (h3 : b ≤ B) : 0 ≤ a * b ∧ a * b ≤ A * B :=
  ⟨Int.mul_nonneg h0 h2, Int.mul_le_mul h1 h3 h2 (Int.le_trans h0 h1)⟩

def RightM (r c : Int) (n : Nat) : Prop := 0 ≤ r ∧ r ≤ 4096 ∧ 0 ≤ c ∧ c ≤ 4096 ∧ (n : Int) = r * c ∧ n ≤ 1048576
instance (r c : Int) (n : Nat) : Decidable (RightM r c n) := by unfold RightM; infer_instance

theorem side_eq (n : Int) : matmul_side.f n = some (decide (0 ≤ n ∧ n ≤ 4096)) := by
  unfold matmul_side.f
  by_cases h : 0 ≤ n
  · rw [if_pos h]; simp [h]
  · rw [if_neg h]; simp [h]
theorem wrong_eq (r c : Int) (v : List Int) : matmul_wrong.f r c v = some (!decide (RightM r c v.length)) := by
  unfold matmul_wrong.f
  rw [side_eq, side_eq]
  simp only [Option.bind_some, decide_eq_true_eq]
  by_cases h1 : 0 ≤ r ∧ r ≤ 4096
  · rw [if_pos h1]
    by_cases h2 : 0 ≤ c ∧ c ≤ 4096
    · rw [if_pos h2]
      have hb := mulb h1.1 h1.2 h2.1 h2.2
      rw [wrap64_wf _ (by omega) (by omega)]
      by_cases h3 : (v.length : Int) = r * c
      · rw [if_pos h3]
        by_cases h4 : (v.length : Int) > 1048576
        · rw [decide_eq_true h4, decide_eq_false (fun h => by obtain ⟨_, _, _, _, _, _⟩ := h; omega)]; rfl
        · have hm : RightM r c v.length := ⟨h1.1, h1.2, h2.1, h2.2, h3, by omega⟩
          rw [decide_eq_false h4, decide_eq_true hm]; rfl
      · rw [if_neg h3, decide_eq_false (fun h => h3 h.2.2.2.2.1)]; rfl
    · rw [if_neg h2, decide_eq_false (fun h => h2 ⟨h.2.2.1, h.2.2.2.1⟩)]; rfl
  · rw [if_neg h1, decide_eq_false (fun h => h1 ⟨h.1, h.2.1⟩)]; rfl

theorem refright_eq (r c : Int) (v : List Int) : pelotonref04_Right.f r c v = some (decide (RightM r c v.length)) := by
  unfold pelotonref04_Right.f
  by_cases h1 : r ≥ 0
  · by_cases h2 : c ≥ 0
    · by_cases h3 : r ≤ 4096
      · by_cases h4 : c ≤ 4096
        · have hb := mulb h1 h3 h2 h4
          rw [if_pos h1, if_pos h2, if_pos h3, if_pos h4, wrap64_wf _ (by omega) (by omega)]
          by_cases h5 : (v.length : Int) = r * c
          · rw [if_pos h5]
            by_cases h6 : (v.length : Int) ≤ 1048576
            · have hm : RightM r c v.length := ⟨h1, h3, h2, h4, h5, by omega⟩
              rw [decide_eq_true h6, decide_eq_true hm]
            · rw [decide_eq_false h6, decide_eq_false (fun h => by obtain ⟨_, _, _, _, _, _⟩ := h; omega)]
          · rw [if_neg h5, decide_eq_false (fun h => h5 h.2.2.2.2.1)]
        · rw [if_pos h1, if_pos h2, if_pos h3, if_neg h4, decide_eq_false (fun h => h4 h.2.2.2.1)]
      · rw [if_pos h1, if_pos h2, if_neg h3, decide_eq_false (fun h => h3 h.2.1)]
    · rw [if_pos h1, if_neg h2, decide_eq_false (fun h => h2 h.2.2.1)]
  · rw [if_neg h1, decide_eq_false (fun h => h1 h.1)]

def rowOf (v : List Int) (c i : Nat) : List Int := (v.take ((i + 1) * c)).drop (i * c)
def applyS (r c : Nat) (v x : List Int) : List Int := (List.range r).map fun i => wrap32 (dotI (rowOf v c i) x)
theorem applyS_length (r c : Nat) (v x : List Int) : (applyS r c v x).length = r := by simp [applyS]
theorem row_in (v : List Int) (r c i : Nat) (h : v.length = r * c) (hi : i < r) : i * c + c ≤ v.length := by
  have := Nat.mul_le_mul_right c (show i + 1 ≤ r by omega)
  rw [Nat.add_mul] at this; omega
theorem rowOf_length (v : List Int) (r c i : Nat) (h : v.length = r * c) (hi : i < r) : (rowOf v c i).length = c := by
  have := row_in v r c i h hi
  simp only [rowOf, List.length_drop, List.length_take, Nat.add_mul]; omega
theorem rowOf_mem {v : List Int} {c i : Nat} {x : Int} (h : x ∈ rowOf v c i) : x ∈ v := List.mem_of_mem_take (List.mem_of_mem_drop h)
theorem rowOf_rd (v : List Int) (r c i j : Nat) (h : v.length = r * c) (hi : i < r) (hj : j < c) : rd (rowOf v c i) (j : Int) = rd v ((i * c + j : Nat) : Int) := by
  have h1 := row_in v r c i h hi
  have h2 := rowOf_length v r c i h hi
  rw [rd_nat _ j (by omega), rd_nat v _ (by omega)]
  simp only [rowOf, List.getElem_drop, List.getElem_take]
theorem map_range_drop (n i : Nat) (f : Nat → Int) (h : i < n) : ((List.range n).map f).drop i = f i :: ((List.range n).map f).drop (i + 1) := by
  rw [List.drop_eq_getElem_cons (by simpa using h)]; simp
theorem applyS_drop (r c i : Nat) (v x : List Int) (h : i < r) : (applyS r c v x).drop i = wrap32 (dotI (rowOf v c i) x) :: (applyS r c v x).drop (i + 1) := map_range_drop r i _ h
theorem applyS_rd (r c i : Nat) (v x : List Int) (h : i < r) : rd (applyS r c v x) (i : Int) = wrap32 (dotI (rowOf v c i) x) := by
  rw [rd_nat _ i (by rw [applyS_length]; exact h)]; simp [applyS]
theorem applyS_congr (r c : Nat) (v x : List Int) (f : Nat → Int) (h : ∀ i, i < r → wrap32 (dotI (rowOf v c i) x) = f i) : applyS r c v x = (List.range r).map f := by
  apply List.map_congr_left; intro i hi; exact h i (List.mem_range.1 hi)
theorem rowOf_eq (v : List Int) (c i : Nat) : (v.take ((i + 1) * c)).drop (i * c) = rowOf v c i := rfl
attribute [irreducible] rowOf applyS

theorem apply_loop (r c : Nat) (v x : List Int) (hr : r ≤ 4096) (hc : c ≤ 4096) (hv : v.length = r * c) (hvl : v.length ≤ 1048576) (hw : ∀ y ∈ v, -128 ≤ y ∧ y ≤ 127) (hx : ∀ y ∈ x, -128 ≤ y ∧ y ≤ 127) : ∀ (d k i : Nat) (o : List Int), i + d = r → d + 4100 < k → o.length = r →
    matmul_Apply.l0 k x o (r : Int) i r c v = some (o.take i ++ (applyS r c v x).drop i, 0) := by
  intro d
  induction d with
  | zero =>
    intro k i o hi hk ho
    obtain ⟨k, rfl⟩ : ∃ m, k = m + 1 := ⟨k - 1, by omega⟩
    simp only [matmul_Apply.l0]
    rw [if_neg (by omega), List.drop_of_length_le (by rw [applyS_length]; omega), List.take_of_length_le (by omega)]; simp
  | succ d ih =>
    intro k i o hi hk ho
    obtain ⟨k, rfl⟩ : ∃ m, k = m + 1 := ⟨k - 1, by omega⟩
    have hin := row_in v r c i hv (by omega)
    have e3 : (i + 1) * c = i * c + c := by rw [Nat.add_mul, Nat.one_mul]
    simp only [matmul_Apply.l0]
    rw [next i r (by omega) (by omega), w_mul i c (by omega), w_mul (i + 1) c (by omega), if_pos (by omega), if_pos (by omega), if_pos (by omega), if_pos (by omega)]
    simp only [Int.toNat_natCast]
    rw [rowOf_eq, dot_eq _ _ (by rw [rowOf_length v r c i hv (by omega)]; omega) (fun y hy => hw y (rowOf_mem hy)) hx k (by rw [rowOf_length v r c i hv (by omega)]; omega), Option.bind_some, if_pos (by omega), if_pos (by omega), ih k (i + 1) _ (by omega) (by omega) (by simp [ho])]
    rw [applyS_drop r c i v x (by omega)]
    rw [List.take_add_one, List.getElem?_set_self (by omega), List.take_set_of_le (Nat.le_refl _)]
    simp
theorem apply_eq (r c : Nat) (v x : List Int) (hm : RightM r c v.length) (hxl : x.length = c) (hw : ∀ y ∈ v, -128 ≤ y ∧ y ≤ 127) (hx : ∀ y ∈ x, -128 ≤ y ∧ y ≤ 127) (k : Nat) (hk : 9000 < k) :
    matmul_Apply.f k r c v x = some (applyS r c v x, 0) := by
  obtain ⟨k, rfl⟩ : ∃ m, k = m + 1 := ⟨k - 1, by omega⟩
  obtain ⟨m1, m2, m3, m4, m5, m6⟩ := id hm
  have hv : v.length = r * c := by exact_mod_cast m5
  unfold matmul_Apply.f
  rw [wrong_eq, decide_eq_true hm]
  simp only [Option.bind_some, Bool.not_true, Bool.false_eq_true, if_false, hxl, bne_self_eq_false]
  simp only [matmul_Apply.j0]
  rw [if_neg (by simp), if_pos (by omega), if_pos (by omega), Option.bind_some]
  simp only [Int.toNat_natCast, List.length_replicate]
  rw [show (0 : Int) = ((0 : Nat) : Int) from rfl]
  rw [apply_loop r c v x (by omega) (by omega) hv m6 hw hx r k 0 (List.replicate r ((0 : Nat) : Int)) (by omega) (by omega) (by simp)]
  simp
theorem apply_bad (r c : Int) (v x : List Int) (h : ¬ (RightM r c v.length ∧ (x.length : Int) = c)) (k : Nat) (hk : 2 < k) : matmul_Apply.f k r c v x = some ([], 30) := by
  obtain ⟨k, rfl⟩ : ∃ m, k = m + 1 := ⟨k - 1, by omega⟩
  unfold matmul_Apply.f
  rw [wrong_eq]
  by_cases hm : RightM r c v.length
  · have hne : (x.length : Int) ≠ c := fun e => h ⟨hm, e⟩
    rw [decide_eq_true hm]
    simp only [Option.bind_some, Bool.not_true, Bool.false_eq_true, if_false]
    rw [bne_iff_ne.2 hne]
    simp [matmul_Apply.j0]
  · rw [decide_eq_false hm]
    simp [matmul_Apply.j0]

theorem ints_loop (a b : List Int) (ha : a.length ≤ 9223372036854775807) (hab : a.length = b.length) : ∀ (d k i : Nat), i + d = a.length → d < k →
    pelotonref04_Ints.l0 k a b i = some (decide (a.drop i = b.drop i)) := by
  intro d
  induction d with
  | zero =>
    intro k i hi hk
    obtain ⟨k, rfl⟩ : ∃ m, k = m + 1 := ⟨k - 1, by omega⟩
    simp only [pelotonref04_Ints.l0]
    rw [if_neg (by omega), List.drop_of_length_le (by omega), List.drop_of_length_le (by omega)]; simp
  | succ d ih =>
    intro k i hi hk
    obtain ⟨k, rfl⟩ : ∃ m, k = m + 1 := ⟨k - 1, by omega⟩
    simp only [pelotonref04_Ints.l0]
    rw [if_pos (by omega), if_pos (by omega), if_pos (by omega), next i _ (show i < a.length by omega) ha, ih k (i + 1) (by omega) (by omega), drop_cons a i (by omega), drop_cons b i (by omega)]
    by_cases hc : rd a (i : Int) = rd b (i : Int)
    · rw [if_pos hc]; simp [hc]
    · rw [if_neg hc]; simp [hc]
theorem ints_eq (a b : List Int) (ha : a.length ≤ 9223372036854775807) (k : Nat) (hk : a.length < k) : pelotonref04_Ints.f k a b = some (decide (a = b)) := by
  unfold pelotonref04_Ints.f
  by_cases h : (a.length : Int) = b.length
  · rw [if_pos h]
    have := ints_loop a b ha (by omega) a.length k 0 (by omega) hk
    simpa using this
  · rw [if_neg h, decide_eq_false (fun e => h (by rw [e]))]

def spansS (n parts : Nat) : List Int := (List.range (parts + 1)).map fun i => ((i * n / parts : Nat) : Int)
theorem spansS_length (n parts : Nat) : (spansS n parts).length = parts + 1 := by simp [spansS]
theorem spansS_rd (n parts i : Nat) (h : i ≤ parts) : rd (spansS n parts) (i : Int) = ((i * n / parts : Nat) : Int) := by
  rw [rd_nat _ i (by rw [spansS_length]; omega)]; simp [spansS]
theorem spansS_drop (n parts i : Nat) (h : i < parts + 1) : (spansS n parts).drop i = ((i * n / parts : Nat) : Int) :: (spansS n parts).drop (i + 1) := map_range_drop (parts + 1) i _ h
attribute [irreducible] spansS
theorem spans_loop (n parts : Nat) (hn : n ≤ 1099511627776) (hp0 : 1 ≤ parts) (hp : parts ≤ 4096) : ∀ (d k i : Nat) (o : List Int), i + d = parts + 1 → d < k → o.length = parts + 1 →
    matmul_Spans.l0 k n parts o ((parts + 1 : Nat) : Int) i = some (o.take i ++ (spansS n parts).drop i, 0) := by
  intro d
  induction d with
  | zero =>
    intro k i o hi hk ho
    obtain ⟨k, rfl⟩ : ∃ m, k = m + 1 := ⟨k - 1, by omega⟩
    simp only [matmul_Spans.l0]
    rw [if_neg (by omega), List.drop_of_length_le (by rw [spansS_length]; omega), List.take_of_length_le (by omega)]; simp
  | succ d ih =>
    intro k i o hi hk ho
    obtain ⟨k, rfl⟩ : ∃ m, k = m + 1 := ⟨k - 1, by omega⟩
    have hb : i * n ≤ 4096 * 1099511627776 := Nat.mul_le_mul (by omega) hn
    simp only [matmul_Spans.l0]
    rw [if_pos (by omega), if_neg (by omega), if_pos (by omega), if_pos (by omega), next i (parts + 1) (by omega) (by omega), w_mul i n (by omega), w_div (i * n) parts (by omega), ih k (i + 1) _ (by omega) (by omega) (by simp [ho])]
    rw [spansS_drop n parts i (by omega)]
    simp only [Int.toNat_natCast]
    rw [List.take_add_one, List.getElem?_set_self (by omega), List.take_set_of_le (Nat.le_refl _)]
    simp
theorem spans_eq (n parts : Nat) (hn : n ≤ 1099511627776) (hp0 : 1 ≤ parts) (hp : parts ≤ 4096) (k : Nat) (hk : 5000 < k) : matmul_Spans.f k n parts = some (spansS n parts, 0) := by
  obtain ⟨k, rfl⟩ : ∃ m, k = m + 1 := ⟨k - 1, by omega⟩
  unfold matmul_Spans.f
  rw [if_neg (by omega), if_neg (by omega), if_neg (by omega), decide_eq_false (by omega)]
  simp only [matmul_Spans.j0]
  rw [show wrap64 ((parts : Int) + 1) = ((parts + 1 : Nat) : Int) from w_add parts 1 (by omega), if_neg (by simp), if_pos (by omega), if_pos (by omega), Option.bind_some]
  simp only [Int.toNat_natCast, List.length_replicate]
  rw [show (0 : Int) = ((0 : Nat) : Int) from rfl]
  rw [spans_loop n parts hn hp0 hp (parts + 1) k 0 (List.replicate (parts + 1) ((0 : Nat) : Int)) (by omega) (by omega) (by simp)]
  simp
theorem spans_bad (n parts : Int) (h : n < 0 ∨ n > 1099511627776 ∨ parts < 1 ∨ parts > 4096) (k : Nat) (hk : 2 < k) : matmul_Spans.f k n parts = some ([], 2) := by
  obtain ⟨k, rfl⟩ : ∃ m, k = m + 1 := ⟨k - 1, by omega⟩
  have hj : matmul_Spans.j0 (k + 1) n parts true = some ([], 2) := by simp [matmul_Spans.j0]
  unfold matmul_Spans.f
  rw [hj]
  by_cases h1 : n < 0
  · rw [if_pos h1]
  · rw [if_neg h1]
    by_cases h2 : n > 1099511627776
    · rw [if_pos h2]
    · rw [if_neg h2]
      by_cases h3 : parts < 1
      · rw [if_pos h3]
      · rw [if_neg h3, decide_eq_true (by omega), hj]

def partS (v : List Int) (c lo hi : Nat) : Nat → Nat → List Int
  | 0, _ => []
  | d + 1, i => (v.take (i * c + hi)).drop (i * c + lo) ++ partS v c lo hi d (i + 1)
theorem seg_length (v : List Int) (a b : Nat) (h : b ≤ v.length) : ((v.take b).drop a).length = b - a := by
  simp only [List.length_drop, List.length_take]; omega
theorem seg_mem {v : List Int} {a b : Nat} {x : Int} (h : x ∈ (v.take b).drop a) : x ∈ v := List.mem_of_mem_take (List.mem_of_mem_drop h)
theorem seg_join (v : List Int) (a m b : Nat) (h0 : a ≤ m) (h1 : m ≤ b) (h2 : b ≤ v.length) : (v.take m).drop a ++ (v.take b).drop m = (v.take b).drop a := by
  have e : v.take m = (v.take b).take m := by rw [List.take_take, Nat.min_eq_left h1]
  have hl : (v.take b).length = b := by rw [List.length_take]; omega
  generalize v.take b = w at *
  rw [e]
  conv => rhs; rw [← List.take_append_drop m w]
  rw [List.drop_append, List.length_take]
  rw [show a - min m w.length = 0 by omega]; rfl
theorem seg_full (v : List Int) (b : Nat) : (v.take b).drop b = [] := by
  apply List.drop_eq_nil_of_le; rw [List.length_take]; omega
theorem seg_cons (v : List Int) (a b : Nat) (h0 : a < b) (h1 : b ≤ v.length) : (v.take b).drop a = rd v (a : Int) :: (v.take b).drop (a + 1) := by
  rw [List.drop_eq_getElem_cons (by rw [List.length_take]; omega), List.getElem_take, rd_nat v a (by omega)]
theorem row_end (v : List Int) (r c i : Nat) (h : v.length = r * c) (hi : i < r) : i * c + c ≤ v.length := by
  have := Nat.mul_le_mul_right c (show i + 1 ≤ r by omega)
  rw [Nat.add_mul] at this; omega
theorem partS_mem (v : List Int) (c lo hi : Nat) : ∀ d i x, x ∈ partS v c lo hi d i → x ∈ v := by
  intro d
  induction d with
  | zero => intro i x h; simp [partS] at h
  | succ d ih =>
    intro i x h
    rw [partS, List.mem_append] at h
    rcases h with h | h
    · exact seg_mem h
    · exact ih _ _ h
theorem partS_length (v : List Int) (r c lo hi : Nat) (hv : v.length = r * c) (h0 : lo ≤ hi) (h1 : hi ≤ c) : ∀ d i, i + d ≤ r → (partS v c lo hi d i).length = d * (hi - lo) := by
  intro d
  induction d with
  | zero => intro i h; simp [partS]
  | succ d ih =>
    intro i h
    have := row_end v r c i hv (by omega)
    rw [partS, List.length_append, ih (i + 1) (by omega), seg_length _ _ _ (by omega), Nat.add_mul]; omega
theorem partS_rows (v : List Int) (r c : Nat) (hv : v.length = r * c) : ∀ d i, i + d ≤ r → partS v c 0 c d i = (v.take ((i + d) * c)).drop (i * c) := by
  intro d
  induction d with
  | zero => intro i h; rw [partS, Nat.add_zero, seg_full]
  | succ d ih =>
    intro i h
    have h1 := row_end v r c i hv (by omega)
    have h2 : (i + (d + 1)) * c ≤ v.length := by rw [hv]; exact Nat.mul_le_mul_right c h
    have h3 : (i + 1) * c = i * c + c := by rw [Nat.add_mul, Nat.one_mul]
    have h4 : (i + 1) * c ≤ (i + (d + 1)) * c := Nat.mul_le_mul_right c (by omega)
    rw [partS, ih (i + 1) (by omega), h3, show i + 1 + d = i + (d + 1) by omega, Nat.add_zero]
    exact seg_join v _ _ _ (by omega) (by omega) h2
attribute [irreducible] partS

theorem same_loop (r c r' c' : Int) (a b : List Int) (ha : a.length ≤ 9223372036854775807) (hab : a.length = b.length) : ∀ (d k i : Nat), i + d = a.length → d < k →
    pelotonref04_Same.l0 k i r c a r' c' b = some (decide (a.drop i = b.drop i)) := by
  intro d
  induction d with
  | zero =>
    intro k i hi hk
    obtain ⟨k, rfl⟩ : ∃ m, k = m + 1 := ⟨k - 1, by omega⟩
    simp only [pelotonref04_Same.l0]
    rw [if_neg (by omega), List.drop_of_length_le (by omega), List.drop_of_length_le (by omega)]; simp
  | succ d ih =>
    intro k i hi hk
    obtain ⟨k, rfl⟩ : ∃ m, k = m + 1 := ⟨k - 1, by omega⟩
    simp only [pelotonref04_Same.l0]
    rw [if_pos (by omega), if_pos (by omega), if_pos (by omega), next i _ (show i < a.length by omega) ha, ih k (i + 1) (by omega) (by omega), drop_cons a i (by omega), drop_cons b i (by omega)]
    by_cases hc : rd a (i : Int) = rd b (i : Int)
    · rw [if_pos hc]; simp [hc]
    · rw [if_neg hc]; simp [hc]
theorem same_self (r c : Int) (a : List Int) (ha : a.length ≤ 1048576) (k : Nat) (hk : 1048579 < k) : pelotonref04_Same.f k r c a r c a = some true := by
  obtain ⟨k, rfl⟩ : ∃ m, k = m + 1 := ⟨k - 1, by omega⟩
  unfold pelotonref04_Same.f
  rw [if_pos rfl, if_pos rfl]
  simp only [bne_self_eq_false, pelotonref04_Same.j0]
  rw [if_neg (by simp)]
  have := same_loop r c r c a a (by omega) rfl a.length k 0 (by omega) (by omega)
  simpa using this

def Right3 (r c : Int) (n : Nat) : Prop := 0 ≤ r ∧ r ≤ 4096 ∧ 0 ≤ c ∧ c ≤ 4096 ∧ (n : Int) = r * c
instance (r c : Int) (n : Nat) : Decidable (Right3 r c n) := by unfold Right3; infer_instance
theorem right3_m (r c : Int) (n : Nat) : RightM r c n ↔ Right3 r c n ∧ n ≤ 1048576 := by
  unfold RightM Right3
  constructor
  · rintro ⟨a, b, c, d, e, f⟩; exact ⟨⟨a, b, c, d, e⟩, f⟩
  · rintro ⟨⟨a, b, c, d, e⟩, f⟩; exact ⟨a, b, c, d, e, f⟩

theorem awake04_ok (k : Nat) (hk : 30 ≤ k) : pelotonlaw04_awake.f k = some true :=
  at_rounds pelotonlaw04_awake.mono hk (by decide +kernel)

theorem dotI_zero (a : List Int) : ∀ n, dotI a (List.replicate n 0) = 0 := by
  induction a with
  | nil => intro n; rfl
  | cons x a ih => intro n; cases n with
    | zero => rfl
    | succ n => simp only [List.replicate_succ, dotI, ih]; omega
theorem dotI_unit (a : List Int) : ∀ (n i : Nat), i < n → i < a.length → dotI a ((List.replicate n 0).set i 1) = rd a (i : Int) := by
  induction a with
  | nil => intro n i h1 h2; simp at h2
  | cons x a ih => intro n i h1 h2; cases n with
    | zero => omega
    | succ n => cases i with
      | zero => simp only [List.replicate_succ, List.set_cons_zero, dotI, dotI_zero]; rw [rd_nat _ 0 (by simp)]; simp
      | succ i =>
        simp only [List.length_cons] at h2
        simp only [List.replicate_succ, List.set_cons_succ, dotI]
        rw [ih n i (by omega) (by omega), rd_nat _ (i + 1) (by simp; omega), rd_nat a i (by omega)]; simp
theorem restp (x n : Int) (h0 : 0 < n) (h1 : n ≤ 4611686018427387904) : ∃ m : Nat, Int.tmod (wrap64 (Int.tmod x n + n)) n = m ∧ (m : Int) < n := by
  have g1 := Int.tmod_lt_of_pos x h0
  have g2 := Int.lt_tmod_of_pos x h0
  rw [wrap64_wf _ (by omega) (by omega), Int.tmod_eq_emod_of_nonneg (by omega)]
  have e1 := Int.emod_nonneg (Int.tmod x n + n) (show n ≠ 0 by omega)
  have e2 := Int.emod_lt_of_pos (Int.tmod x n + n) h0
  exact ⟨((Int.tmod x n + n) % n).toNat, by omega, by omega⟩

theorem rapply_l1 (r c : Nat) (v x o : List Int) (hv : v.length = r * c) (hxl : x.length = c) (hc : c ≤ 300) (hvl : v.length ≤ 1048576) (hw : ∀ y ∈ v, -128 ≤ y ∧ y ≤ 127) (hx : ∀ y ∈ x, -128 ≤ y ∧ y ≤ 127) (i : Nat) (hi : i < r) (ho : o.length ≤ 4096) : ∀ (d k q : Nat) (l : List Int), q + d = c → d + 400 < k → l.length ≤ q → (∀ y ∈ l, -9223372036854775808 ≤ y ∧ y ≤ 9223372036854775807) →
    pelotonref04_Apply.l1 k x o i l q r c v = pelotonref04_Apply.l0 (k - (d + 1)) x (o ++ [wrap32 (tot l + dotI ((rowOf v c i).drop q) (x.drop q))]) (wrap64 ((i : Int) + 1)) r c v := by
  have hrl := rowOf_length v r c i hv hi
  intro d
  induction d with
  | zero =>
    intro k q l hq hk hl hb
    obtain ⟨k, rfl⟩ : ∃ m, k = m + 1 := ⟨k - 1, by omega⟩
    simp only [pelotonref04_Apply.l1]
    rw [if_neg (by omega), refwrap_eq l (by omega) hb k (by omega), Option.bind_some, if_pos (by omega), List.drop_of_length_le (l := x) (by omega), dotI_nil, Int.add_zero, Nat.zero_add, Nat.add_sub_cancel]
  | succ d ih =>
    intro k q l hq hk hl hb
    obtain ⟨k, rfl⟩ : ∃ m, k = m + 1 := ⟨k - 1, by omega⟩
    have hin := row_in v r c i hv hi
    have hr := hw _ (rd_mem v (i * c + q) (by omega)); have hq2 := hx _ (rd_mem x q (by omega))
    have hrow := rowOf_rd v r c i q hv hi (by omega)
    have g1 : i * c + q < v.length := by omega
    have g2 : q < x.length := by omega
    have hp := mul32 (rd v ((i * c + q : Nat) : Int)) (rd x (q : Int)) (by omega) (by omega)
    have f1 : (q : Int) < (c : Int) := by omega
    have f2 : l.length < 17592186044416 := by omega
    have z1 := w_mul i c (by omega)
    have z2 : wrap64 (((i * c : Nat) : Int) + (q : Int)) = ((i * c + q : Nat) : Int) := by clear z1; exact w_add (i * c) q (by omega)
    have n1 : wrap64 ((q : Int) + 1) = ((q + 1 : Nat) : Int) := by clear z1 z2; exact next q c (by omega) (by omega)
    simp only [pelotonref04_Apply.l1]
    rw [if_pos f1, z1, z2, if_pos (Int.natCast_nonneg _), if_pos (Int.ofNat_lt.2 g1), if_pos (Int.natCast_nonneg _), if_pos (Int.ofNat_lt.2 g2), if_pos f2, n1]
    clear n1 z1 z2 f1 f2
    have e1 := drop_cons (rowOf v c i) q (by omega)
    have e2 := drop_cons x q (by omega)
    rw [hrow] at e1
    generalize rd v ((i * c + q : Nat) : Int) = a at *
    generalize rd x (q : Int) = b at *
    have n2 : wrap64 (wrap64 a * wrap64 b) = a * b := by
      rw [wrap64_wf a (by omega) (by omega), wrap64_wf b (by omega) (by omega)]
      generalize a * b = ab at *
      exact wrap64_wf ab (by omega) (by omega)
    rw [n2]
    clear n2
    have hb2 : ∀ y ∈ l ++ [a * b], -9223372036854775808 ≤ y ∧ y ≤ 9223372036854775807 := by
      intro y hy; rw [List.mem_append] at hy
      rcases hy with hy | hy
      · exact hb y hy
      · simp only [List.mem_singleton] at hy; subst hy
        generalize a * b = ab at *
        omega
    rw [ih k (q + 1) (l ++ [a * b]) (by omega) (by omega) (by rw [List.length_append, List.length_singleton]; omega) hb2, e1, e2, tot_append, show k + 1 - (d + 1 + 1) = k - (d + 1) by omega]
    simp only [dotI, tot]
    rw [Int.add_zero, Int.add_assoc]
theorem rapply_l0 (r c : Nat) (v x : List Int) (hv : v.length = r * c) (hxl : x.length = c) (hr : r ≤ 4096) (hc : c ≤ 300) (hvl : v.length ≤ 1048576) (hw : ∀ y ∈ v, -128 ≤ y ∧ y ≤ 127) (hx : ∀ y ∈ x, -128 ≤ y ∧ y ≤ 127) (s : Nat) (hs : c + 10 < s) : ∀ (d k i : Nat) (o : List Int), i + d = r → d * s + 1000 < k → o.length ≤ i →
    pelotonref04_Apply.l0 k x o i r c v = some (o ++ (applyS r c v x).drop i, true) := by
  intro d
  induction d with
  | zero =>
    intro k i o hi hk ho
    obtain ⟨k, rfl⟩ : ∃ m, k = m + 1 := ⟨k - 1, by omega⟩
    simp only [pelotonref04_Apply.l0]
    rw [if_neg (by omega), List.drop_of_length_le (by rw [applyS_length]; omega), List.append_nil]
  | succ d ih =>
    intro k i o hi hk ho
    obtain ⟨k, rfl⟩ : ∃ m, k = m + 1 := ⟨k - 1, by omega⟩
    rw [Nat.add_mul, Nat.one_mul] at hk
    have hk2 : d * s + 1000 < k - (c + 1) := by generalize d * s = D at *; omega
    have hk3 : c + 400 < k := by generalize d * s = D at *; omega
    have ih' := fun o' => ih (k - (c + 1)) (i + 1) o' (by omega) hk2
    clear ih hk hk2 hs
    have hir : i < r := by omega
    have hl2 := rapply_l1 r c v x o hv hxl hc hvl hw hx i hir (by omega) c k 0 [] (by omega) hk3 (Nat.le_refl _) (fun y hy => by cases hy)
    have n1 : wrap64 ((i : Int) + 1) = ((i + 1 : Nat) : Int) := next i r hir (by omega)
    have hlen : (o ++ [wrap32 (dotI (rowOf v c i) x)]).length ≤ i + 1 := by rw [List.length_append, List.length_singleton]; exact Nat.succ_le_succ ho
    have c1 : (i : Int) < (r : Int) := Int.ofNat_lt.2 hir
    simp only [tot, Int.zero_add, List.drop_zero, show ((0 : Nat) : Int) = 0 from rfl] at hl2
    rw [n1, ih' _ hlen] at hl2
    simp only [pelotonref04_Apply.l0]
    rw [if_pos c1, hl2, applyS_drop r c i v x hir, List.append_assoc, List.singleton_append]
theorem rapply_all (r c : Int) (v x : List Int) (hxl : x.length ≤ 300) (hw : ∀ y ∈ v, -128 ≤ y ∧ y ≤ 127) (hx : ∀ y ∈ x, -128 ≤ y ∧ y ≤ 127) (k : Nat) (hk : 1900000 < k) :
    pelotonref04_Apply.f k r c v x = some (if RightM r c v.length ∧ (x.length : Int) = c then (applyS r.toNat c.toNat v x, true) else ([], false)) := by
  obtain ⟨k, rfl⟩ : ∃ m, k = m + 1 := ⟨k - 1, by omega⟩
  unfold pelotonref04_Apply.f
  rw [refright_eq, Option.bind_some]
  by_cases hm : RightM r c v.length
  · rw [decide_eq_true hm, if_pos rfl]
    by_cases he : (x.length : Int) = c
    · rw [if_pos ⟨hm, he⟩, bne_eq_false_iff_eq.2 he]
      simp only [pelotonref04_Apply.j0]
      rw [if_neg (by simp)]
      obtain ⟨m1, m2, m3, m4, m5, m6⟩ := id hm
      obtain ⟨r, rfl⟩ := Int.eq_ofNat_of_zero_le m1
      obtain ⟨c, rfl⟩ := Int.eq_ofNat_of_zero_le m3
      have hv : v.length = r * c := by exact_mod_cast m5
      have hr : r ≤ 4096 := by omega
      have h1 : r * 400 + 1000 < k := Nat.lt_of_le_of_lt (Nat.add_le_add_right (Nat.mul_le_mul_right 400 hr) 1000) (Nat.lt_of_lt_of_le (by decide) (Nat.le_of_lt_succ hk))
      have ht2 := rapply_l0 r c v x hv (by omega) hr (by omega) m6 hw hx 400 (by omega) r k 0 [] (Nat.zero_add _) h1 (Nat.le_refl _)
      simpa using ht2
    · have hq : ¬ (RightM r c v.length ∧ (x.length : Int) = c) := fun h => he h.2
      rw [if_neg hq, bne_iff_ne.2 he]
      simp only [pelotonref04_Apply.j0]
      rw [if_pos trivial]
  · have hq : ¬ (RightM r c v.length ∧ (x.length : Int) = c) := fun h => hm h.1
    rw [decide_eq_false hm, if_neg hq, if_neg (by simp)]
    simp only [pelotonref04_Apply.j0]
    rw [if_pos trivial]
theorem apply_all (r c : Int) (v x : List Int) (hw : ∀ y ∈ v, -128 ≤ y ∧ y ≤ 127) (hx : ∀ y ∈ x, -128 ≤ y ∧ y ≤ 127) (k : Nat) (hk : 9000 < k) :
    matmul_Apply.f k r c v x = some (if RightM r c v.length ∧ (x.length : Int) = c then (applyS r.toNat c.toNat v x, 0) else ([], 30)) := by
  by_cases hm : RightM r c v.length ∧ (x.length : Int) = c
  · rw [if_pos hm]
    obtain ⟨hm, he⟩ := hm
    obtain ⟨m1, m2, m3, m4, m5, m6⟩ := id hm
    obtain ⟨r, rfl⟩ := Int.eq_ofNat_of_zero_le m1
    obtain ⟨c, rfl⟩ := Int.eq_ofNat_of_zero_le m3
    exact apply_eq r c v x hm (by omega) hw hx k hk
  · rw [if_neg hm]
    exact apply_bad r c v x hm k (by omega)
theorem many_all (r c : Int) (v x y : List Int) (hw : ∀ y ∈ v, -128 ≤ y ∧ y ≤ 127) (hx : ∀ y ∈ x, -128 ≤ y ∧ y ≤ 127) (hy : ∀ z ∈ y, -128 ≤ z ∧ z ≤ 127) (k : Nat) (hk : 9010 < k) :
    matmul_Many.f k r c v [x, y] = some (if RightM r c v.length ∧ (x.length : Int) = c ∧ (y.length : Int) = c then ([applyS r.toNat c.toNat v x, applyS r.toNat c.toNat v y], 0) else ([], 30)) := by
  obtain ⟨k, rfl⟩ : ∃ m, k = m + 3 := ⟨k - 3, by omega⟩
  unfold matmul_Many.f
  rw [wrong_eq, Option.bind_some]
  have z1 : wrap64 ((0 : Int) + 1) = 1 := wrap64_wf _ (by decide) (by decide)
  have z2 : wrap64 ((1 : Int) + 1) = 2 := wrap64_wf _ (by decide) (by decide)
  have e0 : rd_L3 [x, y] 0 = x := rfl
  have e1 : rd_L3 [x, y] 1 = y := rfl
  by_cases hm : RightM r c v.length
  · rw [decide_eq_true hm, if_neg (by simp)]
    have p1 : ∀ a : List Int, (RightM r c v.length ∧ (a.length : Int) = c) ↔ (a.length : Int) = c := fun a => ⟨fun h => h.2, fun h => ⟨hm, h⟩⟩
    have q1 := apply_all r c v x hw hx (k + 2) (by omega)
    have q2 := apply_all r c v y hw hy (k + 1) (by omega)
    have s1 : matmul_Many.l0 (k + 3) [] [x, y] (([x, y] : List (List Int)).length : Int) 0 r c v = (matmul_Apply.f (k + 2) r c v x).bind fun b => if b.2 = 0 then (if ([] : List (List Int)).length < 5864062014805 then matmul_Many.l0 (k + 2) ([] ++ [b.1]) [x, y] (([x, y] : List (List Int)).length : Int) (wrap64 (0 + 1)) r c v else none) else some ([], b.2) := rfl
    have s2 : ∀ o : List Int, matmul_Many.l0 (k + 2) [o] [x, y] (([x, y] : List (List Int)).length : Int) 1 r c v = (matmul_Apply.f (k + 1) r c v y).bind fun b => if b.2 = 0 then (if [o].length < 5864062014805 then matmul_Many.l0 (k + 1) ([o] ++ [b.1]) [x, y] (([x, y] : List (List Int)).length : Int) (wrap64 (1 + 1)) r c v else none) else some ([], b.2) := fun _ => rfl
    have s3 : ∀ o : List (List Int), matmul_Many.l0 (k + 1) o [x, y] (([x, y] : List (List Int)).length : Int) 2 r c v = some (o, 0) := fun _ => rfl
    rw [s1, q1, Option.bind_some]
    by_cases he : (x.length : Int) = c
    · rw [if_pos ((p1 x).2 he), if_pos rfl, if_pos (by decide), z1, List.nil_append, s2, q2, Option.bind_some]
      by_cases hf : (y.length : Int) = c
      · have hz : RightM r c v.length ∧ (x.length : Int) = c ∧ (y.length : Int) = c := ⟨hm, he, hf⟩
        rw [if_pos ((p1 y).2 hf), if_pos rfl, if_pos (by simp), z2, s3, if_pos hz]; rfl
      · have hz : ¬ (RightM r c v.length ∧ (x.length : Int) = c ∧ (y.length : Int) = c) := fun h => hf h.2.2
        rw [if_neg (fun h => hf ((p1 y).1 h)), if_neg (by decide), if_neg hz]
    · have hz : ¬ (RightM r c v.length ∧ (x.length : Int) = c ∧ (y.length : Int) = c) := fun h => he h.2.1
      rw [if_neg (fun h => he ((p1 x).1 h)), if_neg (by decide), if_neg hz]
  · have hz : ¬ (RightM r c v.length ∧ (x.length : Int) = c ∧ (y.length : Int) = c) := fun h => hm h.1
    rw [decide_eq_false hm, if_pos (by simp), if_neg hz]
theorem mright1 (k : Nat) (hk : 3 < k) (r c : Int) (v : List Int) : matmul_Right.f k [⟨r, c, v⟩] = some (decide (RightM r c v.length)) := by
  obtain ⟨k, rfl⟩ : ∃ m, k = m + 2 := ⟨k - 2, by omega⟩
  unfold matmul_Right.f api_Mat_32_at_matmul_wrong.f api_Mat_43_at_matmul_wrong.f
  have e : rd_T30 [⟨r, c, v⟩] 0 = ⟨r, c, v⟩ := rfl
  simp only [api_Mat_43_at_matmul_wrong.l0, List.length_singleton]
  rw [if_pos (by omega), if_pos (by omega), if_pos (by omega), e]
  simp only [wrong_eq, Option.bind_some]
  by_cases h : RightM r c v.length
  · rw [decide_eq_true h]; simp [wrap64]
  · rw [decide_eq_false h]; simp
theorem mright0 (k : Nat) (hk : 3 < k) : matmul_Right.f k [] = some true := by
  obtain ⟨k, rfl⟩ : ∃ m, k = m + 1 := ⟨k - 1, by omega⟩
  unfold matmul_Right.f api_Mat_32_at_matmul_wrong.f api_Mat_43_at_matmul_wrong.f
  simp [api_Mat_43_at_matmul_wrong.l0]
theorem MatmulApplies_f (r c : Int) (v x y : List Int) (hw : ∀ y ∈ v, -128 ≤ y ∧ y ≤ 127) (hx : ∀ y ∈ x, -128 ≤ y ∧ y ≤ 127) (hy : ∀ z ∈ y, -128 ≤ z ∧ z ≤ 127) (k : Nat) (hk : 2000000 < k) : pelotonlaw04_MatmulApplies.f k r c v x y = some true := by
  obtain ⟨k, rfl⟩ : ∃ m, k = m + 4 := ⟨k - 4, by omega⟩
  have ht : pelotonlaw04_MatmulApplies.j0 (k + 4) x y true r c v = some true := by
    simp only [pelotonlaw04_MatmulApplies.j0]; simp [awake04_ok (k + 3) (by omega)]
  unfold pelotonlaw04_MatmulApplies.f
  rw [awake04_ok (k + 4) (by omega)]
  simp only [Option.bind_some, if_true, pelotonlaw04_small.f]
  by_cases hs : (v.length : Int) ≤ 600
  · rw [decide_eq_true hs, if_pos rfl]
    by_cases hxs : (x.length : Int) > 300
    · rw [if_pos hxs]; exact ht
    · rw [if_neg hxs]
      by_cases hys : (y.length : Int) > 300
      · rw [decide_eq_true hys]; exact ht
      · rw [decide_eq_false hys]
        simp only [pelotonlaw04_MatmulApplies.j0]
        rw [if_neg (by simp)]
        simp only [Option.bind_some, List.nil_append, List.length_nil, Nat.zero_add]
        rw [if_pos (by omega), apply_all r c v x hw hx (k + 3) (by omega), Option.bind_some, many_all r c v x y hw hx hy (k + 3) (by omega), Option.bind_some, rapply_all r c v x (by omega) hw hx (k + 3) (by omega), Option.bind_some, rapply_all r c v y (by omega) hw hy (k + 3) (by omega), Option.bind_some, same_self r c v (by omega) (k + 3) (by omega), Option.bind_some, if_pos rfl, mright1 (k + 3) (by omega), Option.bind_some, refright_eq, Option.bind_some, bne_self_eq_false, if_neg (by simp), mright0 (k + 3) (by omega), Option.bind_some]
        have hin := fun (a : List Int) (ha : a.length ≤ 9223372036854775807) (j : Nat) (hj : a.length < j) => ints_eq a a ha j hj
        by_cases hm : RightM r c v.length
        · have hr : r.toNat ≤ 4096 := by have := hm.2.1; omega
          have hl := fun a : List Int => applyS_length r.toNat c.toNat v a
          by_cases he : (x.length : Int) = c
          · by_cases hf : (y.length : Int) = c
            · rw [if_pos ⟨hm, he⟩, if_pos ⟨hm, he, hf⟩, if_pos ⟨hm, he⟩, if_pos ⟨hm, hf⟩]
              simp only [pelotonlaw04_MatmulApplies.j1, pelotonlaw04_MatmulApplies.j2, pelotonlaw04_MatmulApplies.j3]
              have i1 := fun (a : List Int) (j : Nat) (hj : 5000 < j) => hin (applyS r.toNat c.toNat v a) (by rw [hl]; omega) j (by rw [hl]; omega)
              have e0 : rd_L4 [applyS r.toNat c.toNat v x, applyS r.toNat c.toNat v y] 0 = applyS r.toNat c.toNat v x := rfl
              have e1 : rd_L4 [applyS r.toNat c.toNat v x, applyS r.toNat c.toNat v y] 1 = applyS r.toNat c.toNat v y := rfl
              simp [i1 _ (k + 2) (by omega), i1 _ k (by omega), e0, e1]
            · rw [if_pos ⟨hm, he⟩, if_neg (show ¬ (RightM r c v.length ∧ (x.length : Int) = c ∧ (y.length : Int) = c) from fun h => hf h.2.2), if_pos ⟨hm, he⟩, if_neg (show ¬ (RightM r c v.length ∧ (y.length : Int) = c) from fun h => hf h.2)]
              have i1 := hin (applyS r.toNat c.toNat v x) (by rw [hl]; omega) (k + 2) (by rw [hl]; omega)
              simp [pelotonlaw04_MatmulApplies.j1, pelotonlaw04_MatmulApplies.j2, pelotonlaw04_MatmulApplies.j3, i1]
          · have hz1 : ¬ (RightM r c v.length ∧ (x.length : Int) = c) := fun h => he h.2
            have hz : ¬ (RightM r c v.length ∧ (x.length : Int) = c ∧ (y.length : Int) = c) := fun h => he h.2.1
            simp only [if_neg hz1, if_neg hz]
            simp [pelotonlaw04_MatmulApplies.j1, pelotonlaw04_MatmulApplies.j2, pelotonlaw04_MatmulApplies.j3]
        · have hz1 : ∀ a : List Int, ¬ (RightM r c v.length ∧ (a.length : Int) = c) := fun a h => hm h.1
          have hz : ¬ (RightM r c v.length ∧ (x.length : Int) = c ∧ (y.length : Int) = c) := fun h => hm h.1
          simp only [if_neg (hz1 x), if_neg (hz1 y), if_neg hz]
          simp [pelotonlaw04_MatmulApplies.j1, pelotonlaw04_MatmulApplies.j2, pelotonlaw04_MatmulApplies.j3]
  · rw [decide_eq_false hs, if_neg (by simp)]
    exact ht
theorem MatmulApplies : pelotonlaw04_MatmulApplies.Pure := by
  intro r c v x y ⟨hr, hc, hvm, hw⟩ ⟨hxm, hxw⟩ ⟨hym, hyw⟩
  exact ⟨2000001, MatmulApplies_f r c v x y (fun y hy => wf8 (hw y hy)) (fun y hy => wf8 (hxw y hy)) (fun y hy => wf8 (hyw y hy)) 2000001 (Nat.lt_succ_self _)⟩

end Go.Proofs.Ytananmepljeldaa.Pure
