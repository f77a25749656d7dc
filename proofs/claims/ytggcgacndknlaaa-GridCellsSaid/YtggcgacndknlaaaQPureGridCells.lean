/- GridCells: the law's plain part: what its functions compute answers true, for all arguments of its types. No condition beside the given bounds. -/
import Derived.Test.YtggcgacndknlaaaQGridCellsx5
import Derived.Test.YtggcgacndknlaaaMath
namespace Go.Proofs.Ytggcgacndknlaaa.Pure
open Go.RowKit Go.Proofs.Ytggcgacndknlaaa.QGridCells Go.Proofs.YtggcgacndknlaaaW.PrintWords Go.Proofs.YtggcgacndknlaaaW.PrintLast Go.Proofs.YtggcgacndknlaaaW.PrintMore Go.PelMath
set_option linter.unusedVariables false
set_option linter.unusedSimpArgs false
theorem wf64 {x : Int} (h : (Lit.int .i64 x).wf = true) : -9223372036854775808 ≤ x ∧ x ≤ 9223372036854775807 := by
  simp [Lit.wf, IntKind.min, IntKind.max, IntKind.bits, IntKind.signed] at h; omega
theorem wf32 {x : Int} (h : (Lit.int .i32 x).wf = true) : -2147483648 ≤ x ∧ x ≤ 2147483647 := by
  simp [Lit.wf, IntKind.min, IntKind.max, IntKind.bits, IntKind.signed] at h; omega
theorem wf8 {x : Int} (h : (Lit.int .i8 x).wf = true) : -128 ≤ x ∧ x ≤ 127 := by
  simp [Lit.wf, IntKind.min, IntKind.max, IntKind.bits, IntKind.signed] at h; omega

def nn (n : Int) : Nat := (mn (mx n 0) 62).toNat
theorem nn_le (n : Int) : nn n ≤ 62 := by unfold nn mn mx; (repeat' split) <;> omega
theorem nn_of (n : Int) (h0 : 0 ≤ n) (h1 : n ≤ 62) : nn n = n.toNat := by unfold nn mn mx; (repeat' split) <;> omega

def clamp (x a b : Int) : Int := if x < a then a else if b < x then b else x
theorem clamp_range (x a b : Int) (h : a ≤ b) : a ≤ clamp x a b ∧ clamp x a b ≤ b := by unfold clamp; (repeat' split) <;> omega
theorem clamp_mono (x y a b : Int) (h : a ≤ b) (hxy : x ≤ y) : clamp x a b ≤ clamp y a b := by unfold clamp; (repeat' split) <;> omega
theorem clamp_id (x a b : Int) (h0 : a ≤ x) (h1 : x ≤ b) : clamp x a b = x := by unfold clamp; (repeat' split) <;> omega

theorem mul32 (x y : Int) (hx : -2147483648 ≤ x ∧ x ≤ 2147483647) (hy : -2147483648 ≤ y ∧ y ≤ 2147483647) : -4611686018427387904 ≤ x * y ∧ x * y ≤ 4611686018427387904 := by
  have h := Int.natAbs_mul x y
  have h1 : x.natAbs ≤ 2147483648 := by omega
  have h2 : y.natAbs ≤ 2147483648 := by omega
  have h3 : x.natAbs * y.natAbs ≤ 2147483648 * 2147483648 := Nat.mul_le_mul h1 h2
  omega

theorem wrap32_range (x : Int) : -2147483648 ≤ wrap32 x ∧ wrap32 x ≤ 2147483647 := by unfold wrap32; omega
theorem wrap32_0 : wrap32 0 = 0 := by unfold wrap32; omega
theorem rd_nat (l : List Int) (i : Nat) (h : i < l.length) : rd l (i : Int) = l[i] := by
  unfold rd; simp [List.getD, h]
theorem drop_cons (l : List Int) (i : Nat) (h : i < l.length) : l.drop i = rd l (i : Int) :: l.drop (i + 1) := by
  rw [rd_nat l i h, List.drop_eq_getElem_cons h]
theorem rd_mem (l : List Int) (i : Nat) (h : i < l.length) : rd l (i : Int) ∈ l := by rw [rd_nat l i h]; exact List.getElem_mem h
theorem next (i n : Nat) (h : i < n) (hn : n ≤ 9223372036854775807) : wrap64 ((i : Int) + 1) = ((i + 1 : Nat) : Int) := by
  rw [wrap64_wf _ (by omega) (by omega)]; omega

def dotI : List Int → List Int → Int
  | x :: a, y :: b => x * y + dotI a b
  | _, _ => 0
def prods : List Int → List Int → List Int
  | x :: a, y :: b => x * y :: prods a b
  | _, _ => []
theorem dotI_nil (a : List Int) : dotI a [] = 0 := by cases a <;> rfl
theorem tot_prods (a : List Int) : ∀ b, tot (prods a b) = dotI a b := by
  induction a with
  | nil => intro b; rfl
  | cons x a ih => intro b; cases b with
    | nil => rfl
    | cons y b => simp only [prods, tot, dotI, ih]
theorem prods_length (a : List Int) : ∀ b, (prods a b).length ≤ a.length := by
  induction a with
  | nil => intro b; simp [prods]
  | cons x a ih => intro b; cases b with
    | nil => simp [prods]
    | cons y b => simp only [prods, List.length_cons]; have := ih b; omega

theorem dotI_split (a : List Int) : ∀ (b : List Int) (k n : Nat), k ≤ n → n = min a.length b.length →
    dotI a b = dotI (a.take k) (b.take k) + dotI ((a.take n).drop k) ((b.take n).drop k) := by
  induction a with
  | nil => intro b k n h hn; simp [dotI]
  | cons x a ih =>
    intro b k n h hn
    cases b with
    | nil => simp [dotI_nil]
    | cons y b =>
      simp only [List.length_cons] at hn
      obtain ⟨n, rfl⟩ : ∃ m, n = m + 1 := ⟨n - 1, by omega⟩
      cases k with
      | zero =>
        have := ih b 0 n (by omega) (by omega)
        simp only [List.take_zero, List.drop_zero, dotI, Int.zero_add, List.take_succ_cons] at this ⊢
        rw [this]
      | succ k =>
        have := ih b k n (by omega) (by omega)
        simp only [List.take_succ_cons, List.drop_succ_cons, dotI]
        rw [this]; omega

theorem rest9 (n : Int) (h : -9223372036854775808 ≤ n ∧ n ≤ 9223372036854775807) : ∃ m : Nat, Int.tmod (wrap64 (Int.tmod n 9 + 9)) 9 = m ∧ m ≤ 8 := by
  have h1 := Int.tmod_lt_of_pos n (show (0 : Int) < 9 by omega)
  have h2 := Int.lt_tmod_of_pos n (show (0 : Int) < 9 by omega)
  rw [wrap64_wf _ (by omega) (by omega), Int.tmod_eq_emod_of_nonneg (by omega)]
  exact ⟨((Int.tmod n 9 + 9) % 9).toNat, by omega, by omega⟩

theorem rest31 (n : Int) (h : -9223372036854775808 ≤ n ∧ n ≤ 9223372036854775807) : ∃ m : Nat, Int.tmod (wrap64 (Int.tmod n 31 + 31)) 31 = m ∧ m ≤ 30 := by
  have h1 := Int.tmod_lt_of_pos n (show (0 : Int) < 31 by omega)
  have h2 := Int.lt_tmod_of_pos n (show (0 : Int) < 31 by omega)
  rw [wrap64_wf _ (by omega) (by omega), Int.tmod_eq_emod_of_nonneg (by omega)]
  exact ⟨((Int.tmod n 31 + 31) % 31).toNat, by omega, by omega⟩

theorem mulb {a b A B : Int} (h0 : 0 ≤ a) (h1 : a ≤ A) (h2 : 0 ≤ b) (h3 : b ≤ B) : 0 ≤ a * b ∧ a * b ≤ A * B :=
  ⟨Int.mul_nonneg h0 h2, Int.mul_le_mul h1 h3 h2 (Int.le_trans h0 h1)⟩

def RightM (r c : Int) (n : Nat) : Prop := 0 ≤ r ∧ r ≤ 4096 ∧ 0 ≤ c ∧ c ≤ 4096 ∧ (n : Int) = r * c ∧ n ≤ 1048576
instance (r c : Int) (n : Nat) : Decidable (RightM r c n) := by unfold RightM; infer_instance

def rowOf (v : List Int) (c i : Nat) : List Int := (v.take ((i + 1) * c)).drop (i * c)
def applyS (r c : Nat) (v x : List Int) : List Int := (List.range r).map fun i => wrap32 (dotI (rowOf v c i) x)
theorem applyS_length (r c : Nat) (v x : List Int) : (applyS r c v x).length = r := by simp [applyS]
theorem row_in (v : List Int) (r c i : Nat) (h : v.length = r * c) (hi : i < r) : i * c + c ≤ v.length := by
  have := Nat.mul_le_mul_right c (show i + 1 ≤ r by omega)
  rw [Nat.add_mul] at this; omega
theorem rowOf_length (v : List Int) (r c i : Nat) (h : v.length = r * c) (hi : i < r) : (rowOf v c i).length = c := by
  have := row_in v r c i h hi
  simp only [rowOf, List.length_drop, List.length_take, Nat.add_mul]; omega
theorem rowOf_mem {v : List Int} {c i : Nat} {x : Int} (h : x ∈ rowOf v c i) : x ∈ v := List.mem_of_mem_take (List.mem_of_mem_drop h)
theorem rowOf_rd (v : List Int) (r c i j : Nat) (h : v.length = r * c) (hi : i < r) (hj : j < c) : rd (rowOf v c i) (j : Int) = rd v ((i * c + j : Nat) : Int) := by
  have h1 := row_in v r c i h hi
  have h2 := rowOf_length v r c i h hi
  rw [rd_nat _ j (by omega), rd_nat v _ (by omega)]
  simp only [rowOf, List.getElem_drop, List.getElem_take]
theorem map_range_drop (n i : Nat) (f : Nat → Int) (h : i < n) : ((List.range n).map f).drop i = f i :: ((List.range n).map f).drop (i + 1) := by
  rw [List.drop_eq_getElem_cons (by simpa using h)]; simp
theorem applyS_drop (r c i : Nat) (v x : List Int) (h : i < r) : (applyS r c v x).drop i = wrap32 (dotI (rowOf v c i) x) :: (applyS r c v x).drop (i + 1) := map_range_drop r i _ h
theorem applyS_rd (r c i : Nat) (v x : List Int) (h : i < r) : rd (applyS r c v x) (i : Int) = wrap32 (dotI (rowOf v c i) x) := by
  rw [rd_nat _ i (by rw [applyS_length]; exact h)]; simp [applyS]
theorem applyS_congr (r c : Nat) (v x : List Int) (f : Nat → Int) (h : ∀ i, i < r → wrap32 (dotI (rowOf v c i) x) = f i) : applyS r c v x = (List.range r).map f := by
  apply List.map_congr_left; intro i hi; exact h i (List.mem_range.1 hi)
theorem rowOf_eq (v : List Int) (c i : Nat) : (v.take ((i + 1) * c)).drop (i * c) = rowOf v c i := rfl
attribute [irreducible] rowOf applyS

def partS (v : List Int) (c lo hi : Nat) : Nat → Nat → List Int
  | 0, _ => []
  | d + 1, i => (v.take (i * c + hi)).drop (i * c + lo) ++ partS v c lo hi d (i + 1)
theorem seg_length (v : List Int) (a b : Nat) (h : b ≤ v.length) : ((v.take b).drop a).length = b - a := by
  simp only [List.length_drop, List.length_take]; omega
theorem seg_mem {v : List Int} {a b : Nat} {x : Int} (h : x ∈ (v.take b).drop a) : x ∈ v := List.mem_of_mem_take (List.mem_of_mem_drop h)
theorem seg_join (v : List Int) (a m b : Nat) (h0 : a ≤ m) (h1 : m ≤ b) (h2 : b ≤ v.length) : (v.take m).drop a ++ (v.take b).drop m = (v.take b).drop a := by
  have e : v.take m = (v.take b).take m := by rw [List.take_take, Nat.min_eq_left h1]
  have hl : (v.take b).length = b := by rw [List.length_take]; omega
  generalize v.take b = w at *
  rw [e]
  conv => rhs; rw [← List.take_append_drop m w]
  rw [List.drop_append, List.length_take]
  rw [show a - min m w.length = 0 by omega]; rfl
theorem seg_full (v : List Int) (b : Nat) : (v.take b).drop b = [] := by
  apply List.drop_eq_nil_of_le; rw [List.length_take]; omega
theorem seg_cons (v : List Int) (a b : Nat) (h0 : a < b) (h1 : b ≤ v.length) : (v.take b).drop a = rd v (a : Int) :: (v.take b).drop (a + 1) := by
  rw [List.drop_eq_getElem_cons (by rw [List.length_take]; omega), List.getElem_take, rd_nat v a (by omega)]
theorem row_end (v : List Int) (r c i : Nat) (h : v.length = r * c) (hi : i < r) : i * c + c ≤ v.length := by
  have := Nat.mul_le_mul_right c (show i + 1 ≤ r by omega)
  rw [Nat.add_mul] at this; omega
theorem partS_mem (v : List Int) (c lo hi : Nat) : ∀ d i x, x ∈ partS v c lo hi d i → x ∈ v := by
  intro d
  induction d with
  | zero => intro i x h; simp [partS] at h
  | succ d ih =>
    intro i x h
    rw [partS, List.mem_append] at h
    rcases h with h | h
    · exact seg_mem h
    · exact ih _ _ h
theorem partS_length (v : List Int) (r c lo hi : Nat) (hv : v.length = r * c) (h0 : lo ≤ hi) (h1 : hi ≤ c) : ∀ d i, i + d ≤ r → (partS v c lo hi d i).length = d * (hi - lo) := by
  intro d
  induction d with
  | zero => intro i h; simp [partS]
  | succ d ih =>
    intro i h
    have := row_end v r c i hv (by omega)
    rw [partS, List.length_append, ih (i + 1) (by omega), seg_length _ _ _ (by omega), Nat.add_mul]; omega
theorem partS_rows (v : List Int) (r c : Nat) (hv : v.length = r * c) : ∀ d i, i + d ≤ r → partS v c 0 c d i = (v.take ((i + d) * c)).drop (i * c) := by
  intro d
  induction d with
  | zero => intro i h; rw [partS, Nat.add_zero, seg_full]
  | succ d ih =>
    intro i h
    have h1 := row_end v r c i hv (by omega)
    have h2 : (i + (d + 1)) * c ≤ v.length := by rw [hv]; exact Nat.mul_le_mul_right c h
    have h3 : (i + 1) * c = i * c + c := by rw [Nat.add_mul, Nat.one_mul]
    have h4 : (i + 1) * c ≤ (i + (d + 1)) * c := Nat.mul_le_mul_right c (by omega)
    rw [partS, ih (i + 1) (by omega), h3, show i + 1 + d = i + (d + 1) by omega, Nat.add_zero]
    exact seg_join v _ _ _ (by omega) (by omega) h2
attribute [irreducible] partS

def Right3 (r c : Int) (n : Nat) : Prop := 0 ≤ r ∧ r ≤ 4096 ∧ 0 ≤ c ∧ c ≤ 4096 ∧ (n : Int) = r * c
instance (r c : Int) (n : Nat) : Decidable (Right3 r c n) := by unfold Right3; infer_instance
theorem right3_m (r c : Int) (n : Nat) : RightM r c n ↔ Right3 r c n ∧ n ≤ 1048576 := by
  unfold RightM Right3
  constructor
  · rintro ⟨a, b, c, d, e, f⟩; exact ⟨⟨a, b, c, d, e⟩, f⟩
  · rintro ⟨⟨a, b, c, d, e⟩, f⟩; exact ⟨a, b, c, d, e, f⟩

theorem gside_eq (n : Int) : grid_side.f n = some (decide (0 ≤ n ∧ n ≤ 4096)) := by
  unfold grid_side.f
  by_cases h : 0 ≤ n
  · rw [if_pos h]; simp [h]
  · rw [if_neg h]; simp [h]

theorem gright1_eq (r c : Int) (v : List Int) : grid_Right_1.f r c v = some (!decide (Right3 r c v.length)) := by
  unfold grid_Right_1.f
  rw [gside_eq, gside_eq]
  simp only [Option.bind_some, decide_eq_true_eq]
  by_cases h1 : 0 ≤ r ∧ r ≤ 4096
  · rw [if_pos h1]
    by_cases h2 : 0 ≤ c ∧ c ≤ 4096
    · rw [if_pos h2]
      have hb := mulb h1.1 h1.2 h2.1 h2.2
      rw [wrap64_wf _ (by omega) (by omega)]
      by_cases h3 : (v.length : Int) = r * c
      · have hm : Right3 r c v.length := ⟨h1.1, h1.2, h2.1, h2.2, h3⟩
        rw [decide_eq_true hm, bne_eq_false_iff_eq.2 h3]; rfl
      · rw [decide_eq_false (fun h : Right3 r c v.length => h3 h.2.2.2.2), bne_iff_ne.2 h3]; rfl
    · rw [if_neg h2, decide_eq_false (fun h => h2 ⟨h.2.2.1, h.2.2.2.1⟩)]; rfl
  · rw [if_neg h1, decide_eq_false (fun h => h1 ⟨h.1, h.2.1⟩)]; rfl

theorem right03_eq (r c : Int) (v : List Int) : pelotonref03_Right.f r c v = some (decide (Right3 r c v.length)) := by
  unfold pelotonref03_Right.f
  by_cases h1 : r ≥ 0
  · by_cases h2 : c ≥ 0
    · by_cases h3 : r ≤ 4096
      · by_cases h4 : c ≤ 4096
        · have hb := mulb h1 h3 h2 h4
          rw [if_pos h1, if_pos h2, if_pos h3, if_pos h4, wrap64_wf _ (by omega) (by omega)]
          by_cases h5 : (v.length : Int) = r * c
          · have hm : Right3 r c v.length := ⟨h1, h3, h2, h4, h5⟩
            rw [beq_iff_eq.2 h5, decide_eq_true hm]
          · rw [beq_eq_false_iff_ne.2 h5, decide_eq_false (fun h => h5 h.2.2.2.2)]
        · rw [if_pos h1, if_pos h2, if_pos h3, if_neg h4, decide_eq_false (fun h => h4 h.2.2.2.1)]
      · rw [if_pos h1, if_pos h2, if_neg h3, decide_eq_false (fun h => h3 h.2.1)]
    · rw [if_pos h1, if_neg h2, decide_eq_false (fun h => h2 h.2.2.1)]
  · rw [if_neg h1, decide_eq_false (fun h => h1 h.1)]

theorem dotI_zero (a : List Int) : ∀ n, dotI a (List.replicate n 0) = 0 := by
  induction a with
  | nil => intro n; rfl
  | cons x a ih => intro n; cases n with
    | zero => rfl
    | succ n => simp only [List.replicate_succ, dotI, ih]; omega
theorem dotI_unit (a : List Int) : ∀ (n i : Nat), i < n → i < a.length → dotI a ((List.replicate n 0).set i 1) = rd a (i : Int) := by
  induction a with
  | nil => intro n i h1 h2; simp at h2
  | cons x a ih => intro n i h1 h2; cases n with
    | zero => omega
    | succ n => cases i with
      | zero => simp only [List.replicate_succ, List.set_cons_zero, dotI, dotI_zero]; rw [rd_nat _ 0 (by simp)]; simp
      | succ i =>
        simp only [List.length_cons] at h2
        simp only [List.replicate_succ, List.set_cons_succ, dotI]
        rw [ih n i (by omega) (by omega), rd_nat _ (i + 1) (by simp; omega), rd_nat a i (by omega)]; simp
theorem restp (x n : Int) (h0 : 0 < n) (h1 : n ≤ 4611686018427387904) : ∃ m : Nat, Int.tmod (wrap64 (Int.tmod x n + n)) n = m ∧ (m : Int) < n := by
  have g1 := Int.tmod_lt_of_pos x h0
  have g2 := Int.lt_tmod_of_pos x h0
  rw [wrap64_wf _ (by omega) (by omega), Int.tmod_eq_emod_of_nonneg (by omega)]
  have e1 := Int.emod_nonneg (Int.tmod x n + n) (show n ≠ 0 by omega)
  have e2 := Int.emod_lt_of_pos (Int.tmod x n + n) h0
  exact ⟨((Int.tmod x n + n) % n).toNat, by omega, by omega⟩

theorem rd_set (l : List Int) (n p : Nat) (v : Int) (hn : n < l.length) : rd (l.set n v) (p : Int) = if n = p then v else rd l (p : Int) := by
  unfold rd
  rw [Int.toNat_natCast, List.getD_eq_getElem?_getD, List.getD_eq_getElem?_getD, List.getElem?_set]
  by_cases h : n = p
  · subst h; simp [hn]
  · simp [h]
theorem row_rd (l : List Int) (c i j : Nat) (hj : j < c) (hl : i * c + c ≤ l.length) : rd (grid_row.L l (c : Int) (i : Int)) (j : Int) = rd l ((i * c + j : Nat) : Int) := by
  have e1 : ((i : Int) * (c : Int) + (c : Int)).toNat = i * c + c := by rw [← Int.natCast_mul]; generalize i * c = D; omega
  have e2 : ((i : Int) * (c : Int)).toNat = i * c := by rw [← Int.natCast_mul]; generalize i * c = D; omega
  unfold grid_row.L
  rw [e1, e2]
  unfold rd
  rw [Int.toNat_natCast, Int.toNat_natCast, List.getD_eq_getElem?_getD, List.getD_eq_getElem?_getD, List.getElem?_drop, List.getElem?_take_of_lt (by omega)]
theorem inn_len (y : List Int) (lo x : Int) : ∀ (m : Nat) (j : Int) (xs : List Int), (grid_Times.inn y lo x m j xs).length = xs.length := by
  intro m
  induction m with
  | zero => intro j xs; rfl
  | succ m ih => intro j xs; rw [grid_Times.inn, ih, List.length_set]
theorem inn_rd (y : List Int) (lo : Nat) (x : Int) : ∀ (m j : Nat) (xs : List Int), lo + (j + m) ≤ xs.length → ∀ p : Nat, p < xs.length →
    rd (grid_Times.inn y lo x m j xs) (p : Int) = if lo + j ≤ p ∧ p < lo + j + m then wrap32 (rd xs (p : Int) + wrap32 (x * rd y ((p - lo : Nat) : Int))) else rd xs (p : Int) := by
  intro m
  induction m with
  | zero => intro j xs h p hp; rw [if_neg (by omega)]; rfl
  | succ m ih =>
    intro j xs h p hp
    have e : ((lo : Int) + (j : Int)).toNat = lo + j := by omega
    have e2 : ((j : Int) + 1) = ((j + 1 : Nat) : Int) := by omega
    have e3 : ((lo : Int) + (j : Int)) = ((lo + j : Nat) : Int) := by omega
    rw [grid_Times.inn, e, e2, ih (j + 1) _ (by rw [List.length_set]; omega) p (by rw [List.length_set]; exact hp), rd_set _ _ _ _ (by omega), e3]
    by_cases c1 : lo + j = p
    · subst c1
      rw [if_neg (by omega), if_pos rfl, if_pos (by omega), show lo + j - lo = j by omega]
    · rw [if_neg c1]
      by_cases c2 : lo + (j + 1) ≤ p ∧ p < lo + (j + 1) + m
      · rw [if_pos c2, if_pos (by omega)]
      · rw [if_neg c2, if_neg (by omega)]
def Sm (a b : List Int) (n c i j : Nat) : Nat → Int
  | 0 => 0
  | m + 1 => Sm a b n c i j m + rd a ((i * n + m : Nat) : Int) * rd b ((m * c + j : Nat) : Int)
theorem mid_len (a b : List Int) (n c i : Int) : ∀ (m : Nat) (k : Int) (xs : List Int), (grid_Times.mid a b n c i m k xs).length = xs.length := by
  intro m
  induction m with
  | zero => intro j xs; rfl
  | succ m ih => intro j xs; rw [grid_Times.mid, ih, inn_len]
theorem mul_in (r c i : Nat) (h : i < r) : i * c + c ≤ r * c := by
  have := Nat.mul_le_mul_right c (show i + 1 ≤ r from h)
  rwa [Nat.add_mul, Nat.one_mul] at this
theorem mid_rd (a b : List Int) (r n c i : Nat) (ha : a.length = r * n) (hb : b.length = n * c) (hi : i < r) : ∀ (m k : Nat) (xs : List Int), k + m ≤ n → xs.length = r * c → ∀ p : Nat, p < r * c →
    (¬ (i * c ≤ p ∧ p < i * c + c) → rd (grid_Times.mid a b n c i m k xs) (p : Int) = rd xs (p : Int)) ∧
    (∀ j, j < c → p = i * c + j → rd xs (p : Int) = wrap32 (Sm a b n c i j k) → rd (grid_Times.mid a b n c i m k xs) (p : Int) = wrap32 (Sm a b n c i j (k + m))) := by
  intro m
  induction m with
  | zero => intro k xs hk hx p hp; exact ⟨fun _ => rfl, fun j hj hpj h => h⟩
  | succ m ih =>
    intro k xs hk hx p hp
    have e2 : ((k : Int) + 1) = ((k + 1 : Nat) : Int) := by omega
    have e3 : ((i : Int) * (c : Int)) = ((i * c : Nat) : Int) := (Int.natCast_mul i c).symm
    have hic := mul_in r c i hi
    have hin := mul_in r n i hi
    have hkc := mul_in n c k (by omega)
    rw [grid_Times.mid, e2, e3, Int.toNat_natCast]
    have hi1 := inn_rd (grid_row.L b c k) (i * c) (rd (grid_row.L a n i) k) c 0 xs (by omega) p (by omega)
    obtain ⟨g1, g2⟩ := ih (k + 1) (grid_Times.inn (grid_row.L b c k) ((i * c : Nat) : Int) (rd (grid_row.L a n i) k) c 0 xs) (by omega) (by rw [inn_len]; exact hx) p hp
    constructor
    · intro hn
      rw [g1 hn]
      rw [if_neg (by omega)] at hi1
      exact hi1
    · intro j hj hpj h
      rw [g2 j hj hpj, show k + 1 + m = k + (m + 1) by omega]
      rw [if_pos (by omega), h, show p - i * c = j by omega, row_rd b c k j hj (by omega)] at hi1
      refine hi1.trans ?_
      rw [wrap32_add_left, wrap32_add_right, row_rd a n i k (by omega) (by omega)]
      rfl
theorem out_len (a b : List Int) (n c : Int) : ∀ (m : Nat) (k : Int) (xs : List Int), (grid_Times.out a b n c m k xs).length = xs.length := by
  intro m
  induction m with
  | zero => intro j xs; rfl
  | succ m ih => intro j xs; rw [grid_Times.out, ih, mid_len]
theorem idx_lt (r c i j : Nat) (hi : i < r) (hj : j < c) : i * c + j < r * c := by have := mul_in r c i hi; omega
theorem idx_ne (c i i' j : Nat) (hj : j < c) (h : i ≠ i') : ¬ (i * c ≤ i' * c + j ∧ i' * c + j < i * c + c) := by
  intro ⟨h1, h2⟩
  rcases Nat.lt_or_ge i i' with g | g
  · have := mul_in i' c i g; omega
  · have := mul_in i c i' (by omega); omega
theorem out_rd (a b : List Int) (r n c : Nat) (ha : a.length = r * n) (hb : b.length = n * c) : ∀ (m i : Nat) (xs : List Int), i + m = r → xs.length = r * c → (∀ i' j, i ≤ i' → i' < r → j < c → rd xs ((i' * c + j : Nat) : Int) = 0) → (∀ i' j, i' < i → j < c → rd xs ((i' * c + j : Nat) : Int) = wrap32 (Sm a b n c i' j n)) →
    ∀ i' j, i' < r → j < c → rd (grid_Times.out a b n c m i xs) ((i' * c + j : Nat) : Int) = wrap32 (Sm a b n c i' j n) := by
  intro m
  induction m with
  | zero => intro i xs hi hx h0 h1 i' j hi' hj; exact h1 i' j (by omega) hj
  | succ m ih =>
    intro i xs hi hx h0 h1 i' j hi' hj
    have e2 : ((i : Int) + 1) = ((i + 1 : Nat) : Int) := by omega
    rw [grid_Times.out, e2, Int.toNat_natCast]
    refine ih (i + 1) _ (by omega) (by rw [mid_len]; exact hx) ?_ ?_ i' j hi' hj
    · intro i'' j' g1 g2 g3
      have := (mid_rd a b r n c i ha hb (by omega) n 0 xs (by omega) hx (i'' * c + j') (idx_lt r c i'' j' g2 g3)).1 (idx_ne c i i'' j' g3 (by omega))
      refine Eq.trans this (h0 i'' j' (by omega) g2 g3)
    · intro i'' j' g1 g3
      obtain ⟨f1, f2⟩ := mid_rd a b r n c i ha hb (by omega) n 0 xs (by omega) hx (i'' * c + j') (idx_lt r c i'' j' (by omega) g3)
      by_cases he : i'' = i
      · subst he
        have := f2 j' g3 rfl (by rw [h0 i'' j' (Nat.le_refl _) (by omega) g3]; exact wrap32_0.symm)
        rw [Nat.zero_add] at this
        exact this
      · exact Eq.trans (f1 (idx_ne c i i'' j' g3 (fun h => he h.symm))) (h1 i'' j' (by omega) g3)
theorem take_snoc (X : List Int) (q : Nat) (h : q < X.length) : X.take q ++ [rd X (q : Int)] = X.take (q + 1) := by
  rw [List.take_add_one, rd_nat X q h, List.getElem?_eq_getElem h]; rfl

theorem rdT_nat (l : List S24) (i : Nat) (h : i < l.length) : rd_T24 l (i : Int) = l[i] := by
  unfold rd_T24; rw [Int.toNat_natCast, List.getD_eq_getElem?_getD, List.getElem?_eq_getElem h]; rfl
theorem dropT_cons (l : List S24) (i : Nat) (h : i < l.length) : l.drop i = rd_T24 l (i : Int) :: l.drop (i + 1) := by
  rw [rdT_nat l i h]; exact List.drop_eq_getElem_cons h

theorem gr_loop (l : List S24) (hl : l.length ≤ 9223372036854775807) : ∀ (d k i : Nat), i + d = l.length → d < k →
    ∃ r, api_Grid_46_at_grid_Right_1.l0 k l (l.length : Int) i = some r ∧ decide (r ≥ 0) = (l.drop i).any (fun g => !decide (Right3 g.f0 g.f1 g.f2.length)) := by
  intro d
  induction d with
  | zero =>
    intro k i hi hk
    obtain ⟨k, rfl⟩ : ∃ m, k = m + 1 := ⟨k - 1, by omega⟩
    refine ⟨-1, ?_, by rw [List.drop_of_length_le (by omega)]; rfl⟩
    simp only [api_Grid_46_at_grid_Right_1.l0]
    rw [if_neg (by omega)]
  | succ d ih =>
    intro k i hi hk
    obtain ⟨k, rfl⟩ : ∃ m, k = m + 1 := ⟨k - 1, by omega⟩
    simp only [api_Grid_46_at_grid_Right_1.l0]
    rw [if_pos (by omega), if_pos (by omega), if_pos (by omega), gright1_eq, Option.bind_some, next i _ (show i < l.length by omega) hl, dropT_cons l i (by omega), List.any_cons]
    by_cases h : Right3 (rd_T24 l (i : Int)).f0 (rd_T24 l (i : Int)).f1 (rd_T24 l (i : Int)).f2.length
    · rw [decide_eq_true h, if_neg (by simp), Bool.not_true, Bool.false_or]
      exact ih k (i + 1) (by omega) (by omega)
    · rw [decide_eq_false h, if_pos (by simp), Bool.not_false, Bool.true_or]
      exact ⟨_, rfl, decide_eq_true (by omega)⟩
theorem gf_loop (l : List S24) (hl : l.length ≤ 9223372036854775807) : ∀ (d k i : Nat), i + d = l.length → d < k →
    ∃ r, api_Grid_46_at_grid_fit_1.l0 k l (l.length : Int) i = some r ∧ decide (r ≥ 0) = (l.drop i).any (fun g => decide (¬ g.f2.length ≤ 1048576)) := by
  intro d
  induction d with
  | zero =>
    intro k i hi hk
    obtain ⟨k, rfl⟩ : ∃ m, k = m + 1 := ⟨k - 1, by omega⟩
    refine ⟨-1, ?_, by rw [List.drop_of_length_le (by omega)]; rfl⟩
    simp only [api_Grid_46_at_grid_fit_1.l0]
    rw [if_neg (by omega)]
  | succ d ih =>
    intro k i hi hk
    obtain ⟨k, rfl⟩ : ∃ m, k = m + 1 := ⟨k - 1, by omega⟩
    simp only [api_Grid_46_at_grid_fit_1.l0, grid_fit_1.f]
    rw [if_pos (by omega), if_pos (by omega), if_pos (by omega), Option.bind_some, next i _ (show i < l.length by omega) hl, dropT_cons l i (by omega), List.any_cons]
    by_cases h : (rd_T24 l (i : Int)).f2.length ≤ 1048576
    · rw [decide_eq_false (by omega), if_neg (by simp), decide_eq_false (fun g => g h), Bool.false_or]
      exact ih k (i + 1) (by omega) (by omega)
    · rw [decide_eq_true (by omega), if_pos rfl, decide_eq_true h, Bool.true_or]
      exact ⟨_, rfl, decide_eq_true (by omega)⟩
def FitG (g : S24) : Prop := RightM g.f0 g.f1 g.f2.length
instance (g : S24) : Decidable (FitG g) := by unfold FitG; infer_instance
theorem right_all (k : Nat) (l : List S24) (hl : l.length ≤ 9223372036854775806) (hk : l.length < k) : grid_Right.f k l = some (l.all fun g => decide (Right3 g.f0 g.f1 g.f2.length)) := by
  obtain ⟨r, h1, h2⟩ := gr_loop l (by omega) l.length k 0 (by omega) hk
  unfold grid_Right.f api_Grid_39_at_grid_Right_1.f api_Grid_46_at_grid_Right_1.f
  rw [show (0 : Int) = ((0 : Nat) : Int) from rfl, h1]
  simp only [Option.bind_some]
  rw [show ((0 : Nat) : Int) = (0 : Int) from rfl] at *
  rw [h2, List.drop_zero, List.all_eq_not_any_not]
theorem fit_all (k : Nat) (l : List S24) (hl : l.length ≤ 9223372036854775806) (hk : l.length < k) : grid_fit.f k l = some (l.all fun g => decide (FitG g)) := by
  obtain ⟨r, h1, h2⟩ := gf_loop l (by omega) l.length k 0 (by omega) hk
  unfold grid_fit.f api_Grid_39_at_grid_fit_1.f api_Grid_46_at_grid_fit_1.f
  rw [right_all k l hl hk, show (0 : Int) = ((0 : Nat) : Int) from rfl, h1]
  simp only [Option.bind_some]
  rw [show ((0 : Nat) : Int) = (0 : Int) from rfl] at *
  have e : ∀ g : S24, decide (FitG g) = (decide (Right3 g.f0 g.f1 g.f2.length) && decide (g.f2.length ≤ 1048576)) := by
    intro g
    rw [← Bool.decide_and]
    exact decide_eq_decide.2 (right3_m g.f0 g.f1 g.f2.length)
  by_cases c : (l.all fun g => decide (Right3 g.f0 g.f1 g.f2.length)) = true
  · rw [if_pos c, h2, List.drop_zero]
    rw [List.all_eq_true] at c
    congr 1
    rw [Bool.eq_iff_iff, List.all_eq_true, Bool.not_eq_true', List.any_eq_false]
    constructor
    · intro h g hg
      rw [e, c g hg, Bool.true_and]
      have := h g hg
      simp only [decide_eq_true_eq] at this ⊢
      omega
    · intro h g hg
      have := h g hg
      rw [e, c g hg, Bool.true_and] at this
      simp only [decide_eq_true_eq] at this ⊢
      omega
  · rw [if_neg c]
    congr 1
    symm
    rw [Bool.eq_false_iff]
    intro h
    apply c
    rw [List.all_eq_true] at h ⊢
    intro g hg
    have := h g hg
    rw [e, Bool.and_eq_true] at this
    exact this.1
theorem len2 {x y : S24} : [x, y].length ≤ 9223372036854775806 := by rw [List.length_cons, List.length_cons, List.length_nil]; omega
theorem len2k {x y : S24} (k : Nat) (h : 3 < k) : [x, y].length < k := by rw [List.length_cons, List.length_cons, List.length_nil]; omega

theorem new_eq (r c : Int) (h : 0 ≤ r ∧ r ≤ 4096 ∧ 0 ≤ c ∧ c ≤ 4096 ∧ r * c ≤ 1048576) : grid_New.f r c = some (r, c, List.replicate (r * c).toNat 0, 0) := by
  obtain ⟨h1, h2, h3, h4, h5⟩ := h
  have hb := mulb h1 h2 h3 h4
  unfold grid_New.f
  rw [gside_eq, gside_eq, decide_eq_true (show 0 ≤ r ∧ r ≤ 4096 from ⟨h1, h2⟩), decide_eq_true (show 0 ≤ c ∧ c ≤ 4096 from ⟨h3, h4⟩), Option.bind_some, if_pos rfl, Option.bind_some, if_pos rfl, wrap64_wf _ (by omega) (by omega), if_neg (by omega), if_pos hb.1, if_pos (by omega)]
theorem new_bad (r c : Int) (h : ¬ (0 ≤ r ∧ r ≤ 4096 ∧ 0 ≤ c ∧ c ≤ 4096 ∧ r * c ≤ 1048576)) : grid_New.f r c = some (0, 0, [], 30) := by
  unfold grid_New.f
  rw [gside_eq, gside_eq, Option.bind_some, Option.bind_some]
  by_cases h1 : 0 ≤ r ∧ r ≤ 4096
  · by_cases h2 : 0 ≤ c ∧ c ≤ 4096
    · have hb := mulb h1.1 h1.2 h2.1 h2.2
      rw [decide_eq_true h1, decide_eq_true h2, if_pos rfl, if_pos rfl, wrap64_wf _ (by omega) (by omega), if_pos (by omega)]
    · rw [decide_eq_true h1, decide_eq_false h2, if_pos rfl, if_neg (by simp)]
  · rw [decide_eq_false h1, if_neg (by simp)]

theorem same3_loop (r c r' c' : Int) (a b : List Int) (ha : a.length ≤ 9223372036854775807) (hab : a.length = b.length) : ∀ (d k i : Nat), i + d = a.length → d < k →
    pelotonref03_Same.l0 k i r c a r' c' b = some (decide (a.drop i = b.drop i)) := by
  intro d
  induction d with
  | zero =>
    intro k i hi hk
    obtain ⟨k, rfl⟩ : ∃ m, k = m + 1 := ⟨k - 1, by omega⟩
    simp only [pelotonref03_Same.l0]
    rw [if_neg (by omega), List.drop_of_length_le (by omega), List.drop_of_length_le (by omega)]; simp
  | succ d ih =>
    intro k i hi hk
    obtain ⟨k, rfl⟩ : ∃ m, k = m + 1 := ⟨k - 1, by omega⟩
    simp only [pelotonref03_Same.l0]
    rw [if_pos (by omega), if_pos (by omega), if_pos (by omega), next i _ (show i < a.length by omega) ha, ih k (i + 1) (by omega) (by omega), drop_cons a i (by omega), drop_cons b i (by omega)]
    by_cases hc : rd a (i : Int) = rd b (i : Int)
    · rw [if_pos hc]; simp [hc]
    · rw [if_neg hc]; simp [hc]
theorem same3_self (r c : Int) (a : List Int) (ha : a.length ≤ 1048576) (k : Nat) (hk : 1048579 < k) : pelotonref03_Same.f k r c a r c a = some true := by
  obtain ⟨k, rfl⟩ : ∃ m, k = m + 1 := ⟨k - 1, by omega⟩
  unfold pelotonref03_Same.f
  rw [if_pos rfl, if_pos rfl]
  simp only [bne_self_eq_false, pelotonref03_Same.j0]
  rw [if_neg (by simp)]
  have := same3_loop r c r c a a (by omega) rfl a.length k 0 (by omega) (by omega)
  simpa using this

theorem small_loop (l : List S24) (hl : l.length ≤ 9223372036854775806) : ∀ (d k i : Nat), i + d = l.length → d < k →
    ∃ b, pelotonlaw03_small.l0 k l i = some b ∧ (b = true → ∀ g ∈ l.drop i, g.f2.length ≤ 400) ∧ (b = true → l.length ≤ 12 ∨ l.length ≤ i) := by
  intro d
  induction d with
  | zero =>
    intro k i hi hk
    obtain ⟨k, rfl⟩ : ∃ m, k = m + 1 := ⟨k - 1, by omega⟩
    refine ⟨true, ?_, fun _ g hg => ?_, fun _ => Or.inr (by omega)⟩
    · simp only [pelotonlaw03_small.l0]; rw [if_neg (by omega)]
    · rw [List.drop_of_length_le (by omega)] at hg; cases hg
  | succ d ih =>
    intro k i hi hk
    obtain ⟨k, rfl⟩ : ∃ m, k = m + 1 := ⟨k - 1, by omega⟩
    simp only [pelotonlaw03_small.l0]
    rw [if_pos (by omega)]
    by_cases h1 : (i : Int) ≥ 12
    · exact ⟨false, by rw [if_pos h1], fun h => absurd h (by decide), fun h => absurd h (by decide)⟩
    · rw [if_neg h1, if_pos (by omega)]
      by_cases h2 : ((rd_T24 l (i : Int)).f2.length : Int) > 400
      · exact ⟨false, by rw [if_pos h2], fun h => absurd h (by decide), fun h => absurd h (by decide)⟩
      · rw [if_neg h2, next i l.length (by omega) (by omega)]
        obtain ⟨b, g1, g2, g3⟩ := ih k (i + 1) (by omega) (by omega)
        refine ⟨b, g1, fun hb g hg => ?_, fun hb => ?_⟩
        · rw [dropT_cons l i (by omega)] at hg
          rcases List.mem_cons.1 hg with hg | hg
          · subst hg; omega
          · exact g2 hb g hg
        · have := g3 hb; omega
theorem small_eq (l : List S24) (hl : l.length ≤ 9223372036854775806) (k : Nat) (hk : l.length < k) : ∃ b, pelotonlaw03_small.f k l = some b ∧ (b = true → (∀ g ∈ l, g.f2.length ≤ 400) ∧ l.length ≤ 12) := by
  obtain ⟨b, h1, h2, h3⟩ := small_loop l hl l.length k 0 (by omega) hk
  refine ⟨b, h1, fun hb => ⟨fun g hg => h2 hb g (by rw [List.drop_zero]; exact hg), ?_⟩⟩
  have := h3 hb; omega

def timesS (r n c : Nat) (a b : List Int) : List Int := grid_Times.out a b n c r 0 (List.replicate (r * c) 0)
theorem timesS_len (r n c : Nat) (a b : List Int) : (timesS r n c a b).length = r * c := by unfold timesS; rw [out_len, List.length_replicate]
theorem rd_rep (n p : Nat) : rd (List.replicate n 0) (p : Int) = 0 := by
  unfold rd; rw [Int.toNat_natCast, List.getD_eq_getElem?_getD, List.getElem?_replicate]; split <;> rfl
theorem timesS_rd (r n c : Nat) (a b : List Int) (ha : a.length = r * n) (hb : b.length = n * c) (i j : Nat) (hi : i < r) (hj : j < c) : rd (timesS r n c a b) ((i * c + j : Nat) : Int) = wrap32 (Sm a b n c i j n) :=
  out_rd a b r n c ha hb r 0 _ (Nat.zero_add _) (by rw [List.length_replicate]) (fun i' j' _ _ _ => rd_rep _ _) (fun i' j' h _ => by omega) i j hi hj
theorem times_ok (r n c : Nat) (a b : List Int) (ha : RightM r n a.length) (hb : RightM n c b.length) (hrc : r * c ≤ 1048576) (k : Nat) (hk : 3 < k) : grid_Times.f k r n a n c b = some ((r : Int), (c : Int), timesS r n c a b, 0) := by
  obtain ⟨a1, a2, a3, a4, a5, a6⟩ := id ha
  obtain ⟨b1, b2, b3, b4, b5, b6⟩ := id hb
  have e1 : ((r : Int) * (c : Int)) = ((r * c : Nat) : Int) := (Int.natCast_mul r c).symm
  have e2 : ((r : Int) * (c : Int)).toNat = r * c := by rw [e1, Int.toNat_natCast]
  have hd : grid_Times.dims r n a c b = true := decide_eq_true ⟨a1, a2, a3, a4, b3, b4, by omega, by omega⟩
  unfold grid_Times.f
  rw [fit_all k _ len2 (len2k k hk)]
  have hf : ([(⟨r, n, a⟩ : S24), ⟨n, c, b⟩].all fun g => decide (FitG g)) = true := by
    rw [List.all_cons, List.all_cons, List.all_nil, decide_eq_true (show FitG ⟨r, n, a⟩ from ha), decide_eq_true (show FitG ⟨n, c, b⟩ from hb)]; rfl
  have hl2 : [(⟨r, n, a⟩ : S24), ⟨n, c, b⟩].length = 2 := rfl
  rw [hf, Option.bind_some, if_pos rfl, if_pos rfl, new_eq r c ⟨a1, a2, b3, b4, by rw [e1]; exact Int.ofNat_le.2 hrc⟩, Option.bind_some]
  dsimp only
  rw [if_pos rfl, if_pos ⟨hd, rfl, by rw [List.length_replicate]⟩, e2, Int.toNat_natCast]
  rfl
theorem times_bad (r n m c : Int) (a b : List Int) (h : ¬ (RightM r n a.length ∧ RightM m c b.length ∧ n = m ∧ r * c ≤ 1048576)) (k : Nat) (hk : 3 < k) : grid_Times.f k r n a m c b = some (0, 0, [], 30) := by
  unfold grid_Times.f
  rw [fit_all k _ len2 (len2k k hk), List.all_cons, List.all_cons, List.all_nil, Bool.and_true, Option.bind_some]
  by_cases ha : RightM r n a.length
  · by_cases hb : RightM m c b.length
    · rw [decide_eq_true (show FitG ⟨r, n, a⟩ from ha), decide_eq_true (show FitG ⟨m, c, b⟩ from hb), if_pos (show (true && true) = true from rfl)]
      by_cases e : n = m
      · rw [if_pos e, new_bad r c (fun g => h ⟨ha, hb, e, g.2.2.2.2⟩), Option.bind_some]
        rfl
      · rw [if_neg e]
    · rw [decide_eq_false (show ¬ FitG ⟨m, c, b⟩ from hb), Bool.and_false, if_neg (by simp)]
  · rw [decide_eq_false (show ¬ FitG ⟨r, n, a⟩ from ha), Bool.false_and, if_neg (by simp)]

theorem len1 {x : S24} : [x].length ≤ 9223372036854775806 := by rw [List.length_cons, List.length_nil]; omega
theorem len1k {x : S24} (k : Nat) (h : 3 < k) : [x].length < k := by rw [List.length_cons, List.length_nil]; omega

theorem cells_end (k : Nat) (x1 x2 : Int) : pelotonlaw03_GridCells.j2 (k + 1) x1 x2 false = some true := by
  rw [pelotonlaw03_GridCells.j2, if_neg (by simp)]
  by_cases h : 0 ≤ x1 ∧ x1 ≤ 4096 ∧ 0 ≤ x2 ∧ x2 ≤ 4096 ∧ x1 * x2 ≤ 1048576
  · have hb := mulb h.1 h.2.1 h.2.2.1 h.2.2.2.1
    rw [new_eq _ _ h, Option.bind_some, wrap64_wf (x1 * x2) (by omega) (by omega)]
    dsimp only
    rw [if_neg (by omega), if_neg (by omega), if_neg (by omega), if_neg (by omega), if_neg (by omega), if_pos rfl, if_pos rfl, if_pos rfl, List.length_replicate, Int.toNat_of_nonneg hb.1, beq_self_eq_true]
  · rw [new_bad _ _ h, Option.bind_some]
    dsimp only
    by_cases h1 : x1 < 0
    · rw [if_pos h1, if_pos rfl]; rfl
    · rw [if_neg h1]
      by_cases h2 : x2 < 0
      · rw [if_pos h2, if_pos rfl]; rfl
      · rw [if_neg h2]
        by_cases h3 : x1 > 4096
        · rw [if_pos h3, if_pos rfl]; rfl
        · rw [if_neg h3]
          by_cases h4 : x2 > 4096
          · rw [if_pos h4, if_pos rfl]; rfl
          · have hb := mulb (show 0 ≤ x1 by omega) (show x1 ≤ 4096 by omega) (show 0 ≤ x2 by omega) (show x2 ≤ 4096 by omega)
            rw [if_neg h4, wrap64_wf (x1 * x2) (by omega) (by omega), if_pos (by omega), if_pos rfl]; rfl
theorem cells_j1 (k : Nat) (hk : 5 < k) (x1 x2 r c : Int) (v : List Int) (a : Int) (ok inn : Bool) (ho : ok = inn) (hi : inn = true → pelotonref03_Cell.f r c v x1 x2 = some a) (hn : inn = false → a = 0) : pelotonlaw03_GridCells.j1 (k + 1) x1 x2 (decide (Right3 r c v.length)) a ok inn r c v = some true := by
  obtain ⟨k, rfl⟩ : ∃ m, k = m + 1 := ⟨k - 1, by omega⟩
  have h0 : Right3 0 2 (([] : List Int).length) := ⟨by decide, by decide, by decide, by decide, rfl⟩
  rw [pelotonlaw03_GridCells.j1, right_all _ _ len1 (len1k _ (by omega)), Option.bind_some]
  have e2 : pelotonlaw03_two.f ([] : List Int) = some (0, 2, []) := by
    unfold pelotonlaw03_two.f
    rw [List.length_nil, wrap64_wf _ (by decide) (by decide)]; rfl
  rw [e2, Option.bind_some, right_all _ _ len2 (len2k _ (by omega)), right_all (k + 1) [] (by decide) (by simp)]
  simp only [Option.bind_some, List.all_cons, List.all_nil, Bool.and_true, decide_eq_true h0, bne_self_eq_false, Bool.false_eq_true, if_false, if_true]
  subst ho
  rw [bne_self_eq_false]
  simp only [Bool.false_eq_true, if_false]
  cases ok with
  | true => rw [if_pos rfl, hi rfl, Option.bind_some, if_pos rfl]; exact cells_end k x1 x2
  | false => rw [if_neg (by simp), hn rfl]; exact cells_end k x1 x2
theorem at_eq (k : Nat) (hk : 3 < k) (r c : Int) (v : List Int) (hv : v.length ≤ 400) (x1 x2 : Int) : grid_At.f k r c v x1 x2 = some (if Right3 r c v.length ∧ 0 ≤ x1 ∧ x1 < r ∧ 0 ≤ x2 ∧ x2 < c then (rd v (wrap64 (wrap64 (x1 * c) + x2)), true) else (0, false)) ∧
    (Right3 r c v.length ∧ 0 ≤ x1 ∧ x1 < r ∧ 0 ≤ x2 ∧ x2 < c → pelotonref03_Cell.f r c v x1 x2 = some (rd v (wrap64 (wrap64 (x1 * c) + x2)))) := by
  unfold grid_At.f pelotonref03_Cell.f
  rw [right_all _ _ len1 (len1k _ hk), List.all_cons, List.all_nil, Bool.and_true, Option.bind_some]
  by_cases h0 : Right3 r c v.length
  · rw [decide_eq_true h0, if_pos rfl]
    by_cases h1 : 0 ≤ x1 ∧ x1 < r ∧ 0 ≤ x2 ∧ x2 < c
    · have hb := mulb h0.1 h0.2.1 h0.2.2.1 h0.2.2.2.1
      have hb1 := mulb h1.1 (show x1 ≤ 4096 by have := h0.2.1; omega) h0.2.2.1 h0.2.2.2.1
      have hle : (x1 + 1) * c ≤ r * c := Int.mul_le_mul_of_nonneg_right (by omega) h0.2.2.1
      rw [Int.add_mul, Int.one_mul] at hle
      have hlen := h0.2.2.2.2
      have hc4 := h0.2.2.2.1
      have e : wrap64 (wrap64 (x1 * c) + x2) = x1 * c + x2 := by rw [wrap64_wf (x1 * c) (by omega) (by omega), wrap64_wf _ (by omega) (by omega)]
      rw [e, if_neg (by omega), if_neg (by omega), if_neg (by omega), if_neg (by omega), if_pos (show 0 ≤ x1 * c + x2 by omega), if_pos (show x1 * c + x2 < (v.length : Int) by omega), if_pos ⟨h0, h1⟩]
      exact ⟨rfl, fun _ => by rw [if_pos (show 0 ≤ x1 * c + x2 by omega), if_pos (show x1 * c + x2 < (v.length : Int) by omega)]⟩
    · rw [if_neg (show ¬ (Right3 r c v.length ∧ 0 ≤ x1 ∧ x1 < r ∧ 0 ≤ x2 ∧ x2 < c) from fun h => h1 h.2)]
      refine ⟨?_, fun h => absurd h.2 h1⟩
      by_cases g1 : x1 < 0
      · rw [if_pos g1]
      · rw [if_neg g1]
        by_cases g2 : x1 ≥ r
        · rw [if_pos g2]
        · rw [if_neg g2]
          by_cases g3 : x2 < 0
          · rw [if_pos g3]
          · rw [if_neg g3, if_pos (by omega)]
  · rw [decide_eq_false h0, if_neg (by simp), if_neg (show ¬ (Right3 r c v.length ∧ 0 ≤ x1 ∧ x1 < r ∧ 0 ≤ x2 ∧ x2 < c) from fun h => h0 h.1)]
    exact ⟨rfl, fun h => absurd h.1 h0⟩
theorem GridCells : pelotonlaw03_GridCells.Pure := by
  intro r c v x1 x2 ⟨hr, hc, hvl, hvw⟩ hx1 hx2
  refine ⟨100, ?_⟩
  obtain ⟨s, hs, hs2⟩ := small_eq [(⟨r, c, v⟩ : S24)] len1 100 (len1k 100 (by decide))
  unfold pelotonlaw03_GridCells.f pelotonlaw03_awake.f
  rw [Option.bind_some, if_pos rfl, hs, Option.bind_some]
  cases s with
  | false => rw [Bool.not_false, pelotonlaw03_GridCells.j0, if_pos rfl]; rfl
  | true =>
    have hv4 : v.length ≤ 400 := (hs2 rfl).1 ⟨r, c, v⟩ (List.mem_singleton.2 rfl)
    obtain ⟨ha, hcell⟩ := at_eq 99 (by decide) r c v hv4 x1 x2
    rw [Bool.not_true, pelotonlaw03_GridCells.j0, if_neg (by simp), right03_eq, Option.bind_some, ha, Option.bind_some]
    clear ha
    by_cases hin : Right3 r c v.length ∧ 0 ≤ x1 ∧ x1 < r ∧ 0 ≤ x2 ∧ x2 < c
    · have hcell := hcell hin
      obtain ⟨h0, h1⟩ := id hin
      simp only [if_pos hin]
      rw [if_pos (decide_eq_true h0), if_pos h1.1, if_pos h1.2.1, if_pos h1.2.2.1, decide_eq_true h1.2.2.2]
      exact cells_j1 98 (by decide) x1 x2 r c v _ true true rfl (fun _ => hcell) (fun h => by cases h)
    · simp only [if_neg hin]
      have hj := cells_j1 98 (by decide) x1 x2 r c v 0 false false rfl (fun h => by cases h) (fun _ => rfl)
      by_cases h0 : Right3 r c v.length
      · rw [if_pos (decide_eq_true h0)]
        have h1 : ¬ (0 ≤ x1 ∧ x1 < r ∧ 0 ≤ x2 ∧ x2 < c) := fun h => hin ⟨h0, h⟩
        by_cases g1 : x1 ≥ 0
        · rw [if_pos g1]
          by_cases g2 : x1 < r
          · rw [if_pos g2]
            by_cases g3 : x2 ≥ 0
            · rw [if_pos g3, show decide (x2 < c) = false from decide_eq_false (by omega)]; exact hj
            · rw [if_neg g3]; exact hj
          · rw [if_neg g2]; exact hj
        · rw [if_neg g1]; exact hj
      · have hd : ¬ decide (Right3 r c v.length) = true := by rw [decide_eq_false h0]; simp
        rw [if_neg hd]
        exact hj

end Go.Proofs.Ytggcgacndknlaaa.Pure
