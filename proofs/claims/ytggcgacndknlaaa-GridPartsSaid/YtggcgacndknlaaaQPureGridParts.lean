/- GridParts: the law's plain part: what its functions compute answers true, for all arguments of its types. No condition beside the given bounds. -/
import Derived.Test.YtggcgacndknlaaaQGridPartsx8
import Derived.Test.YtggcgacndknlaaaMath
namespace Go.Proofs.Ytggcgacndknlaaa.Pure
open Go.RowKit Go.Proofs.Ytggcgacndknlaaa.QGridParts Go.Proofs.YtggcgacndknlaaaW.PrintWords Go.Proofs.YtggcgacndknlaaaW.PrintLast Go.Proofs.YtggcgacndknlaaaW.PrintMore Go.PelMath
set_option linter.unusedVariables false
set_option linter.unusedSimpArgs false
theorem wrap32_range (x : Int) : -2147483648 ≤ wrap32 x ∧ wrap32 x ≤ 2147483647 := by unfold wrap32; omega
theorem wrap32_0 : wrap32 0 = 0 := by unfold wrap32; omega
theorem rd_nat (l : List Int) (i : Nat) (h : i < l.length) : rd l (i : Int) = l[i] := by
  unfold rd; simp [List.getD, h]
theorem drop_cons (l : List Int) (i : Nat) (h : i < l.length) : l.drop i = rd l (i : Int) :: l.drop (i + 1) := by
  rw [rd_nat l i h, List.drop_eq_getElem_cons h]
theorem rd_mem (l : List Int) (i : Nat) (h : i < l.length) : rd l (i : Int) ∈ l := by rw [rd_nat l i h]; exact List.getElem_mem h
theorem next (i n : Nat) (h : i < n) (hn : n ≤ 9223372036854775807) : wrap64 ((i : Int) + 1) = ((i + 1 : Nat) : Int) := by
  rw [wrap64_wf _ (by omega) (by omega)]; omega

theorem mulb {a b A B : Int} (h0 : 0 ≤ a) (h1 : a ≤ A) (h2 : 0 ≤ b) (h3 : b ≤ B) : 0 ≤ a * b ∧ a * b ≤ A * B :=
  ⟨Int.mul_nonneg h0 h2, Int.mul_le_mul h1 h3 h2 (Int.le_trans h0 h1)⟩

def RightM (r c : Int) (n : Nat) : Prop := 0 ≤ r ∧ r ≤ 4096 ∧ 0 ≤ c ∧ c ≤ 4096 ∧ (n : Int) = r * c ∧ n ≤ 1048576
instance (r c : Int) (n : Nat) : Decidable (RightM r c n) := by unfold RightM; infer_instance

def partS (v : List Int) (c lo hi : Nat) : Nat → Nat → List Int
  | 0, _ => []
  | d + 1, i => (v.take (i * c + hi)).drop (i * c + lo) ++ partS v c lo hi d (i + 1)
theorem seg_length (v : List Int) (a b : Nat) (h : b ≤ v.length) : ((v.take b).drop a).length = b - a := by
  simp only [List.length_drop, List.length_take]; omega
theorem seg_mem {v : List Int} {a b : Nat} {x : Int} (h : x ∈ (v.take b).drop a) : x ∈ v := List.mem_of_mem_take (List.mem_of_mem_drop h)
theorem seg_join (v : List Int) (a m b : Nat) (h0 : a ≤ m) (h1 : m ≤ b) (h2 : b ≤ v.length) : (v.take m).drop a ++ (v.take b).drop m = (v.take b).drop a := by
  have e : v.take m = (v.take b).take m := by rw [List.take_take, Nat.min_eq_left h1]
  have hl : (v.take b).length = b := by rw [List.length_take]; omega
  generalize v.take b = w at *
  rw [e]
  conv => rhs; rw [← List.take_append_drop m w]
  rw [List.drop_append, List.length_take]
  rw [show a - min m w.length = 0 by omega]; rfl
theorem seg_full (v : List Int) (b : Nat) : (v.take b).drop b = [] := by
  apply List.drop_eq_nil_of_le; rw [List.length_take]; omega
theorem seg_cons (v : List Int) (a b : Nat) (h0 : a < b) (h1 : b ≤ v.length) : (v.take b).drop a = rd v (a : Int) :: (v.take b).drop (a + 1) := by
  rw [List.drop_eq_getElem_cons (by rw [List.length_take]; omega), List.getElem_take, rd_nat v a (by omega)]
theorem row_end (v : List Int) (r c i : Nat) (h : v.length = r * c) (hi : i < r) : i * c + c ≤ v.length := by
  have := Nat.mul_le_mul_right c (show i + 1 ≤ r by omega)
  rw [Nat.add_mul] at this; omega
theorem partS_mem (v : List Int) (c lo hi : Nat) : ∀ d i x, x ∈ partS v c lo hi d i → x ∈ v := by
  intro d
  induction d with
  | zero => intro i x h; simp [partS] at h
  | succ d ih =>
    intro i x h
    rw [partS, List.mem_append] at h
    rcases h with h | h
    · exact seg_mem h
    · exact ih _ _ h
theorem partS_length (v : List Int) (r c lo hi : Nat) (hv : v.length = r * c) (h0 : lo ≤ hi) (h1 : hi ≤ c) : ∀ d i, i + d ≤ r → (partS v c lo hi d i).length = d * (hi - lo) := by
  intro d
  induction d with
  | zero => intro i h; simp [partS]
  | succ d ih =>
    intro i h
    have := row_end v r c i hv (by omega)
    rw [partS, List.length_append, ih (i + 1) (by omega), seg_length _ _ _ (by omega), Nat.add_mul]; omega
theorem partS_rows (v : List Int) (r c : Nat) (hv : v.length = r * c) : ∀ d i, i + d ≤ r → partS v c 0 c d i = (v.take ((i + d) * c)).drop (i * c) := by
  intro d
  induction d with
  | zero => intro i h; rw [partS, Nat.add_zero, seg_full]
  | succ d ih =>
    intro i h
    have h1 := row_end v r c i hv (by omega)
    have h2 : (i + (d + 1)) * c ≤ v.length := by rw [hv]; exact Nat.mul_le_mul_right c h
    have h3 : (i + 1) * c = i * c + c := by rw [Nat.add_mul, Nat.one_mul]
    have h4 : (i + 1) * c ≤ (i + (d + 1)) * c := Nat.mul_le_mul_right c (by omega)
    rw [partS, ih (i + 1) (by omega), h3, show i + 1 + d = i + (d + 1) by omega, Nat.add_zero]
    exact seg_join v _ _ _ (by omega) (by omega) h2
attribute [irreducible] partS

def Right3 (r c : Int) (n : Nat) : Prop := 0 ≤ r ∧ r ≤ 4096 ∧ 0 ≤ c ∧ c ≤ 4096 ∧ (n : Int) = r * c
instance (r c : Int) (n : Nat) : Decidable (Right3 r c n) := by unfold Right3; infer_instance
theorem right3_m (r c : Int) (n : Nat) : RightM r c n ↔ Right3 r c n ∧ n ≤ 1048576 := by
  unfold RightM Right3
  constructor
  · rintro ⟨a, b, c, d, e, f⟩; exact ⟨⟨a, b, c, d, e⟩, f⟩
  · rintro ⟨⟨a, b, c, d, e⟩, f⟩; exact ⟨a, b, c, d, e, f⟩

theorem gside_eq (n : Int) : grid_side.f n = some (decide (0 ≤ n ∧ n ≤ 4096)) := by
  unfold grid_side.f
  by_cases h : 0 ≤ n
  · rw [if_pos h]; simp [h]
  · rw [if_neg h]; simp [h]

theorem gright1_eq (r c : Int) (v : List Int) : grid_Right_1.f r c v = some (!decide (Right3 r c v.length)) := by
  unfold grid_Right_1.f
  rw [gside_eq, gside_eq]
  simp only [Option.bind_some, decide_eq_true_eq]
  by_cases h1 : 0 ≤ r ∧ r ≤ 4096
  · rw [if_pos h1]
    by_cases h2 : 0 ≤ c ∧ c ≤ 4096
    · rw [if_pos h2]
      have hb := mulb h1.1 h1.2 h2.1 h2.2
      rw [wrap64_wf _ (by omega) (by omega)]
      by_cases h3 : (v.length : Int) = r * c
      · have hm : Right3 r c v.length := ⟨h1.1, h1.2, h2.1, h2.2, h3⟩
        rw [decide_eq_true hm, bne_eq_false_iff_eq.2 h3]; rfl
      · rw [decide_eq_false (fun h : Right3 r c v.length => h3 h.2.2.2.2), bne_iff_ne.2 h3]; rfl
    · rw [if_neg h2, decide_eq_false (fun h => h2 ⟨h.2.2.1, h.2.2.2.1⟩)]; rfl
  · rw [if_neg h1, decide_eq_false (fun h => h1 ⟨h.1, h.2.1⟩)]; rfl

theorem rd_set (l : List Int) (n p : Nat) (v : Int) (hn : n < l.length) : rd (l.set n v) (p : Int) = if n = p then v else rd l (p : Int) := by
  unfold rd
  rw [Int.toNat_natCast, List.getD_eq_getElem?_getD, List.getD_eq_getElem?_getD, List.getElem?_set]
  by_cases h : n = p
  · subst h; simp [hn]
  · simp [h]
theorem row_rd (l : List Int) (c i j : Nat) (hj : j < c) (hl : i * c + c ≤ l.length) : rd (grid_row.L l (c : Int) (i : Int)) (j : Int) = rd l ((i * c + j : Nat) : Int) := by
  have e1 : ((i : Int) * (c : Int) + (c : Int)).toNat = i * c + c := by rw [← Int.natCast_mul]; generalize i * c = D; omega
  have e2 : ((i : Int) * (c : Int)).toNat = i * c := by rw [← Int.natCast_mul]; generalize i * c = D; omega
  unfold grid_row.L
  rw [e1, e2]
  unfold rd
  rw [Int.toNat_natCast, Int.toNat_natCast, List.getD_eq_getElem?_getD, List.getD_eq_getElem?_getD, List.getElem?_drop, List.getElem?_take_of_lt (by omega)]
theorem inn_len (y : List Int) (lo x : Int) : ∀ (m : Nat) (j : Int) (xs : List Int), (grid_Times.inn y lo x m j xs).length = xs.length := by
  intro m
  induction m with
  | zero => intro j xs; rfl
  | succ m ih => intro j xs; rw [grid_Times.inn, ih, List.length_set]
theorem inn_rd (y : List Int) (lo : Nat) (x : Int) : ∀ (m j : Nat) (xs : List Int), lo + (j + m) ≤ xs.length → ∀ p : Nat, p < xs.length →
    rd (grid_Times.inn y lo x m j xs) (p : Int) = if lo + j ≤ p ∧ p < lo + j + m then wrap32 (rd xs (p : Int) + wrap32 (x * rd y ((p - lo : Nat) : Int))) else rd xs (p : Int) := by
  intro m
  induction m with
  | zero => intro j xs h p hp; rw [if_neg (by omega)]; rfl
  | succ m ih =>
    intro j xs h p hp
    have e : ((lo : Int) + (j : Int)).toNat = lo + j := by omega
    have e2 : ((j : Int) + 1) = ((j + 1 : Nat) : Int) := by omega
    have e3 : ((lo : Int) + (j : Int)) = ((lo + j : Nat) : Int) := by omega
    rw [grid_Times.inn, e, e2, ih (j + 1) _ (by rw [List.length_set]; omega) p (by rw [List.length_set]; exact hp), rd_set _ _ _ _ (by omega), e3]
    by_cases c1 : lo + j = p
    · subst c1
      rw [if_neg (by omega), if_pos rfl, if_pos (by omega), show lo + j - lo = j by omega]
    · rw [if_neg c1]
      by_cases c2 : lo + (j + 1) ≤ p ∧ p < lo + (j + 1) + m
      · rw [if_pos c2, if_pos (by omega)]
      · rw [if_neg c2, if_neg (by omega)]
def Sm (a b : List Int) (n c i j : Nat) : Nat → Int
  | 0 => 0
  | m + 1 => Sm a b n c i j m + rd a ((i * n + m : Nat) : Int) * rd b ((m * c + j : Nat) : Int)
theorem mid_len (a b : List Int) (n c i : Int) : ∀ (m : Nat) (k : Int) (xs : List Int), (grid_Times.mid a b n c i m k xs).length = xs.length := by
  intro m
  induction m with
  | zero => intro j xs; rfl
  | succ m ih => intro j xs; rw [grid_Times.mid, ih, inn_len]
theorem mul_in (r c i : Nat) (h : i < r) : i * c + c ≤ r * c := by
  have := Nat.mul_le_mul_right c (show i + 1 ≤ r from h)
  rwa [Nat.add_mul, Nat.one_mul] at this
theorem mid_rd (a b : List Int) (r n c i : Nat) (ha : a.length = r * n) (hb : b.length = n * c) (hi : i < r) : ∀ (m k : Nat) (xs : List Int), k + m ≤ n → xs.length = r * c → ∀ p : Nat, p < r * c →
    (¬ (i * c ≤ p ∧ p < i * c + c) → rd (grid_Times.mid a b n c i m k xs) (p : Int) = rd xs (p : Int)) ∧
    (∀ j, j < c → p = i * c + j → rd xs (p : Int) = wrap32 (Sm a b n c i j k) → rd (grid_Times.mid a b n c i m k xs) (p : Int) = wrap32 (Sm a b n c i j (k + m))) := by
  intro m
  induction m with
  | zero => intro k xs hk hx p hp; exact ⟨fun _ => rfl, fun j hj hpj h => h⟩
  | succ m ih =>
    intro k xs hk hx p hp
    have e2 : ((k : Int) + 1) = ((k + 1 : Nat) : Int) := by omega
    have e3 : ((i : Int) * (c : Int)) = ((i * c : Nat) : Int) := (Int.natCast_mul i c).symm
    have hic := mul_in r c i hi
    have hin := mul_in r n i hi
    have hkc := mul_in n c k (by omega)
    rw [grid_Times.mid, e2, e3, Int.toNat_natCast]
    have hi1 := inn_rd (grid_row.L b c k) (i * c) (rd (grid_row.L a n i) k) c 0 xs (by omega) p (by omega)
    obtain ⟨g1, g2⟩ := ih (k + 1) (grid_Times.inn (grid_row.L b c k) ((i * c : Nat) : Int) (rd (grid_row.L a n i) k) c 0 xs) (by omega) (by rw [inn_len]; exact hx) p hp
    constructor
    · intro hn
      rw [g1 hn]
      rw [if_neg (by omega)] at hi1
      exact hi1
    · intro j hj hpj h
      rw [g2 j hj hpj, show k + 1 + m = k + (m + 1) by omega]
      rw [if_pos (by omega), h, show p - i * c = j by omega, row_rd b c k j hj (by omega)] at hi1
      refine hi1.trans ?_
      rw [wrap32_add_left, wrap32_add_right, row_rd a n i k (by omega) (by omega)]
      rfl
theorem out_len (a b : List Int) (n c : Int) : ∀ (m : Nat) (k : Int) (xs : List Int), (grid_Times.out a b n c m k xs).length = xs.length := by
  intro m
  induction m with
  | zero => intro j xs; rfl
  | succ m ih => intro j xs; rw [grid_Times.out, ih, mid_len]
theorem idx_lt (r c i j : Nat) (hi : i < r) (hj : j < c) : i * c + j < r * c := by have := mul_in r c i hi; omega
theorem idx_ne (c i i' j : Nat) (hj : j < c) (h : i ≠ i') : ¬ (i * c ≤ i' * c + j ∧ i' * c + j < i * c + c) := by
  intro ⟨h1, h2⟩
  rcases Nat.lt_or_ge i i' with g | g
  · have := mul_in i' c i g; omega
  · have := mul_in i c i' (by omega); omega
theorem out_rd (a b : List Int) (r n c : Nat) (ha : a.length = r * n) (hb : b.length = n * c) : ∀ (m i : Nat) (xs : List Int), i + m = r → xs.length = r * c → (∀ i' j, i ≤ i' → i' < r → j < c → rd xs ((i' * c + j : Nat) : Int) = 0) → (∀ i' j, i' < i → j < c → rd xs ((i' * c + j : Nat) : Int) = wrap32 (Sm a b n c i' j n)) →
    ∀ i' j, i' < r → j < c → rd (grid_Times.out a b n c m i xs) ((i' * c + j : Nat) : Int) = wrap32 (Sm a b n c i' j n) := by
  intro m
  induction m with
  | zero => intro i xs hi hx h0 h1 i' j hi' hj; exact h1 i' j (by omega) hj
  | succ m ih =>
    intro i xs hi hx h0 h1 i' j hi' hj
    have e2 : ((i : Int) + 1) = ((i + 1 : Nat) : Int) := by omega
    rw [grid_Times.out, e2, Int.toNat_natCast]
    refine ih (i + 1) _ (by omega) (by rw [mid_len]; exact hx) ?_ ?_ i' j hi' hj
    · intro i'' j' g1 g2 g3
      have := (mid_rd a b r n c i ha hb (by omega) n 0 xs (by omega) hx (i'' * c + j') (idx_lt r c i'' j' g2 g3)).1 (idx_ne c i i'' j' g3 (by omega))
      refine Eq.trans this (h0 i'' j' (by omega) g2 g3)
    · intro i'' j' g1 g3
      obtain ⟨f1, f2⟩ := mid_rd a b r n c i ha hb (by omega) n 0 xs (by omega) hx (i'' * c + j') (idx_lt r c i'' j' (by omega) g3)
      by_cases he : i'' = i
      · subst he
        have := f2 j' g3 rfl (by rw [h0 i'' j' (Nat.le_refl _) (by omega) g3]; exact wrap32_0.symm)
        rw [Nat.zero_add] at this
        exact this
      · exact Eq.trans (f1 (idx_ne c i i'' j' g3 (fun h => he h.symm))) (h1 i'' j' (by omega) g3)
theorem take_snoc (X : List Int) (q : Nat) (h : q < X.length) : X.take q ++ [rd X (q : Int)] = X.take (q + 1) := by
  rw [List.take_add_one, rd_nat X q h, List.getElem?_eq_getElem h]; rfl

theorem rdT_nat (l : List S24) (i : Nat) (h : i < l.length) : rd_T24 l (i : Int) = l[i] := by
  unfold rd_T24; rw [Int.toNat_natCast, List.getD_eq_getElem?_getD, List.getElem?_eq_getElem h]; rfl
theorem dropT_cons (l : List S24) (i : Nat) (h : i < l.length) : l.drop i = rd_T24 l (i : Int) :: l.drop (i + 1) := by
  rw [rdT_nat l i h]; exact List.drop_eq_getElem_cons h

theorem gr_loop (l : List S24) (hl : l.length ≤ 9223372036854775807) : ∀ (d k i : Nat), i + d = l.length → d < k →
    ∃ r, api_Grid_46_at_grid_Right_1.l0 k l (l.length : Int) i = some r ∧ decide (r ≥ 0) = (l.drop i).any (fun g => !decide (Right3 g.f0 g.f1 g.f2.length)) := by
  intro d
  induction d with
  | zero =>
    intro k i hi hk
    obtain ⟨k, rfl⟩ : ∃ m, k = m + 1 := ⟨k - 1, by omega⟩
    refine ⟨-1, ?_, by rw [List.drop_of_length_le (by omega)]; rfl⟩
    simp only [api_Grid_46_at_grid_Right_1.l0]
    rw [if_neg (by omega)]
  | succ d ih =>
    intro k i hi hk
    obtain ⟨k, rfl⟩ : ∃ m, k = m + 1 := ⟨k - 1, by omega⟩
    simp only [api_Grid_46_at_grid_Right_1.l0]
    rw [if_pos (by omega), if_pos (by omega), if_pos (by omega), gright1_eq, Option.bind_some, next i _ (show i < l.length by omega) hl, dropT_cons l i (by omega), List.any_cons]
    by_cases h : Right3 (rd_T24 l (i : Int)).f0 (rd_T24 l (i : Int)).f1 (rd_T24 l (i : Int)).f2.length
    · rw [decide_eq_true h, if_neg (by simp), Bool.not_true, Bool.false_or]
      exact ih k (i + 1) (by omega) (by omega)
    · rw [decide_eq_false h, if_pos (by simp), Bool.not_false, Bool.true_or]
      exact ⟨_, rfl, decide_eq_true (by omega)⟩
theorem gf_loop (l : List S24) (hl : l.length ≤ 9223372036854775807) : ∀ (d k i : Nat), i + d = l.length → d < k →
    ∃ r, api_Grid_46_at_grid_fit_1.l0 k l (l.length : Int) i = some r ∧ decide (r ≥ 0) = (l.drop i).any (fun g => decide (¬ g.f2.length ≤ 1048576)) := by
  intro d
  induction d with
  | zero =>
    intro k i hi hk
    obtain ⟨k, rfl⟩ : ∃ m, k = m + 1 := ⟨k - 1, by omega⟩
    refine ⟨-1, ?_, by rw [List.drop_of_length_le (by omega)]; rfl⟩
    simp only [api_Grid_46_at_grid_fit_1.l0]
    rw [if_neg (by omega)]
  | succ d ih =>
    intro k i hi hk
    obtain ⟨k, rfl⟩ : ∃ m, k = m + 1 := ⟨k - 1, by omega⟩
    simp only [api_Grid_46_at_grid_fit_1.l0, grid_fit_1.f]
    rw [if_pos (by omega), if_pos (by omega), if_pos (by omega), Option.bind_some, next i _ (show i < l.length by omega) hl, dropT_cons l i (by omega), List.any_cons]
    by_cases h : (rd_T24 l (i : Int)).f2.length ≤ 1048576
    · rw [decide_eq_false (by omega), if_neg (by simp), decide_eq_false (fun g => g h), Bool.false_or]
      exact ih k (i + 1) (by omega) (by omega)
    · rw [decide_eq_true (by omega), if_pos rfl, decide_eq_true h, Bool.true_or]
      exact ⟨_, rfl, decide_eq_true (by omega)⟩
def FitG (g : S24) : Prop := RightM g.f0 g.f1 g.f2.length
instance (g : S24) : Decidable (FitG g) := by unfold FitG; infer_instance
theorem right_all (k : Nat) (l : List S24) (hl : l.length ≤ 9223372036854775806) (hk : l.length < k) : grid_Right.f k l = some (l.all fun g => decide (Right3 g.f0 g.f1 g.f2.length)) := by
  obtain ⟨r, h1, h2⟩ := gr_loop l (by omega) l.length k 0 (by omega) hk
  unfold grid_Right.f api_Grid_39_at_grid_Right_1.f api_Grid_46_at_grid_Right_1.f
  rw [show (0 : Int) = ((0 : Nat) : Int) from rfl, h1]
  simp only [Option.bind_some]
  rw [show ((0 : Nat) : Int) = (0 : Int) from rfl] at *
  rw [h2, List.drop_zero, List.all_eq_not_any_not]
theorem fit_all (k : Nat) (l : List S24) (hl : l.length ≤ 9223372036854775806) (hk : l.length < k) : grid_fit.f k l = some (l.all fun g => decide (FitG g)) := by
  obtain ⟨r, h1, h2⟩ := gf_loop l (by omega) l.length k 0 (by omega) hk
  unfold grid_fit.f api_Grid_39_at_grid_fit_1.f api_Grid_46_at_grid_fit_1.f
  rw [right_all k l hl hk, show (0 : Int) = ((0 : Nat) : Int) from rfl, h1]
  simp only [Option.bind_some]
  rw [show ((0 : Nat) : Int) = (0 : Int) from rfl] at *
  have e : ∀ g : S24, decide (FitG g) = (decide (Right3 g.f0 g.f1 g.f2.length) && decide (g.f2.length ≤ 1048576)) := by
    intro g
    rw [← Bool.decide_and]
    exact decide_eq_decide.2 (right3_m g.f0 g.f1 g.f2.length)
  by_cases c : (l.all fun g => decide (Right3 g.f0 g.f1 g.f2.length)) = true
  · rw [if_pos c, h2, List.drop_zero]
    rw [List.all_eq_true] at c
    congr 1
    rw [Bool.eq_iff_iff, List.all_eq_true, Bool.not_eq_true', List.any_eq_false]
    constructor
    · intro h g hg
      rw [e, c g hg, Bool.true_and]
      have := h g hg
      simp only [decide_eq_true_eq] at this ⊢
      omega
    · intro h g hg
      have := h g hg
      rw [e, c g hg, Bool.true_and] at this
      simp only [decide_eq_true_eq] at this ⊢
      omega
  · rw [if_neg c]
    congr 1
    symm
    rw [Bool.eq_false_iff]
    intro h
    apply c
    rw [List.all_eq_true] at h ⊢
    intro g hg
    have := h g hg
    rw [e, Bool.and_eq_true] at this
    exact this.1
theorem len2 {x y : S24} : [x, y].length ≤ 9223372036854775806 := by rw [List.length_cons, List.length_cons, List.length_nil]; omega
theorem len2k {x y : S24} (k : Nat) (h : 3 < k) : [x, y].length < k := by rw [List.length_cons, List.length_cons, List.length_nil]; omega

theorem new_eq (r c : Int) (h : 0 ≤ r ∧ r ≤ 4096 ∧ 0 ≤ c ∧ c ≤ 4096 ∧ r * c ≤ 1048576) : grid_New.f r c = some (r, c, List.replicate (r * c).toNat 0, 0) := by
  obtain ⟨h1, h2, h3, h4, h5⟩ := h
  have hb := mulb h1 h2 h3 h4
  unfold grid_New.f
  rw [gside_eq, gside_eq, decide_eq_true (show 0 ≤ r ∧ r ≤ 4096 from ⟨h1, h2⟩), decide_eq_true (show 0 ≤ c ∧ c ≤ 4096 from ⟨h3, h4⟩), Option.bind_some, if_pos rfl, Option.bind_some, if_pos rfl, wrap64_wf _ (by omega) (by omega), if_neg (by omega), if_pos hb.1, if_pos (by omega)]
theorem new_bad (r c : Int) (h : ¬ (0 ≤ r ∧ r ≤ 4096 ∧ 0 ≤ c ∧ c ≤ 4096 ∧ r * c ≤ 1048576)) : grid_New.f r c = some (0, 0, [], 30) := by
  unfold grid_New.f
  rw [gside_eq, gside_eq, Option.bind_some, Option.bind_some]
  by_cases h1 : 0 ≤ r ∧ r ≤ 4096
  · by_cases h2 : 0 ≤ c ∧ c ≤ 4096
    · have hb := mulb h1.1 h1.2 h2.1 h2.2
      rw [decide_eq_true h1, decide_eq_true h2, if_pos rfl, if_pos rfl, wrap64_wf _ (by omega) (by omega), if_pos (by omega)]
    · rw [decide_eq_true h1, decide_eq_false h2, if_pos rfl, if_neg (by simp)]
  · rw [decide_eq_false h1, if_neg (by simp)]

theorem same3_loop (r c r' c' : Int) (a b : List Int) (ha : a.length ≤ 9223372036854775807) (hab : a.length = b.length) : ∀ (d k i : Nat), i + d = a.length → d < k →
    pelotonref03_Same.l0 k i r c a r' c' b = some (decide (a.drop i = b.drop i)) := by
  intro d
  induction d with
  | zero =>
    intro k i hi hk
    obtain ⟨k, rfl⟩ : ∃ m, k = m + 1 := ⟨k - 1, by omega⟩
    simp only [pelotonref03_Same.l0]
    rw [if_neg (by omega), List.drop_of_length_le (by omega), List.drop_of_length_le (by omega)]; simp
  | succ d ih =>
    intro k i hi hk
    obtain ⟨k, rfl⟩ : ∃ m, k = m + 1 := ⟨k - 1, by omega⟩
    simp only [pelotonref03_Same.l0]
    rw [if_pos (by omega), if_pos (by omega), if_pos (by omega), next i _ (show i < a.length by omega) ha, ih k (i + 1) (by omega) (by omega), drop_cons a i (by omega), drop_cons b i (by omega)]
    by_cases hc : rd a (i : Int) = rd b (i : Int)
    · rw [if_pos hc]; simp [hc]
    · rw [if_neg hc]; simp [hc]
theorem same3_self (r c : Int) (a : List Int) (ha : a.length ≤ 1048576) (k : Nat) (hk : 1048579 < k) : pelotonref03_Same.f k r c a r c a = some true := by
  obtain ⟨k, rfl⟩ : ∃ m, k = m + 1 := ⟨k - 1, by omega⟩
  unfold pelotonref03_Same.f
  rw [if_pos rfl, if_pos rfl]
  simp only [bne_self_eq_false, pelotonref03_Same.j0]
  rw [if_neg (by simp)]
  have := same3_loop r c r c a a (by omega) rfl a.length k 0 (by omega) (by omega)
  simpa using this

theorem held_ok (r c : Int) (a : List Int) (ha : a.length ≤ 1048576) (k : Nat) (hk : 1048579 < k) : pelotonlaw03_held.f k r c a 0 r c a true = some true := by
  unfold pelotonlaw03_held.f
  rw [if_pos rfl, if_pos rfl, same3_self r c a ha k hk]; rfl
theorem held_no (r c : Int) (a : List Int) (k : Nat) (hk : 1048579 < k) : pelotonlaw03_held.f k 0 0 [] 30 r c a false = some true := by
  unfold pelotonlaw03_held.f
  rw [if_neg (by simp), if_pos rfl, same3_self 0 0 [] (Nat.zero_le _) k hk]; rfl

theorem small_loop (l : List S24) (hl : l.length ≤ 9223372036854775806) : ∀ (d k i : Nat), i + d = l.length → d < k →
    ∃ b, pelotonlaw03_small.l0 k l i = some b ∧ (b = true → ∀ g ∈ l.drop i, g.f2.length ≤ 400) ∧ (b = true → l.length ≤ 12 ∨ l.length ≤ i) := by
  intro d
  induction d with
  | zero =>
    intro k i hi hk
    obtain ⟨k, rfl⟩ : ∃ m, k = m + 1 := ⟨k - 1, by omega⟩
    refine ⟨true, ?_, fun _ g hg => ?_, fun _ => Or.inr (by omega)⟩
    · simp only [pelotonlaw03_small.l0]; rw [if_neg (by omega)]
    · rw [List.drop_of_length_le (by omega)] at hg; cases hg
  | succ d ih =>
    intro k i hi hk
    obtain ⟨k, rfl⟩ : ∃ m, k = m + 1 := ⟨k - 1, by omega⟩
    simp only [pelotonlaw03_small.l0]
    rw [if_pos (by omega)]
    by_cases h1 : (i : Int) ≥ 12
    · exact ⟨false, by rw [if_pos h1], fun h => absurd h (by decide), fun h => absurd h (by decide)⟩
    · rw [if_neg h1, if_pos (by omega)]
      by_cases h2 : ((rd_T24 l (i : Int)).f2.length : Int) > 400
      · exact ⟨false, by rw [if_pos h2], fun h => absurd h (by decide), fun h => absurd h (by decide)⟩
      · rw [if_neg h2, next i l.length (by omega) (by omega)]
        obtain ⟨b, g1, g2, g3⟩ := ih k (i + 1) (by omega) (by omega)
        refine ⟨b, g1, fun hb g hg => ?_, fun hb => ?_⟩
        · rw [dropT_cons l i (by omega)] at hg
          rcases List.mem_cons.1 hg with hg | hg
          · subst hg; omega
          · exact g2 hb g hg
        · have := g3 hb; omega
theorem small_eq (l : List S24) (hl : l.length ≤ 9223372036854775806) (k : Nat) (hk : l.length < k) : ∃ b, pelotonlaw03_small.f k l = some b ∧ (b = true → (∀ g ∈ l, g.f2.length ≤ 400) ∧ l.length ≤ 12) := by
  obtain ⟨b, h1, h2, h3⟩ := small_loop l hl l.length k 0 (by omega) hk
  refine ⟨b, h1, fun hb => ⟨fun g hg => h2 hb g (by rw [List.drop_zero]; exact hg), ?_⟩⟩
  have := h3 hb; omega

def timesS (r n c : Nat) (a b : List Int) : List Int := grid_Times.out a b n c r 0 (List.replicate (r * c) 0)
theorem timesS_len (r n c : Nat) (a b : List Int) : (timesS r n c a b).length = r * c := by unfold timesS; rw [out_len, List.length_replicate]
theorem rd_rep (n p : Nat) : rd (List.replicate n 0) (p : Int) = 0 := by
  unfold rd; rw [Int.toNat_natCast, List.getD_eq_getElem?_getD, List.getElem?_replicate]; split <;> rfl
theorem timesS_rd (r n c : Nat) (a b : List Int) (ha : a.length = r * n) (hb : b.length = n * c) (i j : Nat) (hi : i < r) (hj : j < c) : rd (timesS r n c a b) ((i * c + j : Nat) : Int) = wrap32 (Sm a b n c i j n) :=
  out_rd a b r n c ha hb r 0 _ (Nat.zero_add _) (by rw [List.length_replicate]) (fun i' j' _ _ _ => rd_rep _ _) (fun i' j' h _ => by omega) i j hi hj
theorem times_ok (r n c : Nat) (a b : List Int) (ha : RightM r n a.length) (hb : RightM n c b.length) (hrc : r * c ≤ 1048576) (k : Nat) (hk : 3 < k) : grid_Times.f k r n a n c b = some ((r : Int), (c : Int), timesS r n c a b, 0) := by
  obtain ⟨a1, a2, a3, a4, a5, a6⟩ := id ha
  obtain ⟨b1, b2, b3, b4, b5, b6⟩ := id hb
  have e1 : ((r : Int) * (c : Int)) = ((r * c : Nat) : Int) := (Int.natCast_mul r c).symm
  have e2 : ((r : Int) * (c : Int)).toNat = r * c := by rw [e1, Int.toNat_natCast]
  have hd : grid_Times.dims r n a c b = true := decide_eq_true ⟨a1, a2, a3, a4, b3, b4, by omega, by omega⟩
  unfold grid_Times.f
  rw [fit_all k _ len2 (len2k k hk)]
  have hf : ([(⟨r, n, a⟩ : S24), ⟨n, c, b⟩].all fun g => decide (FitG g)) = true := by
    rw [List.all_cons, List.all_cons, List.all_nil, decide_eq_true (show FitG ⟨r, n, a⟩ from ha), decide_eq_true (show FitG ⟨n, c, b⟩ from hb)]; rfl
  have hl2 : [(⟨r, n, a⟩ : S24), ⟨n, c, b⟩].length = 2 := rfl
  rw [hf, Option.bind_some, if_pos rfl, if_pos rfl, new_eq r c ⟨a1, a2, b3, b4, by rw [e1]; exact Int.ofNat_le.2 hrc⟩, Option.bind_some]
  dsimp only
  rw [if_pos rfl, if_pos ⟨hd, rfl, by rw [List.length_replicate]⟩, e2, Int.toNat_natCast]
  rfl
theorem times_bad (r n m c : Int) (a b : List Int) (h : ¬ (RightM r n a.length ∧ RightM m c b.length ∧ n = m ∧ r * c ≤ 1048576)) (k : Nat) (hk : 3 < k) : grid_Times.f k r n a m c b = some (0, 0, [], 30) := by
  unfold grid_Times.f
  rw [fit_all k _ len2 (len2k k hk), List.all_cons, List.all_cons, List.all_nil, Bool.and_true, Option.bind_some]
  by_cases ha : RightM r n a.length
  · by_cases hb : RightM m c b.length
    · rw [decide_eq_true (show FitG ⟨r, n, a⟩ from ha), decide_eq_true (show FitG ⟨m, c, b⟩ from hb), if_pos (show (true && true) = true from rfl)]
      by_cases e : n = m
      · rw [if_pos e, new_bad r c (fun g => h ⟨ha, hb, e, g.2.2.2.2⟩), Option.bind_some]
        rfl
      · rw [if_neg e]
    · rw [decide_eq_false (show ¬ FitG ⟨m, c, b⟩ from hb), Bool.and_false, if_neg (by simp)]
  · rw [decide_eq_false (show ¬ FitG ⟨r, n, a⟩ from ha), Bool.false_and, if_neg (by simp)]

theorem len1 {x : S24} : [x].length ≤ 9223372036854775806 := by rw [List.length_cons, List.length_nil]; omega
theorem len1k {x : S24} (k : Nat) (h : 3 < k) : [x].length < k := by rw [List.length_cons, List.length_nil]; omega

theorem gcut_eq (k : Nat) (hk : 3 < k) (r c : Int) (v : List Int) (a b n : Int) : grid_cut.f k r c v a b n = some (if RightM r c v.length then (if 0 ≤ a ∧ a ≤ b ∧ b ≤ n then 0 else 2) else 30) := by
  unfold grid_cut.f
  rw [fit_all _ _ len1 (len1k _ hk), List.all_cons, List.all_nil, Bool.and_true, Option.bind_some]
  by_cases h : RightM r c v.length
  · rw [decide_eq_true (show FitG ⟨r, c, v⟩ from h), if_pos rfl, if_pos h]
    by_cases h1 : a < 0
    · rw [if_pos h1, if_neg (by omega)]
    · rw [if_neg h1]
      by_cases h2 : a > b
      · rw [if_pos h2, if_neg (by omega)]
      · rw [if_neg h2]
        by_cases h3 : b > n
        · rw [if_pos h3, if_neg (by omega)]
        · rw [if_neg h3, if_pos (by omega)]
  · rw [decide_eq_false (show ¬ FitG ⟨r, c, v⟩ from h), if_neg (by simp), if_neg h]

theorem gclone_eq (l : List Int) (h : l.length < 35184372088832) : slices_Clone_int32_int32.f l = some l := by
  unfold slices_Clone_int32_int32.f
  rw [Option.bind_some, if_pos (by rw [List.length_nil]; omega), List.nil_append]
theorem grows_no (k : Nat) (hk : 3 < k) (r c : Int) (v : List Int) (lo hi e : Int) (he : e ≠ 0) (h : (if RightM r c v.length then (if 0 ≤ lo ∧ lo ≤ hi ∧ hi ≤ r then 0 else 2) else 30) = e) : grid_Rows.f k r c v lo hi = some (0, 0, [], e) := by
  unfold grid_Rows.f
  rw [gcut_eq k hk, h, Option.bind_some, if_neg he]
theorem grows_eq (k : Nat) (hk : 3 < k) (r c : Nat) (v : List Int) (lo hi : Nat) (h : RightM r c v.length) (h0 : lo ≤ hi) (h1 : hi ≤ r) : grid_Rows.f k r c v lo hi = some (((hi - lo : Nat) : Int), (c : Int), (v.take (hi * c)).drop (lo * c), 0) := by
  obtain ⟨m1, m2, m3, m4, m5, m6⟩ := id h
  have hv : v.length = r * c := by rw [← Int.natCast_mul] at m5; exact Int.ofNat_inj.1 m5
  have e1 : lo * c ≤ hi * c := Nat.mul_le_mul_right c h0
  have e2 : hi * c ≤ v.length := by rw [hv]; exact Nat.mul_le_mul_right c h1
  have hl : ((v.take (hi * c)).drop (lo * c)).length < 35184372088832 := Nat.lt_of_le_of_lt (Nat.le_trans (by rw [seg_length v _ _ e2]; exact Nat.sub_le _ _) (Nat.le_trans e2 m6)) (by decide)
  have eA := w_mul lo c (by omega)
  have eB := w_mul hi c (by omega)
  unfold grid_Rows.f
  rw [gcut_eq k hk, if_pos h, if_pos ⟨Int.natCast_nonneg lo, Int.ofNat_le.2 h0, Int.ofNat_le.2 h1⟩, Option.bind_some, if_pos rfl, eA, eB, w_sub hi lo h0 (by omega), if_pos (Int.natCast_nonneg _), if_pos (Int.ofNat_le.2 e1), if_pos (Int.ofNat_le.2 e2), Int.toNat_natCast, Int.toNat_natCast, gclone_eq _ hl, Option.bind_some]

theorem grow_eq (r c : Nat) (v : List Int) (i : Nat) (hv : v.length = r * c) (hi : i < r) (hr : r ≤ 4096) (hc : c ≤ 4096) : grid_row.f r c v i = some (grid_row.L v c i) := by
  have h1 := row_end v r c i hv hi
  have e : ((i : Int) + 1) * (c : Int) = ((i * c + c : Nat) : Int) := by rw [Int.add_mul, Int.one_mul, Int.natCast_add, Int.natCast_mul]
  have h2 : ((i : Int) + 1) * (c : Int) ≤ (v.length : Int) := by rw [e]; exact Int.ofNat_le.2 h1
  unfold grid_row.f
  rw [if_pos ⟨Int.natCast_nonneg i, by omega, Int.natCast_nonneg c, by omega, h2⟩]
theorem gseg (v : List Int) (c i lo hi : Nat) (h0 : lo ≤ hi) (h1 : hi ≤ c) (h2 : i * c + c ≤ v.length) : ((grid_row.L v c i).take hi).drop lo = (v.take (i * c + hi)).drop (i * c + lo) := by
  have e1 : ((i : Int) * (c : Int) + (c : Int)).toNat = i * c + c := by rw [← Int.natCast_mul]; generalize i * c = D; omega
  have e2 : ((i : Int) * (c : Int)).toNat = i * c := by rw [← Int.natCast_mul]; generalize i * c = D; omega
  unfold grid_row.L
  rw [e1, e2, List.take_drop, List.drop_drop, List.take_take, Nat.min_eq_left (by omega)]
theorem gcols_loop (r c : Nat) (v : List Int) (lo hi : Nat) (w : Int) (hv : v.length = r * c) (hr : r ≤ 4096) (hc : c ≤ 4096) (hvl : v.length ≤ 1048576) (h0 : lo ≤ hi) (h1 : hi ≤ c) : ∀ (d k i : Nat) (o : List Int), i + d = r → d < k → o.length ≤ i * 4096 →
    grid_Cols.l0 k lo hi (r : Int) i r c v r w o = some ((r : Int), w, o ++ partS v c lo hi d i, 0) := by
  intro d
  induction d with
  | zero =>
    intro k i o hi' hk ho
    obtain ⟨k, rfl⟩ : ∃ m, k = m + 1 := ⟨k - 1, by omega⟩
    simp only [grid_Cols.l0]
    rw [if_neg (by omega), partS, List.append_nil]
  | succ d ih =>
    intro k i o hi' hk ho
    obtain ⟨k, rfl⟩ : ∃ m, k = m + 1 := ⟨k - 1, by omega⟩
    have hin := row_end v r c i hv (by omega)
    have hsl := seg_length v (i * c + lo) (i * c + hi) (by omega)
    have hrl : (grid_row.L v c i).length = c := by
      have h3 : (i : Int) * (c : Int) + c ≤ v.length := by rw [← Int.natCast_mul]; exact Int.ofNat_le.2 hin
      rw [grid_row.len v c i (Int.mul_nonneg (by omega) (by omega)) (by omega) h3, Int.toNat_natCast]
    have hg := gseg v c i lo hi h0 h1 hin
    simp only [grid_Cols.l0]
    rw [if_pos (by omega), grow_eq r c v i hv (by omega) hr hc, Option.bind_some, hrl, if_pos (by omega), if_pos (by omega), if_pos (by omega), Option.bind_some, Int.toNat_natCast, Int.toNat_natCast, hg, if_pos (by rw [hsl]; omega), next i r (by omega) (by omega), ih k (i + 1) _ (by omega) (by omega) (by rw [List.length_append, hsl]; omega), List.append_assoc]
    rw [show partS v c lo hi (d + 1) i = (v.take (i * c + hi)).drop (i * c + lo) ++ partS v c lo hi d (i + 1) by rw [partS]]
theorem gcols_no (k : Nat) (hk : 3 < k) (r c : Int) (v : List Int) (lo hi e : Int) (he : e ≠ 0) (h : (if RightM r c v.length then (if 0 ≤ lo ∧ lo ≤ hi ∧ hi ≤ c then 0 else 2) else 30) = e) : grid_Cols.f k r c v lo hi = some (0, 0, [], e) := by
  unfold grid_Cols.f
  rw [gcut_eq k hk, h, Option.bind_some, if_neg he]
theorem gcols_eq (k : Nat) (r c : Nat) (v : List Int) (lo hi : Nat) (h : RightM r c v.length) (h0 : lo ≤ hi) (h1 : hi ≤ c) (hk : 4100 < k) : grid_Cols.f k r c v lo hi = some ((r : Int), ((hi - lo : Nat) : Int), partS v c lo hi r 0, 0) := by
  obtain ⟨m1, m2, m3, m4, m5, m6⟩ := id h
  have hv : v.length = r * c := by rw [← Int.natCast_mul] at m5; exact Int.ofNat_inj.1 m5
  unfold grid_Cols.f
  rw [gcut_eq k (by omega), if_pos h, if_pos ⟨Int.natCast_nonneg lo, Int.ofNat_le.2 h0, Int.ofNat_le.2 h1⟩, Option.bind_some, if_pos rfl, w_sub hi lo h0 (by omega)]
  have := gcols_loop r c v lo hi ((hi - lo : Nat) : Int) hv (by omega) (by omega) m6 h0 h1 r k 0 [] (by omega) (by omega) (by simp)
  simpa using this

theorem tinn_len (y : List Int) (a0 i : Int) : ∀ (m : Nat) (k : Int) (xs : List Int), (grid_Turn.inn y a0 i m k xs).length = xs.length := by
  intro m
  induction m with
  | zero => intro j xs; rfl
  | succ m ih => intro j xs; rw [grid_Turn.inn, ih, List.length_set]
theorem tout_len (l : List Int) (a0 a1 : Int) : ∀ (m : Nat) (k : Int) (xs : List Int), (grid_Turn.out l a0 a1 m k xs).length = xs.length := by
  intro m
  induction m with
  | zero => intro j xs; rfl
  | succ m ih => intro j xs; rw [grid_Turn.out, ih, tinn_len]
theorem tinn_rd (y : List Int) (r c i : Nat) (hi : i < r) : ∀ (m k : Nat) (xs : List Int), k + m = c → xs.length = c * r → ∀ j i' : Nat, j < c → i' < r →
    rd (grid_Turn.inn y r i m k xs) ((j * r + i' : Nat) : Int) = if k ≤ j ∧ i' = i then rd y (j : Int) else rd xs ((j * r + i' : Nat) : Int) := by
  intro m
  induction m with
  | zero => intro k xs hk hx j i' hj hi'; rw [if_neg (by omega)]; rfl
  | succ m ih =>
    intro k xs hk hx j i' hj hi'
    have e : ((k : Int) * (r : Int) + (i : Int)).toNat = k * r + i := by rw [← Int.natCast_mul, ← Int.natCast_add, Int.toNat_natCast]
    have e2 : ((k : Int) + 1) = ((k + 1 : Nat) : Int) := by omega
    have hlt : k * r + i < xs.length := by rw [hx]; exact idx_lt c r k i (by omega) hi
    rw [grid_Turn.inn, e, e2, ih (k + 1) _ (by omega) (by rw [List.length_set]; exact hx) j i' hj hi', rd_set _ _ _ _ hlt]
    by_cases c1 : j = k ∧ i' = i
    · obtain ⟨rfl, rfl⟩ := c1
      rw [if_neg (by omega), if_pos rfl, if_pos ⟨Nat.le_refl _, rfl⟩]
    · have hne : ¬ k * r + i = j * r + i' := by
        intro he
        by_cases c2 : j = k
        · subst c2; omega
        · exact idx_ne r k j i' hi' (fun h => c2 h.symm) (by omega)
      by_cases c3 : k + 1 ≤ j ∧ i' = i
      · rw [if_pos c3, if_pos (by omega)]
      · rw [if_neg c3, if_neg hne, if_neg (by omega)]
theorem tout_rd (l : List Int) (r c : Nat) (hl : l.length = r * c) : ∀ (m i : Nat) (xs : List Int), i + m = r → xs.length = c * r → (∀ j i', j < c → i' < i → rd xs ((j * r + i' : Nat) : Int) = rd l ((i' * c + j : Nat) : Int)) →
    ∀ j i', j < c → i' < r → rd (grid_Turn.out l r c m i xs) ((j * r + i' : Nat) : Int) = rd l ((i' * c + j : Nat) : Int) := by
  intro m
  induction m with
  | zero => intro i xs hi hx h j i' hj hi'; exact h j i' hj (by omega)
  | succ m ih =>
    intro i xs hi hx h j i' hj hi'
    have e2 : ((i : Int) + 1) = ((i + 1 : Nat) : Int) := by omega
    rw [grid_Turn.out, e2, Int.toNat_natCast]
    refine ih (i + 1) _ (by omega) (by rw [tinn_len]; exact hx) ?_ j i' hj hi'
    intro j' i'' hj' hi''
    refine Eq.trans (tinn_rd (grid_row.L l c i) r c i (by omega) c 0 xs (Nat.zero_add _) hx j' i'' hj' (by omega)) ?_
    by_cases c1 : i'' = i
    · subst c1
      rw [if_pos ⟨Nat.zero_le _, rfl⟩]
      exact row_rd l c i'' j' hj' (by have := mul_in r c i'' (by omega); omega)
    · rw [if_neg (fun g => c1 g.2)]
      exact h j' i'' hj' (by omega)
def turnS (r c : Nat) (l : List Int) : List Int := grid_Turn.out l r c r 0 (List.replicate l.length 0)
theorem turnS_len (r c : Nat) (l : List Int) : (turnS r c l).length = l.length := by unfold turnS; rw [tout_len, List.length_replicate]
theorem turnS_rd (r c : Nat) (l : List Int) (hl : l.length = r * c) (j i : Nat) (hj : j < c) (hi : i < r) : rd (turnS r c l) ((j * r + i : Nat) : Int) = rd l ((i * c + j : Nat) : Int) :=
  tout_rd l r c hl r 0 _ (Nat.zero_add _) (by rw [List.length_replicate, hl, Nat.mul_comm]) (fun j i' _ h => by omega) j i hj hi
theorem turn_ok (k : Nat) (hk : 3 < k) (r c : Nat) (l : List Int) (h : RightM r c l.length) : grid_Turn.f k r c l = some ((c : Int), (r : Int), turnS r c l, 0) := by
  obtain ⟨a1, a2, a3, a4, a5, a6⟩ := id h
  have hd : grid_Turn.dims r c l = true := decide_eq_true ⟨a1, a2, a3, a4, a5⟩
  unfold grid_Turn.f
  rw [fit_all _ _ len1 (len1k _ hk), List.all_cons, List.all_nil, Bool.and_true, Option.bind_some, decide_eq_true (show FitG ⟨r, c, l⟩ from h), if_pos rfl, if_pos hd, Int.toNat_natCast]
  rfl
theorem turn_bad (k : Nat) (hk : 3 < k) (r c : Int) (l : List Int) (h : ¬ RightM r c l.length) : grid_Turn.f k r c l = some (0, 0, [], 30) := by
  unfold grid_Turn.f
  rw [fit_all _ _ len1 (len1k _ hk), List.all_cons, List.all_nil, Bool.and_true, Option.bind_some, decide_eq_false (show ¬ FitG ⟨r, c, l⟩ from h), if_neg (by simp)]

theorem fit1 (k : Nat) (hk : 3 < k) (g : S24) : grid_fit.f k [g] = some (decide (FitG g)) := by
  rw [fit_all k _ len1 (len1k k hk), List.all_cons, List.all_nil, Bool.and_true]

def turnG (g : S24) : S24 := ⟨g.f1, g.f0, turnS g.f0.toNat g.f1.toNat g.f2⟩
theorem turnG_code (k : Nat) (hk : 3 < k) (g : S24) (h : FitG g) : grid_Turn.f k g.f0 g.f1 g.f2 = some ((turnG g).f0, (turnG g).f1, (turnG g).f2, 0) := by
  obtain ⟨r, c, v⟩ := g
  have h' : RightM r c v.length := h
  obtain ⟨r, rfl⟩ := Int.eq_ofNat_of_zero_le h'.1
  obtain ⟨c, rfl⟩ := Int.eq_ofNat_of_zero_le h'.2.2.1
  exact turn_ok k hk r c v h'
theorem turnG_len (g : S24) : (turnG g).f2.length = g.f2.length := turnS_len _ _ _
def finC (m : Nat) (T : List S24) : Option (Int × Int × List Int × Int) := (grid_Stack.f m T).bind fun bt169 => (if bt169.2.2.2 = 0 then ((grid_Turn.f m bt169.1 bt169.2.1 bt169.2.2.1).bind fun bt176 => (some (bt176.1, bt176.2.1, bt176.2.2.1, bt176.2.2.2))) else (some (0, 0, ([] : List Int), bt169.2.2.2)))
theorem take_map_snoc (l : List S24) (i : Nat) (h : i < l.length) : (l.take i).map turnG ++ [turnG (rd_T24 l (i : Int))] = (l.take (i + 1)).map turnG := by
  rw [List.take_add_one, List.map_append, rdT_nat l i h, List.getElem?_eq_getElem h]; rfl
theorem besideC (l : List S24) (hl : l.length ≤ 100) (m : Nat) (hm : 3 < m) : ∀ (d i : Nat), i + d = l.length →
    grid_Beside.l0 (m + (d + 1)) ((l.take i).map turnG ++ List.replicate d z24) l (l.length : Int) i = if (l.drop i).all (fun g => decide (FitG g)) = true then finC m (l.map turnG) else some (0, 0, [], 30) := by
  intro d
  induction d with
  | zero =>
    intro i hi
    rw [List.drop_of_length_le (by omega), List.replicate_zero, List.append_nil, List.take_of_length_le (by omega)]
    show grid_Beside.l0 (m + 1) _ l _ i = _
    rw [grid_Beside.l0, if_neg (by omega), if_pos (by rfl)]
    rfl
  | succ d ih =>
    intro i hi
    have hil : i < l.length := by omega
    have hlen : ((l.take i).map turnG).length = i := by rw [List.length_map, List.length_take]; omega
    show grid_Beside.l0 ((m + (d + 1)) + 1) _ l _ i = _
    rw [grid_Beside.l0, if_pos (by omega), if_pos (by omega), if_pos (by omega), dropT_cons l i hil, List.all_cons]
    by_cases hf : FitG (rd_T24 l (i : Int))
    · rw [turnG_code _ (by omega) _ hf, Option.bind_some, if_pos (by rw [List.length_append, hlen, List.length_replicate]; omega)]
      dsimp only
      rw [if_pos rfl, decide_eq_true hf, Bool.true_and, next i l.length hil (by omega), Int.toNat_natCast, List.replicate_succ, List.set_append, if_neg (by omega), hlen, Nat.sub_self, List.set_cons_zero, List.append_cons, take_map_snoc l i hil]
      exact ih (i + 1) (by omega)
    · have hf' : ¬ RightM (rd_T24 l (i : Int)).f0 (rd_T24 l (i : Int)).f1 (rd_T24 l (i : Int)).f2.length := hf
      rw [turn_bad _ (by omega) _ _ _ hf', Option.bind_some, if_pos (by rw [List.length_append, hlen, List.length_replicate]; omega), decide_eq_false hf, Bool.false_and]
      dsimp only
      rw [if_neg (by decide), if_neg (by simp)]

def addV (g : List Int) : Nat → Nat → List Int → List Int
  | 0, _, X => X
  | d + 1, j, X => addV g d (j + 1) (X.set j (wrap32 (rd X (j : Int) + rd g (j : Int))))
theorem addV_len (g : List Int) : ∀ (d j : Nat) (X : List Int), (addV g d j X).length = X.length := by
  intro d
  induction d with
  | zero => intro j X; rfl
  | succ d ih => intro j X; rw [addV, ih, List.length_set]
theorem addV_rd (g : List Int) : ∀ (d j : Nat) (X : List Int), j + d ≤ X.length → ∀ p : Nat, p < X.length → rd (addV g d j X) (p : Int) = if j ≤ p ∧ p < j + d then wrap32 (rd X (p : Int) + rd g (p : Int)) else rd X (p : Int) := by
  intro d
  induction d with
  | zero => intro j X h p hp; rw [if_neg (by omega)]; rfl
  | succ d ih =>
    intro j X h p hp
    rw [addV, ih (j + 1) _ (by rw [List.length_set]; omega) p (by rw [List.length_set]; exact hp), rd_set _ _ _ _ (by omega)]
    by_cases c1 : j = p
    · subst c1
      rw [if_neg (by omega), if_pos rfl, if_pos (by omega)]
    · rw [if_neg c1]
      by_cases c2 : j + 1 ≤ p ∧ p < j + 1 + d
      · rw [if_pos c2, if_pos (by omega)]
      · rw [if_neg c2, if_neg (by omega)]
theorem add_l1 (l : List S24) (n i R C : Int) (g : List Int) (hg : g.length ≤ 1048576) (m : Nat) : ∀ (d j : Nat) (X : List Int), j + d = g.length → X.length = g.length →
    grid_Add.l1 (m + (d + 1)) l n i g (g.length : Int) j R C X = grid_Add.l0 m l n (wrap64 (i + 1)) R C (addV g d j X) := by
  intro d
  induction d with
  | zero =>
    intro j X hj hX
    show grid_Add.l1 (m + 1) l n i g (g.length : Int) j R C X = _
    rw [grid_Add.l1, if_neg (by omega)]; rfl
  | succ d ih =>
    intro j X hj hX
    show grid_Add.l1 ((m + (d + 1)) + 1) l n i g (g.length : Int) j R C X = _
    rw [grid_Add.l1, if_pos (by omega), if_pos (by omega), if_pos (by omega), if_pos (by omega), next j g.length (by omega) (by omega), Int.toNat_natCast, ih (j + 1) _ (by omega) (by rw [List.length_set]; exact hX)]
    rfl
def addAll (l : List S24) : Nat → Nat → List Int → List Int
  | 0, _, X => X
  | d + 1, i, X => addAll l d (i + 1) (addV (rd_T24 l (i : Int)).f2 (rd_T24 l (i : Int)).f2.length 0 X)
def SameG (R C : Int) (g : S24) : Prop := g.f0 = R ∧ g.f1 = C
instance (R C : Int) (g : S24) : Decidable (SameG R C g) := by unfold SameG; infer_instance
theorem same_len {R C : Int} {N : Nat} {g : S24} (h : SameG R C g) (hf : FitG g) (hN : (N : Int) = R * C) : g.f2.length = N := by
  have h1 := hf.2.2.2.2.1
  rw [h.1, h.2, ← hN] at h1
  exact Int.ofNat_inj.1 h1
theorem add_l0 (l : List S24) (hl : l.length ≤ 100) (R C : Int) (N : Nat) (hN : (N : Int) = R * C) (hN2 : N ≤ 1048576) (hfit : ∀ g ∈ l, FitG g) (m : Nat) : ∀ (d i : Nat) (X : List Int), i + d = l.length → X.length = N →
    grid_Add.l0 (m + (d * (N + 3) + 1)) l (l.length : Int) i R C X = if (l.drop i).all (fun g => decide (SameG R C g)) = true then some (R, C, addAll l d i X, 0) else some (0, 0, [], 30) := by
  intro d
  induction d with
  | zero =>
    intro i X hi hX
    rw [List.drop_of_length_le (by omega), Nat.zero_mul]
    show grid_Add.l0 (m + 1) l _ i R C X = _
    rw [grid_Add.l0, if_neg (by omega), if_pos (by rfl)]; rfl
  | succ d ih =>
    intro i X hi hX
    have hil : i < l.length := by omega
    have e : m + ((d + 1) * (N + 3) + 1) = (((m + (d * (N + 3) + 1)) + (N + 1)) + 1) + 1 := by rw [Nat.add_mul, Nat.one_mul]; generalize d * (N + 3) = D; omega
    have hm : rd_T24 l (i : Int) ∈ l := by rw [rdT_nat l i hil]; exact List.getElem_mem _
    rw [e, dropT_cons l i hil, List.all_cons]
    rw [grid_Add.l0, if_pos (by omega), if_pos (by omega), if_pos (by omega)]
    have hbad : ∀ a b c, grid_Add.j1 ((m + (d * (N + 3) + 1)) + (N + 1) + 1) l (l.length : Int) i true R C X a b c = some (0, 0, [], 30) := by intro a b c; rw [grid_Add.j1, if_pos rfl]
    by_cases h1 : (rd_T24 l (i : Int)).f0 = R
    · rw [if_pos h1]
      by_cases h2 : (rd_T24 l (i : Int)).f1 = C
      · have hs : SameG R C (rd_T24 l (i : Int)) := ⟨h1, h2⟩
        have hlen := same_len hs (hfit _ hm) hN
        rw [h2, bne_self_eq_false, grid_Add.j1, if_neg (by simp), decide_eq_true hs, Bool.true_and]
        have hh := add_l1 l (l.length : Int) i R C (rd_T24 l (i : Int)).f2 (by rw [hlen]; exact hN2) (m + (d * (N + 3) + 1)) N 0 X (by rw [hlen]; omega) (by rw [hlen]; exact hX)
        refine hh.trans ?_
        rw [next i l.length hil (by omega), ih (i + 1) _ (by omega) (by rw [addV_len]; exact hX)]
        have e3 : addAll l (d + 1) i X = addAll l d (i + 1) (addV (rd_T24 l (i : Int)).f2 N 0 X) := by rw [addAll, hlen]
        rw [e3]
      · have hs : ¬ SameG R C (rd_T24 l (i : Int)) := fun h => h2 h.2
        rw [bne_iff_ne.2 h2, hbad, decide_eq_false hs, Bool.false_and, if_neg (by simp)]
    · have hs : ¬ SameG R C (rd_T24 l (i : Int)) := fun h => h1 h.1
      rw [if_neg h1, hbad, decide_eq_false hs, Bool.false_and, if_neg (by simp)]
def AddS (l : List S24) (p : Nat) : Nat → Int
  | 0 => 0
  | m + 1 => AddS l p m + rd (rd_T24 l (m : Int)).f2 (p : Int)
theorem addAll_len (l : List S24) : ∀ (d i : Nat) (X : List Int), (addAll l d i X).length = X.length := by
  intro d
  induction d with
  | zero => intro i X; rfl
  | succ d ih => intro i X; rw [addAll, ih, addV_len]
theorem addAll_rd (l : List S24) (N p : Nat) (hp : p < N) (hl : ∀ i : Nat, i < l.length → (rd_T24 l (i : Int)).f2.length = N) : ∀ (d i : Nat) (X : List Int), i + d = l.length → X.length = N → rd X (p : Int) = wrap32 (AddS l p i) → rd (addAll l d i X) (p : Int) = wrap32 (AddS l p l.length) := by
  intro d
  induction d with
  | zero => intro i X hi hX h; rw [show l.length = i by omega]; exact h
  | succ d ih =>
    intro i X hi hX h
    have hlen := hl i (by omega)
    rw [addAll]
    refine ih (i + 1) _ (by omega) (by rw [addV_len]; exact hX) ?_
    rw [hlen, addV_rd _ N 0 X (by omega) p (by omega), if_pos (by omega), h, wrap32_add_left]
    rfl

theorem add_bad (k : Nat) (hk : 200000 < k) (l : List S24) (hl : l.length ≤ 100) (hl0 : 0 < l.length) (hs : ∀ g ∈ l, g.f2.length ≤ 400) (h : ¬ ∀ g ∈ l, FitG g ∧ SameG (rd_T24 l 0).f0 (rd_T24 l 0).f1 g) : grid_Add.f k l = some (0, 0, [], 30) := by
  have hm0 : rd_T24 l 0 ∈ l := by have := rdT_nat l 0 hl0; rw [show ((0 : Nat) : Int) = (0 : Int) from rfl] at this; rw [this]; exact List.getElem_mem _
  unfold grid_Add.f
  rw [fit_all k l (by omega) (by omega), Option.bind_some]
  by_cases hf : (l.all fun g => decide (FitG g)) = true
  · have hfit : ∀ g ∈ l, FitG g := fun g hg => of_decide_eq_true (List.all_eq_true.1 hf g hg)
    have h0 := hfit _ hm0
    have h04 := hs _ hm0
    obtain ⟨m, rfl⟩ : ∃ m, k = m + (l.length * ((rd_T24 l 0).f2.length + 3) + 1) := ⟨k - (l.length * ((rd_T24 l 0).f2.length + 3) + 1), by
      have : l.length * ((rd_T24 l 0).f2.length + 3) ≤ 100 * 403 := Nat.mul_le_mul hl (by omega)
      generalize l.length * ((rd_T24 l 0).f2.length + 3) = D at *; omega⟩
    have ha := add_l0 l hl (rd_T24 l 0).f0 (rd_T24 l 0).f1 (rd_T24 l 0).f2.length h0.2.2.2.2.1 h0.2.2.2.2.2 hfit m l.length 0 (List.replicate (rd_T24 l 0).f2.length 0) (Nat.zero_add _) (List.length_replicate ..)
    rw [List.drop_zero] at ha
    have hn : ¬ (l.all fun g => decide (SameG (rd_T24 l 0).f0 (rd_T24 l 0).f1 g)) = true := fun hq => h (fun g hg => ⟨hfit g hg, of_decide_eq_true (List.all_eq_true.1 hq g hg)⟩)
    rw [if_neg hn] at ha
    rw [if_pos hf, if_neg (by omega), if_pos (by omega), if_pos (Int.natCast_nonneg _), if_pos (by omega), Int.toNat_natCast]
    exact ha
  · rw [if_neg hf]
theorem add_ok (k : Nat) (hk : 200000 < k) (l : List S24) (hl : l.length ≤ 100) (hl0 : 0 < l.length) (hs : ∀ g ∈ l, g.f2.length ≤ 400) (h : ∀ g ∈ l, FitG g ∧ SameG (rd_T24 l 0).f0 (rd_T24 l 0).f1 g) : grid_Add.f k l = some ((rd_T24 l 0).f0, (rd_T24 l 0).f1, addAll l l.length 0 (List.replicate (rd_T24 l 0).f2.length 0), 0) := by
  have hm0 : rd_T24 l 0 ∈ l := by have := rdT_nat l 0 hl0; rw [show ((0 : Nat) : Int) = (0 : Int) from rfl] at this; rw [this]; exact List.getElem_mem _
  have hfit : ∀ g ∈ l, FitG g := fun g hg => (h g hg).1
  have h0 := hfit _ hm0
  have h04 := hs _ hm0
  unfold grid_Add.f
  rw [fit_all k l (by omega) (by omega), Option.bind_some, if_pos (List.all_eq_true.2 fun g hg => decide_eq_true (hfit g hg))]
  obtain ⟨m, rfl⟩ : ∃ m, k = m + (l.length * ((rd_T24 l 0).f2.length + 3) + 1) := ⟨k - (l.length * ((rd_T24 l 0).f2.length + 3) + 1), by
    have : l.length * ((rd_T24 l 0).f2.length + 3) ≤ 100 * 403 := Nat.mul_le_mul hl (by omega)
    generalize l.length * ((rd_T24 l 0).f2.length + 3) = D at *; omega⟩
  have ha := add_l0 l hl (rd_T24 l 0).f0 (rd_T24 l 0).f1 (rd_T24 l 0).f2.length h0.2.2.2.2.1 h0.2.2.2.2.2 hfit m l.length 0 (List.replicate (rd_T24 l 0).f2.length 0) (Nat.zero_add _) (List.length_replicate ..)
  rw [List.drop_zero, if_pos (List.all_eq_true.2 fun g hg => decide_eq_true (h g hg).2)] at ha
  rw [if_neg (by omega), if_pos (by omega), if_pos (Int.natCast_nonneg _), if_pos (by omega), Int.toNat_natCast]
  exact ha
theorem all_len (l : List S24) (hl0 : 0 < l.length) (h : ∀ g ∈ l, FitG g ∧ SameG (rd_T24 l 0).f0 (rd_T24 l 0).f1 g) : ∀ i : Nat, i < l.length → (rd_T24 l (i : Int)).f2.length = (rd_T24 l 0).f2.length := by
  intro i hi
  have hm0 : rd_T24 l 0 ∈ l := by have := rdT_nat l 0 hl0; rw [show ((0 : Nat) : Int) = (0 : Int) from rfl] at this; rw [this]; exact List.getElem_mem _
  have hm : rd_T24 l (i : Int) ∈ l := by rw [rdT_nat l i hi]; exact List.getElem_mem _
  exact same_len (h _ hm).2 (h _ hm).1 (h _ hm0).1.2.2.2.2.1

theorem ext_rd (X Y : List Int) (h : X.length = Y.length) (hp : ∀ p : Nat, p < X.length → rd X (p : Int) = rd Y (p : Int)) : X = Y :=
  List.ext_getElem h (fun i h1 h2 => by have := hp i h1; rwa [rd_nat X i h1, rd_nat Y i h2] at this)
theorem ext_rd2 (X Y : List Int) (r m : Nat) (hX : X.length = r * m) (hY : Y.length = r * m) (h : ∀ i j, i < r → j < m → rd X ((i * m + j : Nat) : Int) = rd Y ((i * m + j : Nat) : Int)) : X = Y := by
  refine ext_rd X Y (hX.trans hY.symm) (fun p hp => ?_)
  rw [hX] at hp
  have hm : 0 < m := by
    rcases Nat.eq_zero_or_pos m with h0 | h0
    · subst h0; rw [Nat.mul_zero] at hp; omega
    · exact h0
  have e : p / m * m + p % m = p := Nat.div_add_mod' p m
  have h1 : p / m < r := Nat.div_lt_of_lt_mul (by rw [Nat.mul_comm]; exact hp)
  have := h (p / m) (p % m) h1 (Nat.mod_lt _ hm)
  rwa [e] at this
theorem wrap32_q (y : Int) : ∃ q : Int, wrap32 y = y + 4294967296 * q := by
  refine ⟨(wrap32 y - y) / 4294967296, ?_⟩
  unfold wrap32; omega
theorem wrap32_mulr (x y z : Int) : wrap32 (z + x * wrap32 y) = wrap32 (z + x * y) := by
  obtain ⟨q, hq⟩ := wrap32_q y
  rw [hq, Int.mul_add, ← Int.mul_assoc, Int.mul_comm x 4294967296, Int.mul_assoc]
  generalize x * q = a
  generalize x * y = b
  unfold wrap32; omega
theorem wrap32_cong {a b : Int} (c : Int) (h : wrap32 a = wrap32 b) : wrap32 (a + c) = wrap32 (b + c) := by
  rw [← wrap32_add_left a c, h, wrap32_add_left]

theorem add_ok2 (k : Nat) (l : List S24) (hl : l.length ≤ 100) (hl0 : 0 < l.length) (hk : 100 < k) (hk2 : l.length * ((rd_T24 l 0).f2.length + 3) + 1 < k) (h : ∀ g ∈ l, FitG g ∧ SameG (rd_T24 l 0).f0 (rd_T24 l 0).f1 g) : grid_Add.f k l = some ((rd_T24 l 0).f0, (rd_T24 l 0).f1, addAll l l.length 0 (List.replicate (rd_T24 l 0).f2.length 0), 0) := by
  have hm0 : rd_T24 l 0 ∈ l := by have := rdT_nat l 0 hl0; rw [show ((0 : Nat) : Int) = (0 : Int) from rfl] at this; rw [this]; exact List.getElem_mem _
  have hfit : ∀ g ∈ l, FitG g := fun g hg => (h g hg).1
  have h0 := hfit _ hm0
  have h04 := h0.2.2.2.2.2
  unfold grid_Add.f
  rw [fit_all k l (by omega) (by omega), Option.bind_some, if_pos (List.all_eq_true.2 fun g hg => decide_eq_true (hfit g hg))]
  obtain ⟨m, rfl⟩ : ∃ m, k = m + (l.length * ((rd_T24 l 0).f2.length + 3) + 1) := ⟨k - (l.length * ((rd_T24 l 0).f2.length + 3) + 1), by generalize l.length * ((rd_T24 l 0).f2.length + 3) = D at *; omega⟩
  have ha := add_l0 l hl (rd_T24 l 0).f0 (rd_T24 l 0).f1 (rd_T24 l 0).f2.length h0.2.2.2.2.1 h04 hfit m l.length 0 (List.replicate (rd_T24 l 0).f2.length 0) (Nat.zero_add _) (List.length_replicate ..)
  rw [List.drop_zero, if_pos (List.all_eq_true.2 fun g hg => decide_eq_true (h g hg).2)] at ha
  rw [if_neg (by omega), if_pos (by omega), if_pos (Int.natCast_nonneg _), if_pos (by omega), Int.toNat_natCast]
  exact ha
def addP (R C : Int) (b c : List Int) : List Int := addAll [(⟨R, C, b⟩ : S24), ⟨R, C, c⟩] 2 0 (List.replicate b.length 0)
theorem addP_len (R C : Int) (b c : List Int) : (addP R C b c).length = b.length := by unfold addP; rw [addAll_len, List.length_replicate]
theorem addP_rd (R C : Int) (b c : List Int) (hbc : c.length = b.length) (p : Nat) (hp : p < b.length) : rd (addP R C b c) (p : Int) = wrap32 (rd b (p : Int) + rd c (p : Int)) := by
  have h := addAll_rd [(⟨R, C, b⟩ : S24), ⟨R, C, c⟩] b.length p hp (fun i hi => by
    rw [List.length_cons, List.length_cons, List.length_nil] at hi
    rcases (show i = 0 ∨ i = 1 by omega) with rfl | rfl
    · rfl
    · exact hbc) 2 0 (List.replicate b.length 0) rfl (List.length_replicate ..) ((rd_rep _ _).trans wrap32_0.symm)
  have e : AddS [(⟨R, C, b⟩ : S24), ⟨R, C, c⟩] p 2 = 0 + rd b (p : Int) + rd c (p : Int) := rfl
  unfold addP
  rw [h, show [(⟨R, C, b⟩ : S24), ⟨R, C, c⟩].length = 2 from rfl, e, Int.zero_add]
theorem addP_ok (k : Nat) (hk : 3000000 < k) (R C : Int) (b c : List Int) (hb : RightM R C b.length) (hc : RightM R C c.length) : grid_Add.f k [(⟨R, C, b⟩ : S24), ⟨R, C, c⟩] = some (R, C, addP R C b c, 0) := by
  have h1 := hb.2.2.2.2.2
  refine add_ok2 k _ (by simp) (by simp) (by omega) ?_ ?_
  · show 2 * (b.length + 3) + 1 < k
    omega
  · intro g hg
    rcases List.mem_cons.1 hg with rfl | hg
    · exact ⟨hb, rfl, rfl⟩
    · rw [List.mem_singleton.1 hg]; exact ⟨hc, rfl, rfl⟩
theorem addP_bad (k : Nat) (hk : 200000 < k) (R C R' C' : Int) (b c : List Int) (hb4 : b.length ≤ 400) (hc4 : c.length ≤ 400) (h : ¬ (RightM R C b.length ∧ RightM R' C' c.length ∧ R' = R ∧ C' = C)) : grid_Add.f k [(⟨R, C, b⟩ : S24), ⟨R', C', c⟩] = some (0, 0, [], 30) := by
  refine add_bad k hk _ (by simp) (by simp) (fun g hg => ?_) (fun hq => h ?_)
  · rcases List.mem_cons.1 hg with rfl | hg
    · exact hb4
    · rw [List.mem_singleton.1 hg]; exact hc4
  · have h1 := hq ⟨R, C, b⟩ (.head _)
    have h2 := hq ⟨R', C', c⟩ (.tail _ (.head _))
    exact ⟨h1.1, h2.1, h2.2.1, h2.2.2⟩

theorem times_some (k : Nat) (hk : 3 < k) (r n m c : Int) (a b : List Int) : ∃ z, grid_Times.f k r n a m c b = some z := by
  by_cases h : RightM r n a.length ∧ RightM m c b.length ∧ n = m ∧ r * c ≤ 1048576
  · obtain ⟨h1, h2, rfl, h4⟩ := h
    obtain ⟨r, rfl⟩ := Int.eq_ofNat_of_zero_le h1.1
    obtain ⟨n, rfl⟩ := Int.eq_ofNat_of_zero_le h1.2.2.1
    obtain ⟨c, rfl⟩ := Int.eq_ofNat_of_zero_le h2.2.2.1
    have hrc : r * c ≤ 1048576 := by rw [← Int.natCast_mul] at h4; exact Int.ofNat_le.1 h4
    exact ⟨_, times_ok r n c a b h1 h2 hrc k hk⟩
  · exact ⟨_, times_bad r n m c a b h k hk⟩
theorem rightm_nat (r c n : Nat) (hr : (r : Int) ≤ 4096) (hc : (c : Int) ≤ 4096) (hn : n = r * c) (hb : r * c ≤ 1048576) : RightM r c n :=
  ⟨Int.natCast_nonneg r, hr, Int.natCast_nonneg c, hc, by rw [hn, Int.natCast_mul], by rw [hn]; exact hb⟩
theorem rightm_len {r c : Nat} {n : Nat} (h : RightM r c n) : n = r * c := by
  have := h.2.2.2.2.1
  rw [← Int.natCast_mul] at this
  exact Int.ofNat_inj.1 this
/-- a product with a sum -/
theorem Sm_add (a b c s : List Int) (n m i j N : Nat) (hs : ∀ p : Nat, p < N → rd s (p : Int) = wrap32 (rd b (p : Int) + rd c (p : Int))) (hN : N = n * m) (hj : j < m) : ∀ q, q ≤ n → wrap32 (Sm a s n m i j q) = wrap32 (Sm a b n m i j q + Sm a c n m i j q) := by
  intro q
  induction q with
  | zero => intro _; rfl
  | succ q ih =>
    intro hq
    have hp : q * m + j < N := by rw [hN]; exact idx_lt n m q j (by omega) hj
    show wrap32 (Sm a s n m i j q + rd a ((i * n + q : Nat) : Int) * rd s ((q * m + j : Nat) : Int)) = wrap32 ((Sm a b n m i j q + rd a ((i * n + q : Nat) : Int) * rd b ((q * m + j : Nat) : Int)) + (Sm a c n m i j q + rd a ((i * n + q : Nat) : Int) * rd c ((q * m + j : Nat) : Int)))
    rw [hs _ hp, wrap32_mulr, wrap32_cong _ (ih (by omega)), Int.mul_add]
    congr 1
    generalize rd a ((i * n + q : Nat) : Int) * rd b ((q * m + j : Nat) : Int) = X
    generalize rd a ((i * n + q : Nat) : Int) * rd c ((q * m + j : Nat) : Int) = Y
    omega
/-- a product turned -/
theorem Sm_turn (a b u v : List Int) (r n m i j : Nat) (hu : ∀ k, k < n → rd u ((k * r + i : Nat) : Int) = rd a ((i * n + k : Nat) : Int)) (hv : ∀ k, k < n → rd v ((j * n + k : Nat) : Int) = rd b ((k * m + j : Nat) : Int)) : ∀ q, q ≤ n → Sm v u n r j i q = Sm a b n m i j q := by
  intro q
  induction q with
  | zero => intro _; rfl
  | succ q ih =>
    intro hq
    show Sm v u n r j i q + rd v ((j * n + q : Nat) : Int) * rd u ((q * r + i : Nat) : Int) = Sm a b n m i j q + rd a ((i * n + q : Nat) : Int) * rd b ((q * m + j : Nat) : Int)
    rw [ih (by omega), hu q (by omega), hv q (by omega), Int.mul_comm]

theorem rd_app_l (A B : List Int) (p : Nat) (h : p < A.length) : rd (A ++ B) (p : Int) = rd A (p : Int) := by
  unfold rd; rw [Int.toNat_natCast, List.getD_eq_getElem?_getD, List.getD_eq_getElem?_getD, List.getElem?_append_left h]
theorem rd_app_r (A B : List Int) (p : Nat) : rd (A ++ B) ((A.length + p : Nat) : Int) = rd B (p : Int) := by
  unfold rd; rw [Int.toNat_natCast, Int.toNat_natCast, List.getD_eq_getElem?_getD, List.getD_eq_getElem?_getD, List.getElem?_append_right (by omega), Nat.add_sub_cancel_left]
theorem rd_seg (v : List Int) (a b j : Nat) (h : a + j < b) : rd ((v.take b).drop a) (j : Int) = rd v ((a + j : Nat) : Int) := by
  unfold rd; rw [Int.toNat_natCast, Int.toNat_natCast, List.getD_eq_getElem?_getD, List.getD_eq_getElem?_getD, List.getElem?_drop, List.getElem?_take_of_lt h]
theorem partS_rd (v : List Int) (r c lo hi : Nat) (hv : v.length = r * c) (h0 : lo ≤ hi) (h1 : hi ≤ c) : ∀ d i0, i0 + d ≤ r → ∀ i j, i < d → j < hi - lo → rd (partS v c lo hi d i0) ((i * (hi - lo) + j : Nat) : Int) = rd v (((i0 + i) * c + lo + j : Nat) : Int) := by
  intro d
  induction d with
  | zero => intro i0 _ i j hi _; omega
  | succ d ih =>
    intro i0 hd i j hi' hj
    have hin := row_end v r c i0 hv (by omega)
    have hsl := seg_length v (i0 * c + lo) (i0 * c + hi) (by omega)
    rw [partS]
    cases i with
    | zero =>
      rw [Nat.zero_mul, Nat.zero_add, rd_app_l _ _ j (by rw [hsl]; omega), rd_seg v _ _ j (by omega), Nat.add_zero]
    | succ i =>
      have e : (i + 1) * (hi - lo) + j = ((v.take (i0 * c + hi)).drop (i0 * c + lo)).length + (i * (hi - lo) + j) := by rw [hsl, Nat.add_mul, Nat.one_mul]; omega
      rw [e, rd_app_r, ih (i0 + 1) (by omega) i j (by omega) hj, show i0 + 1 + i = i0 + (i + 1) by omega]

theorem rest_n (x : Int) (r : Nat) (hr : (r : Int) ≤ 4096) : ∃ m : Nat, Int.tmod (wrap64 (wrap64 (Int.tmod x (wrap64 ((r : Int) + 1)) + (r : Int)) + 1)) (wrap64 ((r : Int) + 1)) = (m : Int) ∧ m ≤ r := by
  have e : wrap64 ((r : Int) + 1) = (r : Int) + 1 := wrap64_wf _ (by omega) (by omega)
  have h0 : (0 : Int) < (r : Int) + 1 := by omega
  have g1 := Int.tmod_lt_of_pos x h0
  have g2 := Int.lt_tmod_of_pos x h0
  have e3 : wrap64 (Int.tmod x ((r : Int) + 1) + (r : Int)) = Int.tmod x ((r : Int) + 1) + (r : Int) := wrap64_wf _ (by omega) (by omega)
  have e4 : wrap64 (Int.tmod x ((r : Int) + 1) + (r : Int) + 1) = Int.tmod x ((r : Int) + 1) + (r : Int) + 1 := wrap64_wf _ (by omega) (by omega)
  rw [e, e3, e4, Int.tmod_eq_emod_of_nonneg (by omega)]
  have e1 := Int.emod_nonneg (Int.tmod x ((r : Int) + 1) + (r : Int) + 1) (show (r : Int) + 1 ≠ 0 by omega)
  have e2 := Int.emod_lt_of_pos (Int.tmod x ((r : Int) + 1) + (r : Int) + 1) h0
  exact ⟨((Int.tmod x ((r : Int) + 1) + (r : Int) + 1) % ((r : Int) + 1)).toNat, by omega, by omega⟩

theorem stack_pair (k : Nat) (hk : 3 < k) (ra rb c : Int) (va vb : List Int) (ha : RightM ra c va.length) (hb : RightM rb c vb.length) (hab : RightM (ra + rb) c (va ++ vb).length) : grid_Stack.f k [(⟨ra, c, va⟩ : S24), ⟨rb, c, vb⟩] = some (ra + rb, c, va ++ vb, 0) := by
  have e0 : rd_T24 [(⟨ra, c, va⟩ : S24), ⟨rb, c, vb⟩] 0 = ⟨ra, c, va⟩ := rfl
  have e1 : rd_T24 [(⟨ra, c, va⟩ : S24), ⟨rb, c, vb⟩] 1 = ⟨rb, c, vb⟩ := rfl
  have hla := ha.2.2.2.2.2
  have hlb := hb.2.2.2.2.2
  have w1 : wrap64 (0 + ra) = ra := by rw [Int.zero_add]; exact wrap64_wf _ (by have := ha.1; omega) (by have := ha.2.1; omega)
  have w2 : wrap64 (ra + rb) = ra + rb := wrap64_wf _ (by have := hab.1; omega) (by have := hab.2.1; omega)
  unfold grid_Stack.f
  rw [if_pos (by simp)]
  show grid_Stack.go k _ 2 0 0 0 [] = _
  rw [grid_Stack.go, e0, fit1 k hk, Option.bind_some, if_pos (decide_eq_true (show FitG ⟨ra, c, va⟩ from ha))]
  dsimp only
  rw [if_neg (fun h => absurd h.1 (by decide)), if_pos (by rw [List.length_nil]; omega), List.nil_append, w1, fit1 k hk, Option.bind_some, if_pos (decide_eq_true (show FitG ⟨ra, c, va⟩ from ha)), Int.zero_add]
  rw [grid_Stack.go, e1, fit1 k hk, Option.bind_some, if_pos (decide_eq_true (show FitG ⟨rb, c, vb⟩ from hb))]
  dsimp only
  rw [if_neg (fun h => h.2 rfl), if_pos (by omega), w2, fit1 k hk, Option.bind_some, if_pos (decide_eq_true (show FitG ⟨ra + rb, c, va ++ vb⟩ from hab))]
  rfl

theorem beside_code (k : Nat) (hk : 300 < k) (l : List S24) (hl : l.length ≤ 100) (hf : ∀ g ∈ l, FitG g) (r : S24) (hr : FitG r) (hs : ∀ k, 3 < k → grid_Stack.f k (l.map turnG) = some (r.f0, r.f1, r.f2, 0)) : grid_Beside.f k l = some ((turnG r).f0, (turnG r).f1, (turnG r).f2, 0) := by
  obtain ⟨m, rfl⟩ : ∃ m, k = m + (l.length + 1) := ⟨k - (l.length + 1), by omega⟩
  have h1 := besideC l hl m (by omega) l.length 0 (Nat.zero_add _)
  rw [List.take_zero, List.map_nil, List.nil_append, List.drop_zero, if_pos (List.all_eq_true.2 fun g hg => decide_eq_true (hf g hg))] at h1
  unfold grid_Beside.f
  rw [if_pos (by omega), if_pos (by omega), Int.toNat_natCast, show (0 : Int) = ((0 : Nat) : Int) from rfl, h1, show ((0 : Nat) : Int) = (0 : Int) from rfl]
  unfold finC
  rw [hs m (by omega), Option.bind_some]
  dsimp only
  rw [if_pos rfl, turnG_code m (by omega) r hr, Option.bind_some]
theorem beside_cols (k : Nat) (hk : 300 < k) (r c g : Nat) (v : List Int) (h : RightM r c v.length) (hg : g ≤ c) : grid_Beside.f k [(⟨r, g, partS v c 0 g r 0⟩ : S24), ⟨r, ((c - g : Nat) : Int), partS v c g c r 0⟩] = some ((r : Int), (c : Int), v, 0) := by
  have hv := rightm_len h
  have hvl := h.2.2.2.2.2
  have hrc : r * c ≤ 1048576 := by rw [← hv]; exact hvl
  have l1 : (partS v c 0 g r 0).length = r * g := by rw [partS_length v r c 0 g hv (Nat.zero_le _) hg r 0 (by omega), Nat.sub_zero]
  have l2 : (partS v c g c r 0).length = r * (c - g) := by rw [partS_length v r c g c hv hg (Nat.le_refl _) r 0 (by omega)]
  have b1 : r * g ≤ 1048576 := Nat.le_trans (Nat.mul_le_mul_left r hg) hrc
  have b2 : r * (c - g) ≤ 1048576 := Nat.le_trans (Nat.mul_le_mul_left r (Nat.sub_le c g)) hrc
  have hr4 := h.2.1
  have hc4 := h.2.2.2.1
  have f1 : RightM r g (partS v c 0 g r 0).length := rightm_nat r g _ hr4 (by omega) l1 b1
  have f2 : RightM r ((c - g : Nat) : Int) (partS v c g c r 0).length := rightm_nat r (c - g) _ hr4 (by omega) l2 b2
  have t1l : (turnS r g (partS v c 0 g r 0)).length = g * r := by rw [turnS_len, l1, Nat.mul_comm]
  have t2l : (turnS r (c - g) (partS v c g c r 0)).length = (c - g) * r := by rw [turnS_len, l2, Nat.mul_comm]
  have t1 : RightM g r (turnS r g (partS v c 0 g r 0)).length := rightm_nat g r _ (by omega) hr4 t1l (by rw [Nat.mul_comm]; exact b1)
  have t2 : RightM ((c - g : Nat) : Int) r (turnS r (c - g) (partS v c g c r 0)).length := rightm_nat (c - g) r _ (by omega) hr4 t2l (by rw [Nat.mul_comm]; exact b2)
  have eg : (g : Int) + ((c - g : Nat) : Int) = (c : Int) := by omega
  have tl : (turnS r g (partS v c 0 g r 0) ++ turnS r (c - g) (partS v c g c r 0)).length = c * r := by
    rw [List.length_append, t1l, t2l, ← Nat.add_mul, show g + (c - g) = c by omega]
  have tt : RightM ((g : Int) + ((c - g : Nat) : Int)) r (turnS r g (partS v c 0 g r 0) ++ turnS r (c - g) (partS v c g c r 0)).length := by
    rw [eg]; exact rightm_nat c r _ hc4 hr4 tl (by rw [Nat.mul_comm]; exact hrc)
  have hm := beside_code k hk [(⟨r, g, partS v c 0 g r 0⟩ : S24), ⟨r, ((c - g : Nat) : Int), partS v c g c r 0⟩] (by simp) (fun x hx => by
    rcases List.mem_cons.1 hx with rfl | hx
    · exact f1
    · rw [List.mem_singleton.1 hx]; exact f2) ⟨(g : Int) + ((c - g : Nat) : Int), r, turnS r g (partS v c 0 g r 0) ++ turnS r (c - g) (partS v c g c r 0)⟩ tt (fun k hk => stack_pair k hk _ _ _ _ _ t1 t2 tt)
  rw [hm]
  have e3 : turnG ⟨(g : Int) + ((c - g : Nat) : Int), r, turnS r g (partS v c 0 g r 0) ++ turnS r (c - g) (partS v c g c r 0)⟩ = ⟨r, c, turnS c r (turnS r g (partS v c 0 g r 0) ++ turnS r (c - g) (partS v c g c r 0))⟩ := by
    rw [eg]; rfl
  have e4 : turnS c r (turnS r g (partS v c 0 g r 0) ++ turnS r (c - g) (partS v c g c r 0)) = v := by
    refine ext_rd2 _ _ r c (by rw [turnS_len, tl, Nat.mul_comm]) hv (fun i j hi hj => ?_)
    rw [turnS_rd c r _ tl i j hi hj]
    by_cases hjg : j < g
    · rw [rd_app_l _ _ _ (by rw [t1l]; exact idx_lt g r j i hjg hi), turnS_rd r g _ l1 j i hjg hi]
      have := partS_rd v r c 0 g hv (Nat.zero_le _) hg r 0 (by omega) i j hi (by omega)
      rw [Nat.sub_zero, Nat.zero_add, Nat.add_zero] at this
      exact this
    · have ej : j * r + i = (turnS r g (partS v c 0 g r 0)).length + ((j - g) * r + i) := by
        have : j * r = g * r + (j - g) * r := by rw [← Nat.add_mul, show g + (j - g) = j by omega]
        rw [t1l]; omega
      rw [ej, rd_app_r, turnS_rd r (c - g) _ l2 (j - g) i (by omega) hi, partS_rd v r c g c hv hg (Nat.le_refl _) r 0 (by omega) i (j - g) hi (by omega), Nat.zero_add, show i * c + g + (j - g) = i * c + j by omega]
  rw [e3, e4]

theorem Sm_cong (a b a' b' : List Int) (n m i j n' m' i' j' s : Nat) : ∀ q, (∀ p, p < q → rd a' ((i' * n' + p : Nat) : Int) = rd a ((i * n + (s + p) : Nat) : Int)) → (∀ p, p < q → rd b' ((p * m' + j' : Nat) : Int) = rd b (((s + p) * m + j : Nat) : Int)) →
    Sm a b n m i j (s + q) = Sm a b n m i j s + Sm a' b' n' m' i' j' q := by
  intro q
  induction q with
  | zero => intro _ _; exact (Int.add_zero _).symm
  | succ q ih =>
    intro h1 h2
    show Sm a b n m i j (s + q) + rd a ((i * n + (s + q) : Nat) : Int) * rd b (((s + q) * m + j : Nat) : Int) = Sm a b n m i j s + (Sm a' b' n' m' i' j' q + rd a' ((i' * n' + q : Nat) : Int) * rd b' ((q * m' + j' : Nat) : Int))
    rw [ih (fun p hp => h1 p (by omega)) (fun p hp => h2 p (by omega)), h1 q (by omega), h2 q (by omega), Int.add_assoc]
theorem Sm_cong0 (a b a' b' : List Int) (n m i j n' m' i' j' : Nat) (q : Nat) (h1 : ∀ p, p < q → rd a' ((i' * n' + p : Nat) : Int) = rd a ((i * n + p : Nat) : Int)) (h2 : ∀ p, p < q → rd b' ((p * m' + j' : Nat) : Int) = rd b ((p * m + j : Nat) : Int)) :
    Sm a' b' n' m' i' j' q = Sm a b n m i j q := by
  have h := Sm_cong a b a' b' n m i j n' m' i' j' 0 q (fun p hp => by rw [Nat.zero_add]; exact h1 p hp) (fun p hp => by rw [Nat.zero_add]; exact h2 p hp)
  rw [Nat.zero_add] at h
  rw [h]
  exact (Int.zero_add _).symm
theorem rd_take (v : List Int) (e p : Nat) (h : p < e) : rd (v.take e) (p : Int) = rd v (p : Int) := by
  unfold rd; rw [Int.toNat_natCast, List.getD_eq_getElem?_getD, List.getD_eq_getElem?_getD, List.getElem?_take_of_lt h]
theorem rd_drop (v : List Int) (e p : Nat) : rd (v.drop e) (p : Int) = rd v ((e + p : Nat) : Int) := by
  unfold rd; rw [Int.toNat_natCast, Int.toNat_natCast, List.getD_eq_getElem?_getD, List.getD_eq_getElem?_getD, List.getElem?_drop]

theorem parts_rows (r n c ρ : Nat) (a b : List Int) (ha : a.length = r * n) (hb : b.length = n * c) (hρ : ρ ≤ r) : timesS ρ n c (a.take (ρ * n)) b ++ timesS (r - ρ) n c (a.drop (ρ * n)) b = timesS r n c a b := by
  have hle : ρ * n ≤ r * n := Nat.mul_le_mul_right n hρ
  have la : (a.take (ρ * n)).length = ρ * n := by rw [List.length_take]; omega
  have lb : (a.drop (ρ * n)).length = (r - ρ) * n := by rw [List.length_drop, ha, Nat.sub_mul]
  have l1 := timesS_len ρ n c (a.take (ρ * n)) b
  refine ext_rd2 _ _ r c (by rw [List.length_append, l1, timesS_len, ← Nat.add_mul, show ρ + (r - ρ) = r by omega]) (timesS_len ..) (fun i j hi hj => ?_)
  rw [timesS_rd r n c a b ha hb i j hi hj]
  by_cases h : i < ρ
  · rw [rd_app_l _ _ _ (by rw [l1]; exact idx_lt ρ c i j h hj), timesS_rd ρ n c _ b la hb i j h hj]
    congr 1
    exact Sm_cong0 a b _ b n c i j n c i j n (fun p hp => rd_take a _ _ (idx_lt ρ n i p h hp)) (fun p hp => rfl)
  · have ej : i * c + j = (timesS ρ n c (a.take (ρ * n)) b).length + ((i - ρ) * c + j) := by
      have : i * c = ρ * c + (i - ρ) * c := by rw [← Nat.add_mul, show ρ + (i - ρ) = i by omega]
      rw [l1]; omega
    rw [ej, rd_app_r, timesS_rd (r - ρ) n c _ b lb hb (i - ρ) j (by omega) hj]
    congr 1
    refine Sm_cong0 a b _ b n c i j n c (i - ρ) j n (fun p hp => ?_) (fun p hp => rfl)
    have e2 : ρ * n + ((i - ρ) * n + p) = i * n + p := by
      have : i * n = ρ * n + (i - ρ) * n := by rw [← Nat.add_mul, show ρ + (i - ρ) = i by omega]
      omega
    rw [rd_drop, e2]
theorem parts_cols (r n c lo hi : Nat) (a b : List Int) (ha : a.length = r * n) (hb : b.length = n * c) (h0 : lo ≤ hi) (h1 : hi ≤ c) : timesS r n (hi - lo) a (partS b c lo hi n 0) = partS (timesS r n c a b) c lo hi r 0 := by
  have hT := timesS_len r n c a b
  have lp : (partS b c lo hi n 0).length = n * (hi - lo) := partS_length b n c lo hi hb h0 h1 n 0 (by omega)
  refine ext_rd2 _ _ r (hi - lo) (timesS_len ..) (partS_length _ r c lo hi hT h0 h1 r 0 (by omega)) (fun i j hi' hj => ?_)
  rw [timesS_rd r n (hi - lo) a _ ha lp i j hi' hj, partS_rd _ r c lo hi hT h0 h1 r 0 (by omega) i j hi' hj, Nat.zero_add, Nat.add_assoc, timesS_rd r n c a b ha hb i (lo + j) hi' (by omega)]
  congr 1
  refine Sm_cong0 a b a _ n c i (lo + j) n (hi - lo) i j n (fun p hp => rfl) (fun p hp => ?_)
  rw [partS_rd b n c lo hi hb h0 h1 n 0 (by omega) p j hp hj, Nat.zero_add, Nat.add_assoc]
theorem parts_sum (r n c κ : Nat) (a b : List Int) (ha : a.length = r * n) (hb : b.length = n * c) (hκ : κ ≤ n) : addP r c (timesS r κ c (partS a n 0 κ r 0) (b.take (κ * c))) (timesS r (n - κ) c (partS a n κ n r 0) (b.drop (κ * c))) = timesS r n c a b := by
  have hle : κ * c ≤ n * c := Nat.mul_le_mul_right c hκ
  have la : (partS a n 0 κ r 0).length = r * κ := by rw [partS_length a r n 0 κ ha (Nat.zero_le _) hκ r 0 (by omega), Nat.sub_zero]
  have lb : (partS a n κ n r 0).length = r * (n - κ) := partS_length a r n κ n ha hκ (Nat.le_refl _) r 0 (by omega)
  have lt : (b.take (κ * c)).length = κ * c := by rw [List.length_take]; omega
  have ld : (b.drop (κ * c)).length = (n - κ) * c := by rw [List.length_drop, hb, Nat.sub_mul]
  have l1 := timesS_len r κ c (partS a n 0 κ r 0) (b.take (κ * c))
  have l2 := timesS_len r (n - κ) c (partS a n κ n r 0) (b.drop (κ * c))
  refine ext_rd2 _ _ r c (by rw [addP_len, l1]) (timesS_len ..) (fun i j hi hj => ?_)
  have ea : Sm (partS a n 0 κ r 0) (b.take (κ * c)) κ c i j κ = Sm a b n c i j κ := by
    refine Sm_cong0 a b _ _ n c i j κ c i j κ (fun p hp => ?_) (fun p hp => rd_take b _ _ (idx_lt κ c p j hp hj))
    have := partS_rd a r n 0 κ ha (Nat.zero_le _) hκ r 0 (by omega) i p hi (by omega)
    rw [Nat.sub_zero, Nat.zero_add, Nat.add_zero] at this
    exact this
  have eb := Sm_cong a b (partS a n κ n r 0) (b.drop (κ * c)) n c i j (n - κ) c i j κ (n - κ) (fun p hp => by
      rw [partS_rd a r n κ n ha hκ (Nat.le_refl _) r 0 (by omega) i p hi hp, Nat.zero_add, Nat.add_assoc]) (fun p hp => by
      rw [rd_drop, Nat.add_mul, Nat.add_assoc])
  rw [show κ + (n - κ) = n by omega] at eb
  rw [addP_rd r c _ _ (by rw [l1, l2]) _ (by rw [l1]; exact idx_lt r c i j hi hj), timesS_rd r κ c _ _ la lt i j hi hj, timesS_rd r (n - κ) c _ _ lb ld i j hi hj, timesS_rd r n c a b ha hb i j hi hj, wrap32_add_left, wrap32_add_right, ea, eb]

theorem GridParts : pelotonlaw03_GridParts.Pure := by
  intro r n a m c b at_ ⟨hr, hn, hal, haw⟩ ⟨hm, hc, hbl, hbw⟩ hat
  refine ⟨100000000, ?_⟩
  have hk : 50000000 < 100000000 := by decide
  generalize 100000000 = k at hk ⊢
  obtain ⟨s, hs, hs2⟩ := small_eq [(⟨r, n, a⟩ : S24), ⟨m, c, b⟩] len2 k (len2k k (by omega))
  unfold pelotonlaw03_GridParts.f
  rw [hs, Option.bind_some]
  cases s with
  | false => rw [if_neg (by simp)]
  | true =>
    rw [if_pos rfl]
    by_cases hT : RightM r n a.length ∧ RightM m c b.length ∧ n = m ∧ r * c ≤ 1048576
    · obtain ⟨h1, h2, rfl, h5⟩ := hT
      obtain ⟨r, rfl⟩ := Int.eq_ofNat_of_zero_le h1.1
      obtain ⟨n, rfl⟩ := Int.eq_ofNat_of_zero_le h1.2.2.1
      obtain ⟨c, rfl⟩ := Int.eq_ofNat_of_zero_le h2.2.2.1
      have hrc : r * c ≤ 1048576 := by rw [← Int.natCast_mul] at h5; exact Int.ofNat_le.1 h5
      have hr4 := h1.2.1
      have hn4 := h1.2.2.2.1
      have hc4 := h2.2.2.2.1
      have la := rightm_len h1
      have lb := rightm_len h2
      have hrn : r * n ≤ 1048576 := by rw [← la]; exact h1.2.2.2.2.2
      have hnc : n * c ≤ 1048576 := by rw [← lb]; exact h2.2.2.2.2.2
      rw [times_ok r n c a b h1 h2 hrc k (by omega), Option.bind_some]
      dsimp only
      rw [if_pos rfl, if_pos ⟨h1.1, h1.2.1, h1.2.2.1, h1.2.2.2.1, h2.2.2.1, h2.2.2.2.1⟩]
      obtain ⟨ρ, e1, hρ⟩ := rest_n at_ r hr4
      obtain ⟨κ, e2, hκ⟩ := rest_n at_ n hn4
      obtain ⟨γ, e3, hγ⟩ := rest_n at_ c hc4
      replace e1 : pelotonlaw03_GridParts_1.f at_ r = ρ := e1
      replace e2 : pelotonlaw03_GridParts_1.f at_ n = κ := e2
      replace e3 : pelotonlaw03_GridParts_1.f at_ c = γ := e3
      rw [e1, e2, e3]
      clear e1 e2 e3
      -- the rows
      have g1 := grows_eq k (by omega) r n a 0 ρ h1 (Nat.zero_le _) hρ
      have g2 := grows_eq k (by omega) r n a ρ r h1 hρ (Nat.le_refl _)
      rw [Nat.zero_mul, List.drop_zero, Nat.sub_zero, show ((0 : Nat) : Int) = (0 : Int) from rfl] at g1
      rw [List.take_of_length_le (Nat.le_of_eq la)] at g2
      have hρn : ρ * n ≤ r * n := Nat.mul_le_mul_right n hρ
      have l1 : (a.take (ρ * n)).length = ρ * n := by rw [List.length_take]; omega
      have l2 : (a.drop (ρ * n)).length = (r - ρ) * n := by rw [List.length_drop, la, Nat.sub_mul]
      have b1 : ρ * c ≤ 1048576 := Nat.le_trans (Nat.mul_le_mul_right c hρ) hrc
      have b2 : (r - ρ) * c ≤ 1048576 := Nat.le_trans (Nat.mul_le_mul_right c (Nat.sub_le r ρ)) hrc
      have f1 : RightM ρ n (a.take (ρ * n)).length := rightm_nat ρ n _ (by omega) hn4 l1 (Nat.le_trans hρn hrn)
      have f2 : RightM ((r - ρ : Nat) : Int) n (a.drop (ρ * n)).length := rightm_nat (r - ρ) n _ (by omega) hn4 l2 (Nat.le_trans (Nat.mul_le_mul_right n (Nat.sub_le r ρ)) hrn)
      have t1 := times_ok ρ n c _ b f1 h2 b1 k (by omega)
      have t2 := times_ok (r - ρ) n c _ b f2 h2 b2 k (by omega)
      have er : (ρ : Int) + ((r - ρ : Nat) : Int) = (r : Int) := by omega
      have hTl := timesS_len r n c a b
      have fT : RightM r c (timesS r n c a b).length := rightm_nat r c _ hr4 hc4 hTl hrc
      have hst := stack_pair k (by omega) ρ ((r - ρ : Nat) : Int) c _ _ (rightm_nat ρ c _ (by omega) hc4 (timesS_len ρ n c (a.take (ρ * n)) b) b1) (rightm_nat (r - ρ) c _ (by omega) hc4 (timesS_len (r - ρ) n c (a.drop (ρ * n)) b) b2) (by rw [parts_rows r n c ρ a b la lb hρ, er]; exact fT)
      rw [parts_rows r n c ρ a b la lb hρ, er] at hst
      rw [g1, Option.bind_some, g2, Option.bind_some]
      dsimp only
      rw [t1, Option.bind_some, t2, Option.bind_some]
      dsimp only
      rw [hst, Option.bind_some]
      clear g1 g2 t1 t2 hst f1 f2 l1 l2 er b1 b2 hρn
      -- the columns
      have g3 := gcols_eq k n c b 0 γ h2 (Nat.zero_le _) hγ (by omega)
      have g4 := gcols_eq k n c b γ c h2 hγ (Nat.le_refl _) (by omega)
      have l3 := partS_length b n c 0 γ lb (Nat.zero_le _) hγ n 0 (by omega)
      have l4 := partS_length b n c γ c lb hγ (Nat.le_refl _) n 0 (by omega)
      have p3 := parts_cols r n c 0 γ a b la lb (Nat.zero_le _) hγ
      have p4 := parts_cols r n c γ c a b la lb hγ (Nat.le_refl _)
      rw [Nat.sub_zero] at g3 l3 p3
      rw [show ((0 : Nat) : Int) = (0 : Int) from rfl] at g3
      have f3 : RightM n γ (partS b c 0 γ n 0).length := rightm_nat n γ _ hn4 (by omega) l3 (Nat.le_trans (Nat.mul_le_mul_left n hγ) hnc)
      have f4 : RightM n ((c - γ : Nat) : Int) (partS b c γ c n 0).length := rightm_nat n (c - γ) _ hn4 (by omega) l4 (Nat.le_trans (Nat.mul_le_mul_left n (Nat.sub_le c γ)) hnc)
      have t3 := times_ok r n γ a _ h1 f3 (Nat.le_trans (Nat.mul_le_mul_left r hγ) hrc) k (by omega)
      have t4 := times_ok r n (c - γ) a _ h1 f4 (Nat.le_trans (Nat.mul_le_mul_left r (Nat.sub_le c γ)) hrc) k (by omega)
      rw [p3] at t3
      rw [p4] at t4
      rw [g3, Option.bind_some, g4, Option.bind_some]
      dsimp only
      rw [t3, Option.bind_some, t4, Option.bind_some]
      dsimp only
      rw [beside_cols k (by omega) r c γ _ fT hγ, Option.bind_some]
      clear g3 g4 l3 l4 p3 p4 f3 f4 t3 t4
      -- the middle
      have g5 := gcols_eq k r n a 0 κ h1 (Nat.zero_le _) hκ (by omega)
      have g6 := gcols_eq k r n a κ n h1 hκ (Nat.le_refl _) (by omega)
      have g7 := grows_eq k (by omega) n c b 0 κ h2 (Nat.zero_le _) hκ
      have g8 := grows_eq k (by omega) n c b κ n h2 hκ (Nat.le_refl _)
      have l5 := partS_length a r n 0 κ la (Nat.zero_le _) hκ r 0 (by omega)
      have l6 := partS_length a r n κ n la hκ (Nat.le_refl _) r 0 (by omega)
      rw [Nat.sub_zero] at g5 l5
      rw [show ((0 : Nat) : Int) = (0 : Int) from rfl] at g5
      rw [Nat.zero_mul, List.drop_zero, Nat.sub_zero, show ((0 : Nat) : Int) = (0 : Int) from rfl] at g7
      rw [List.take_of_length_le (Nat.le_of_eq lb)] at g8
      have hκc : κ * c ≤ n * c := Nat.mul_le_mul_right c hκ
      have l7 : (b.take (κ * c)).length = κ * c := by rw [List.length_take]; omega
      have l8 : (b.drop (κ * c)).length = (n - κ) * c := by rw [List.length_drop, lb, Nat.sub_mul]
      have f5 : RightM r κ (partS a n 0 κ r 0).length := rightm_nat r κ _ hr4 (by omega) l5 (Nat.le_trans (Nat.mul_le_mul_left r hκ) hrn)
      have f6 : RightM r ((n - κ : Nat) : Int) (partS a n κ n r 0).length := rightm_nat r (n - κ) _ hr4 (by omega) l6 (Nat.le_trans (Nat.mul_le_mul_left r (Nat.sub_le n κ)) hrn)
      have f7 : RightM κ c (b.take (κ * c)).length := rightm_nat κ c _ (by omega) hc4 l7 (Nat.le_trans hκc hnc)
      have f8 : RightM ((n - κ : Nat) : Int) c (b.drop (κ * c)).length := rightm_nat (n - κ) c _ (by omega) hc4 l8 (Nat.le_trans (Nat.mul_le_mul_right c (Nat.sub_le n κ)) hnc)
      have t5 := times_ok r κ c _ _ f5 f7 hrc k (by omega)
      have t6 := times_ok r (n - κ) c _ _ f6 f8 hrc k (by omega)
      have hz := addP_ok k (by omega) r c _ _ (rightm_nat r c _ hr4 hc4 (timesS_len r κ c (partS a n 0 κ r 0) (b.take (κ * c))) hrc) (rightm_nat r c _ hr4 hc4 (timesS_len r (n - κ) c (partS a n κ n r 0) (b.drop (κ * c))) hrc)
      rw [parts_sum r n c κ a b la lb hκ] at hz
      rw [g5, Option.bind_some, g6, Option.bind_some, g7, Option.bind_some, g8, Option.bind_some]
      dsimp only
      rw [t5, Option.bind_some, t6, Option.bind_some]
      dsimp only
      rw [hz, Option.bind_some]
      dsimp only
      rw [held_ok _ _ _ (by rw [hTl]; exact hrc) k (by omega), Option.bind_some, if_pos rfl, Option.bind_some, if_pos rfl, Option.bind_some]
    · rw [times_bad r n m c a b hT k (by omega), Option.bind_some]
      dsimp only
      rw [if_neg (by simp)]

end Go.Proofs.Ytggcgacndknlaaa.Pure
