/- GridCuts: the law's plain part: what its functions compute answers true, for all arguments of its types. No condition beside the given bounds. -/
import Derived.Test.YtggcgacndknlaaaQGridCutsx8
import Derived.Test.YtggcgacndknlaaaMath
namespace Go.Proofs.Ytggcgacndknlaaa.Pure
open Go.RowKit Go.Proofs.Ytggcgacndknlaaa.QGridCuts Go.Proofs.YtggcgacndknlaaaW.PrintWords Go.Proofs.YtggcgacndknlaaaW.PrintLast Go.Proofs.YtggcgacndknlaaaW.PrintMore Go.PelMath
set_option linter.unusedVariables false
set_option linter.unusedSimpArgs false
theorem wf64 {x : Int} (h : (Lit.int .i64 x).wf = true) : -9223372036854775808 ≤ x ∧ x ≤ 9223372036854775807 := by
  simp [Lit.wf, IntKind.min, IntKind.max, IntKind.bits, IntKind.signed] at h; omega
theorem wf32 {x : Int} (h : (Lit.int .i32 x).wf = true) : -2147483648 ≤ x ∧ x ≤ 2147483647 := by
  simp [Lit.wf, IntKind.min, IntKind.max, IntKind.bits, IntKind.signed] at h; omega
theorem wf8 {x : Int} (h : (Lit.int .i8 x).wf = true) : -128 ≤ x ∧ x ≤ 127 := by
  simp [Lit.wf, IntKind.min, IntKind.max, IntKind.bits, IntKind.signed] at h; omega

def nn (n : Int) : Nat := (mn (mx n 0) 62).toNat
theorem nn_le (n : Int) : nn n ≤ 62 := by unfold nn mn mx; (repeat' split) <;> omega
theorem nn_of (n : Int) (h0 : 0 ≤ n) (h1 : n ≤ 62) : nn n = n.toNat := by unfold nn mn mx; (repeat' split) <;> omega

def clamp (x a b : Int) : Int := if x < a then a else if b < x then b else x
theorem clamp_range (x a b : Int) (h : a ≤ b) : a ≤ clamp x a b ∧ clamp x a b ≤ b := by unfold clamp; (repeat' split) <;> omega
theorem clamp_mono (x y a b : Int) (h : a ≤ b) (hxy : x ≤ y) : clamp x a b ≤ clamp y a b := by unfold clamp; (repeat' split) <;> omega
theorem clamp_id (x a b : Int) (h0 : a ≤ x) (h1 : x ≤ b) : clamp x a b = x := by unfold clamp; (repeat' split) <;> omega

theorem mul32 (x y : Int) (hx : -2147483648 ≤ x ∧ x ≤ 2147483647) (hy : -2147483648 ≤ y ∧ y ≤ 2147483647) : -4611686018427387904 ≤ x * y ∧ x * y ≤ 4611686018427387904 := by
  have h := Int.natAbs_mul x y
  have h1 : x.natAbs ≤ 2147483648 := by omega
  have h2 : y.natAbs ≤ 2147483648 := by omega
  have h3 : x.natAbs * y.natAbs ≤ 2147483648 * 2147483648 := Nat.mul_le_mul h1 h2
  omega

theorem wrap32_range (x : Int) : -2147483648 ≤ wrap32 x ∧ wrap32 x ≤ 2147483647 := by unfold wrap32; omega
theorem wrap32_0 : wrap32 0 = 0 := by unfold wrap32; omega
theorem rd_nat (l : List Int) (i : Nat) (h : i < l.length) : rd l (i : Int) = l[i] := by
  unfold rd; simp [List.getD, h]
theorem drop_cons (l : List Int) (i : Nat) (h : i < l.length) : l.drop i = rd l (i : Int) :: l.drop (i + 1) := by
  rw [rd_nat l i h, List.drop_eq_getElem_cons h]
theorem rd_mem (l : List Int) (i : Nat) (h : i < l.length) : rd l (i : Int) ∈ l := by rw [rd_nat l i h]; exact List.getElem_mem h
theorem next (i n : Nat) (h : i < n) (hn : n ≤ 9223372036854775807) : wrap64 ((i : Int) + 1) = ((i + 1 : Nat) : Int) := by
  rw [wrap64_wf _ (by omega) (by omega)]; omega

def dotI : List Int → List Int → Int
  | x :: a, y :: b => x * y + dotI a b
  | _, _ => 0
def prods : List Int → List Int → List Int
  | x :: a, y :: b => x * y :: prods a b
  | _, _ => []
theorem dotI_nil (a : List Int) : dotI a [] = 0 := by cases a <;> rfl
theorem tot_prods (a : List Int) : ∀ b, tot (prods a b) = dotI a b := by
  induction a with
  | nil => intro b; rfl
  | cons x a ih => intro b; cases b with
    | nil => rfl
    | cons y b => simp only [prods, tot, dotI, ih]
theorem prods_length (a : List Int) : ∀ b, (prods a b).length ≤ a.length := by
  induction a with
  | nil => intro b; simp [prods]
  | cons x a ih => intro b; cases b with
    | nil => simp [prods]
    | cons y b => simp only [prods, List.length_cons]; have := ih b; omega

theorem dotI_split (a : List Int) : ∀ (b : List Int) (k n : Nat), k ≤ n → n = min a.length b.length →
    dotI a b = dotI (a.take k) (b.take k) + dotI ((a.take n).drop k) ((b.take n).drop k) := by
  induction a with
  | nil => intro b k n h hn; simp [dotI]
  | cons x a ih =>
    intro b k n h hn
    cases b with
    | nil => simp [dotI_nil]
    | cons y b =>
      simp only [List.length_cons] at hn
      obtain ⟨n, rfl⟩ : ∃ m, n = m + 1 := ⟨n - 1, by omega⟩
      cases k with
      | zero =>
        have := ih b 0 n (by omega) (by omega)
        simp only [List.take_zero, List.drop_zero, dotI, Int.zero_add, List.take_succ_cons] at this ⊢
        rw [this]
      | succ k =>
        have := ih b k n (by omega) (by omega)
        simp only [List.take_succ_cons, List.drop_succ_cons, dotI]
        rw [this]; omega

theorem rest9 (n : Int) (h : -9223372036854775808 ≤ n ∧ n ≤ 9223372036854775807) : ∃ m : Nat, Int.tmod (wrap64 (Int.tmod n 9 + 9)) 9 = m ∧ m ≤ 8 := by
  have h1 := Int.tmod_lt_of_pos n (show (0 : Int) < 9 by omega)
  have h2 := Int.lt_tmod_of_pos n (show (0 : Int) < 9 by omega)
  rw [wrap64_wf _ (by omega) (by omega), Int.tmod_eq_emod_of_nonneg (by omega)]
  exact ⟨((Int.tmod n 9 + 9) % 9).toNat, by omega, by omega⟩

theorem rest31 (n : Int) (h : -9223372036854775808 ≤ n ∧ n ≤ 9223372036854775807) : ∃ m : Nat, Int.tmod (wrap64 (Int.tmod n 31 + 31)) 31 = m ∧ m ≤ 30 := by
  have h1 := Int.tmod_lt_of_pos n (show (0 : Int) < 31 by omega)
  have h2 := Int.lt_tmod_of_pos n (show (0 : Int) < 31 by omega)
  rw [wrap64_wf _ (by omega) (by omega), Int.tmod_eq_emod_of_nonneg (by omega)]
  exact ⟨((Int.tmod n 31 + 31) % 31).toNat, by omega, by omega⟩

theorem mulb {a b A B : Int} (h0 : 0 ≤ a) (h1 : a ≤ A) (h2 : 0 ≤ b) (h3 : b ≤ B) : 0 ≤ a * b ∧ a * b ≤ A * B :=
  ⟨Int.mul_nonneg h0 h2, Int.mul_le_mul h1 h3 h2 (Int.le_trans h0 h1)⟩

def RightM (r c : Int) (n : Nat) : Prop := 0 ≤ r ∧ r ≤ 4096 ∧ 0 ≤ c ∧ c ≤ 4096 ∧ (n : Int) = r * c ∧ n ≤ 1048576
instance (r c : Int) (n : Nat) : Decidable (RightM r c n) := by unfold RightM; infer_instance

def rowOf (v : List Int) (c i : Nat) : List Int := (v.take ((i + 1) * c)).drop (i * c)
def applyS (r c : Nat) (v x : List Int) : List Int := (List.range r).map fun i => wrap32 (dotI (rowOf v c i) x)
theorem applyS_length (r c : Nat) (v x : List Int) : (applyS r c v x).length = r := by simp [applyS]
theorem row_in (v : List Int) (r c i : Nat) (h : v.length = r * c) (hi : i < r) : i * c + c ≤ v.length := by
  have := Nat.mul_le_mul_right c (show i + 1 ≤ r by omega)
  rw [Nat.add_mul] at this; omega
theorem rowOf_length (v : List Int) (r c i : Nat) (h : v.length = r * c) (hi : i < r) : (rowOf v c i).length = c := by
  have := row_in v r c i h hi
  simp only [rowOf, List.length_drop, List.length_take, Nat.add_mul]; omega
theorem rowOf_mem {v : List Int} {c i : Nat} {x : Int} (h : x ∈ rowOf v c i) : x ∈ v := List.mem_of_mem_take (List.mem_of_mem_drop h)
theorem rowOf_rd (v : List Int) (r c i j : Nat) (h : v.length = r * c) (hi : i < r) (hj : j < c) : rd (rowOf v c i) (j : Int) = rd v ((i * c + j : Nat) : Int) := by
  have h1 := row_in v r c i h hi
  have h2 := rowOf_length v r c i h hi
  rw [rd_nat _ j (by omega), rd_nat v _ (by omega)]
  simp only [rowOf, List.getElem_drop, List.getElem_take]
theorem map_range_drop (n i : Nat) (f : Nat → Int) (h : i < n) : ((List.range n).map f).drop i = f i :: ((List.range n).map f).drop (i + 1) := by
  rw [List.drop_eq_getElem_cons (by simpa using h)]; simp
theorem applyS_drop (r c i : Nat) (v x : List Int) (h : i < r) : (applyS r c v x).drop i = wrap32 (dotI (rowOf v c i) x) :: (applyS r c v x).drop (i + 1) := map_range_drop r i _ h
theorem applyS_rd (r c i : Nat) (v x : List Int) (h : i < r) : rd (applyS r c v x) (i : Int) = wrap32 (dotI (rowOf v c i) x) := by
  rw [rd_nat _ i (by rw [applyS_length]; exact h)]; simp [applyS]
theorem applyS_congr (r c : Nat) (v x : List Int) (f : Nat → Int) (h : ∀ i, i < r → wrap32 (dotI (rowOf v c i) x) = f i) : applyS r c v x = (List.range r).map f := by
  apply List.map_congr_left; intro i hi; exact h i (List.mem_range.1 hi)
theorem rowOf_eq (v : List Int) (c i : Nat) : (v.take ((i + 1) * c)).drop (i * c) = rowOf v c i := rfl
attribute [irreducible] rowOf applyS

def partS (v : List Int) (c lo hi : Nat) : Nat → Nat → List Int
  | 0, _ => []
  | d + 1, i => (v.take (i * c + hi)).drop (i * c + lo) ++ partS v c lo hi d (i + 1)
theorem seg_length (v : List Int) (a b : Nat) (h : b ≤ v.length) : ((v.take b).drop a).length = b - a := by
  simp only [List.length_drop, List.length_take]; omega
theorem seg_mem {v : List Int} {a b : Nat} {x : Int} (h : x ∈ (v.take b).drop a) : x ∈ v := List.mem_of_mem_take (List.mem_of_mem_drop h)
theorem seg_join (v : List Int) (a m b : Nat) (h0 : a ≤ m) (h1 : m ≤ b) (h2 : b ≤ v.length) : (v.take m).drop a ++ (v.take b).drop m = (v.take b).drop a := by
  have e : v.take m = (v.take b).take m := by rw [List.take_take, Nat.min_eq_left h1]
  have hl : (v.take b).length = b := by rw [List.length_take]; omega
  generalize v.take b = w at *
  rw [e]
  conv => rhs; rw [← List.take_append_drop m w]
  rw [List.drop_append, List.length_take]
  rw [show a - min m w.length = 0 by omega]; rfl
theorem seg_full (v : List Int) (b : Nat) : (v.take b).drop b = [] := by
  apply List.drop_eq_nil_of_le; rw [List.length_take]; omega
theorem seg_cons (v : List Int) (a b : Nat) (h0 : a < b) (h1 : b ≤ v.length) : (v.take b).drop a = rd v (a : Int) :: (v.take b).drop (a + 1) := by
  rw [List.drop_eq_getElem_cons (by rw [List.length_take]; omega), List.getElem_take, rd_nat v a (by omega)]
theorem row_end (v : List Int) (r c i : Nat) (h : v.length = r * c) (hi : i < r) : i * c + c ≤ v.length := by
  have := Nat.mul_le_mul_right c (show i + 1 ≤ r by omega)
  rw [Nat.add_mul] at this; omega
theorem partS_mem (v : List Int) (c lo hi : Nat) : ∀ d i x, x ∈ partS v c lo hi d i → x ∈ v := by
  intro d
  induction d with
  | zero => intro i x h; simp [partS] at h
  | succ d ih =>
    intro i x h
    rw [partS, List.mem_append] at h
    rcases h with h | h
    · exact seg_mem h
    · exact ih _ _ h
theorem partS_length (v : List Int) (r c lo hi : Nat) (hv : v.length = r * c) (h0 : lo ≤ hi) (h1 : hi ≤ c) : ∀ d i, i + d ≤ r → (partS v c lo hi d i).length = d * (hi - lo) := by
  intro d
  induction d with
  | zero => intro i h; simp [partS]
  | succ d ih =>
    intro i h
    have := row_end v r c i hv (by omega)
    rw [partS, List.length_append, ih (i + 1) (by omega), seg_length _ _ _ (by omega), Nat.add_mul]; omega
theorem partS_rows (v : List Int) (r c : Nat) (hv : v.length = r * c) : ∀ d i, i + d ≤ r → partS v c 0 c d i = (v.take ((i + d) * c)).drop (i * c) := by
  intro d
  induction d with
  | zero => intro i h; rw [partS, Nat.add_zero, seg_full]
  | succ d ih =>
    intro i h
    have h1 := row_end v r c i hv (by omega)
    have h2 : (i + (d + 1)) * c ≤ v.length := by rw [hv]; exact Nat.mul_le_mul_right c h
    have h3 : (i + 1) * c = i * c + c := by rw [Nat.add_mul, Nat.one_mul]
    have h4 : (i + 1) * c ≤ (i + (d + 1)) * c := Nat.mul_le_mul_right c (by omega)
    rw [partS, ih (i + 1) (by omega), h3, show i + 1 + d = i + (d + 1) by omega, Nat.add_zero]
    exact seg_join v _ _ _ (by omega) (by omega) h2
attribute [irreducible] partS

def Right3 (r c : Int) (n : Nat) : Prop := 0 ≤ r ∧ r ≤ 4096 ∧ 0 ≤ c ∧ c ≤ 4096 ∧ (n : Int) = r * c
instance (r c : Int) (n : Nat) : Decidable (Right3 r c n) := by unfold Right3; infer_instance
theorem right3_m (r c : Int) (n : Nat) : RightM r c n ↔ Right3 r c n ∧ n ≤ 1048576 := by
  unfold RightM Right3
  constructor
  · rintro ⟨a, b, c, d, e, f⟩; exact ⟨⟨a, b, c, d, e⟩, f⟩
  · rintro ⟨⟨a, b, c, d, e⟩, f⟩; exact ⟨a, b, c, d, e, f⟩

theorem gside_eq (n : Int) : grid_side.f n = some (decide (0 ≤ n ∧ n ≤ 4096)) := by
  unfold grid_side.f
  by_cases h : 0 ≤ n
  · rw [if_pos h]; simp [h]
  · rw [if_neg h]; simp [h]

theorem gright1_eq (r c : Int) (v : List Int) : grid_Right_1.f r c v = some (!decide (Right3 r c v.length)) := by
  unfold grid_Right_1.f
  rw [gside_eq, gside_eq]
  simp only [Option.bind_some, decide_eq_true_eq]
  by_cases h1 : 0 ≤ r ∧ r ≤ 4096
  · rw [if_pos h1]
    by_cases h2 : 0 ≤ c ∧ c ≤ 4096
    · rw [if_pos h2]
      have hb := mulb h1.1 h1.2 h2.1 h2.2
      rw [wrap64_wf _ (by omega) (by omega)]
      by_cases h3 : (v.length : Int) = r * c
      · have hm : Right3 r c v.length := ⟨h1.1, h1.2, h2.1, h2.2, h3⟩
        rw [decide_eq_true hm, bne_eq_false_iff_eq.2 h3]; rfl
      · rw [decide_eq_false (fun h : Right3 r c v.length => h3 h.2.2.2.2), bne_iff_ne.2 h3]; rfl
    · rw [if_neg h2, decide_eq_false (fun h => h2 ⟨h.2.2.1, h.2.2.2.1⟩)]; rfl
  · rw [if_neg h1, decide_eq_false (fun h => h1 ⟨h.1, h.2.1⟩)]; rfl

theorem right03_eq (r c : Int) (v : List Int) : pelotonref03_Right.f r c v = some (decide (Right3 r c v.length)) := by
  unfold pelotonref03_Right.f
  by_cases h1 : r ≥ 0
  · by_cases h2 : c ≥ 0
    · by_cases h3 : r ≤ 4096
      · by_cases h4 : c ≤ 4096
        · have hb := mulb h1 h3 h2 h4
          rw [if_pos h1, if_pos h2, if_pos h3, if_pos h4, wrap64_wf _ (by omega) (by omega)]
          by_cases h5 : (v.length : Int) = r * c
          · have hm : Right3 r c v.length := ⟨h1, h3, h2, h4, h5⟩
            rw [beq_iff_eq.2 h5, decide_eq_true hm]
          · rw [beq_eq_false_iff_ne.2 h5, decide_eq_false (fun h => h5 h.2.2.2.2)]
        · rw [if_pos h1, if_pos h2, if_pos h3, if_neg h4, decide_eq_false (fun h => h4 h.2.2.2.1)]
      · rw [if_pos h1, if_pos h2, if_neg h3, decide_eq_false (fun h => h3 h.2.1)]
    · rw [if_pos h1, if_neg h2, decide_eq_false (fun h => h2 h.2.2.1)]
  · rw [if_neg h1, decide_eq_false (fun h => h1 h.1)]

theorem fit03_eq (r c : Int) (v : List Int) : pelotonref03_Fit.f r c v = some (decide (RightM r c v.length)) := by
  unfold pelotonref03_Fit.f
  rw [right03_eq, Option.bind_some]
  by_cases h : Right3 r c v.length
  · rw [decide_eq_true h, if_pos rfl]
    by_cases g : (v.length : Int) ≤ 1048576
    · rw [decide_eq_true g, decide_eq_true ((right3_m r c v.length).2 ⟨h, by omega⟩)]
    · rw [decide_eq_false g, decide_eq_false (fun e => g (by have := ((right3_m r c v.length).1 e).2; omega))]
  · rw [decide_eq_false h, if_neg (by simp), decide_eq_false (fun e => h ((right3_m r c v.length).1 e).1)]

theorem cell_eq (r c : Int) (v : List Int) (i j n : Int) (m : Nat) (h1 : wrap64 (i * c) = n) (h2 : wrap64 (n + j) = (m : Int)) (hm : m < v.length) : pelotonref03_Cell.f r c v i j = some (rd v (m : Int)) := by
  unfold pelotonref03_Cell.f
  rw [h1, h2, if_pos (Int.natCast_nonneg m), if_pos (Int.ofNat_lt.2 hm)]

theorem dotI_zero (a : List Int) : ∀ n, dotI a (List.replicate n 0) = 0 := by
  induction a with
  | nil => intro n; rfl
  | cons x a ih => intro n; cases n with
    | zero => rfl
    | succ n => simp only [List.replicate_succ, dotI, ih]; omega
theorem dotI_unit (a : List Int) : ∀ (n i : Nat), i < n → i < a.length → dotI a ((List.replicate n 0).set i 1) = rd a (i : Int) := by
  induction a with
  | nil => intro n i h1 h2; simp at h2
  | cons x a ih => intro n i h1 h2; cases n with
    | zero => omega
    | succ n => cases i with
      | zero => simp only [List.replicate_succ, List.set_cons_zero, dotI, dotI_zero]; rw [rd_nat _ 0 (by simp)]; simp
      | succ i =>
        simp only [List.length_cons] at h2
        simp only [List.replicate_succ, List.set_cons_succ, dotI]
        rw [ih n i (by omega) (by omega), rd_nat _ (i + 1) (by simp; omega), rd_nat a i (by omega)]; simp
theorem restp (x n : Int) (h0 : 0 < n) (h1 : n ≤ 4611686018427387904) : ∃ m : Nat, Int.tmod (wrap64 (Int.tmod x n + n)) n = m ∧ (m : Int) < n := by
  have g1 := Int.tmod_lt_of_pos x h0
  have g2 := Int.lt_tmod_of_pos x h0
  rw [wrap64_wf _ (by omega) (by omega), Int.tmod_eq_emod_of_nonneg (by omega)]
  have e1 := Int.emod_nonneg (Int.tmod x n + n) (show n ≠ 0 by omega)
  have e2 := Int.emod_lt_of_pos (Int.tmod x n + n) h0
  exact ⟨((Int.tmod x n + n) % n).toNat, by omega, by omega⟩

theorem rd_set (l : List Int) (n p : Nat) (v : Int) (hn : n < l.length) : rd (l.set n v) (p : Int) = if n = p then v else rd l (p : Int) := by
  unfold rd
  rw [Int.toNat_natCast, List.getD_eq_getElem?_getD, List.getD_eq_getElem?_getD, List.getElem?_set]
  by_cases h : n = p
  · subst h; simp [hn]
  · simp [h]
theorem row_rd (l : List Int) (c i j : Nat) (hj : j < c) (hl : i * c + c ≤ l.length) : rd (grid_row.L l (c : Int) (i : Int)) (j : Int) = rd l ((i * c + j : Nat) : Int) := by
  have e1 : ((i : Int) * (c : Int) + (c : Int)).toNat = i * c + c := by rw [← Int.natCast_mul]; generalize i * c = D; omega
  have e2 : ((i : Int) * (c : Int)).toNat = i * c := by rw [← Int.natCast_mul]; generalize i * c = D; omega
  unfold grid_row.L
  rw [e1, e2]
  unfold rd
  rw [Int.toNat_natCast, Int.toNat_natCast, List.getD_eq_getElem?_getD, List.getD_eq_getElem?_getD, List.getElem?_drop, List.getElem?_take_of_lt (by omega)]
theorem inn_len (y : List Int) (lo x : Int) : ∀ (m : Nat) (j : Int) (xs : List Int), (grid_Times.inn y lo x m j xs).length = xs.length := by
  intro m
  induction m with
  | zero => intro j xs; rfl
  | succ m ih => intro j xs; rw [grid_Times.inn, ih, List.length_set]
theorem inn_rd (y : List Int) (lo : Nat) (x : Int) : ∀ (m j : Nat) (xs : List Int), lo + (j + m) ≤ xs.length → ∀ p : Nat, p < xs.length →
    rd (grid_Times.inn y lo x m j xs) (p : Int) = if lo + j ≤ p ∧ p < lo + j + m then wrap32 (rd xs (p : Int) + wrap32 (x * rd y ((p - lo : Nat) : Int))) else rd xs (p : Int) := by
  intro m
  induction m with
  | zero => intro j xs h p hp; rw [if_neg (by omega)]; rfl
  | succ m ih =>
    intro j xs h p hp
    have e : ((lo : Int) + (j : Int)).toNat = lo + j := by omega
    have e2 : ((j : Int) + 1) = ((j + 1 : Nat) : Int) := by omega
    have e3 : ((lo : Int) + (j : Int)) = ((lo + j : Nat) : Int) := by omega
    rw [grid_Times.inn, e, e2, ih (j + 1) _ (by rw [List.length_set]; omega) p (by rw [List.length_set]; exact hp), rd_set _ _ _ _ (by omega), e3]
    by_cases c1 : lo + j = p
    · subst c1
      rw [if_neg (by omega), if_pos rfl, if_pos (by omega), show lo + j - lo = j by omega]
    · rw [if_neg c1]
      by_cases c2 : lo + (j + 1) ≤ p ∧ p < lo + (j + 1) + m
      · rw [if_pos c2, if_pos (by omega)]
      · rw [if_neg c2, if_neg (by omega)]
def Sm (a b : List Int) (n c i j : Nat) : Nat → Int
  | 0 => 0
  | m + 1 => Sm a b n c i j m + rd a ((i * n + m : Nat) : Int) * rd b ((m * c + j : Nat) : Int)
theorem mid_len (a b : List Int) (n c i : Int) : ∀ (m : Nat) (k : Int) (xs : List Int), (grid_Times.mid a b n c i m k xs).length = xs.length := by
  intro m
  induction m with
  | zero => intro j xs; rfl
  | succ m ih => intro j xs; rw [grid_Times.mid, ih, inn_len]
theorem mul_in (r c i : Nat) (h : i < r) : i * c + c ≤ r * c := by
  have := Nat.mul_le_mul_right c (show i + 1 ≤ r from h)
  rwa [Nat.add_mul, Nat.one_mul] at this
theorem mid_rd (a b : List Int) (r n c i : Nat) (ha : a.length = r * n) (hb : b.length = n * c) (hi : i < r) : ∀ (m k : Nat) (xs : List Int), k + m ≤ n → xs.length = r * c → ∀ p : Nat, p < r * c →
    (¬ (i * c ≤ p ∧ p < i * c + c) → rd (grid_Times.mid a b n c i m k xs) (p : Int) = rd xs (p : Int)) ∧
    (∀ j, j < c → p = i * c + j → rd xs (p : Int) = wrap32 (Sm a b n c i j k) → rd (grid_Times.mid a b n c i m k xs) (p : Int) = wrap32 (Sm a b n c i j (k + m))) := by
  intro m
  induction m with
  | zero => intro k xs hk hx p hp; exact ⟨fun _ => rfl, fun j hj hpj h => h⟩
  | succ m ih =>
    intro k xs hk hx p hp
    have e2 : ((k : Int) + 1) = ((k + 1 : Nat) : Int) := by omega
    have e3 : ((i : Int) * (c : Int)) = ((i * c : Nat) : Int) := (Int.natCast_mul i c).symm
    have hic := mul_in r c i hi
    have hin := mul_in r n i hi
    have hkc := mul_in n c k (by omega)
    rw [grid_Times.mid, e2, e3, Int.toNat_natCast]
    have hi1 := inn_rd (grid_row.L b c k) (i * c) (rd (grid_row.L a n i) k) c 0 xs (by omega) p (by omega)
    obtain ⟨g1, g2⟩ := ih (k + 1) (grid_Times.inn (grid_row.L b c k) ((i * c : Nat) : Int) (rd (grid_row.L a n i) k) c 0 xs) (by omega) (by rw [inn_len]; exact hx) p hp
    constructor
    · intro hn
      rw [g1 hn]
      rw [if_neg (by omega)] at hi1
      exact hi1
    · intro j hj hpj h
      rw [g2 j hj hpj, show k + 1 + m = k + (m + 1) by omega]
      rw [if_pos (by omega), h, show p - i * c = j by omega, row_rd b c k j hj (by omega)] at hi1
      refine hi1.trans ?_
      rw [wrap32_add_left, wrap32_add_right, row_rd a n i k (by omega) (by omega)]
      rfl
theorem out_len (a b : List Int) (n c : Int) : ∀ (m : Nat) (k : Int) (xs : List Int), (grid_Times.out a b n c m k xs).length = xs.length := by
  intro m
  induction m with
  | zero => intro j xs; rfl
  | succ m ih => intro j xs; rw [grid_Times.out, ih, mid_len]
theorem idx_lt (r c i j : Nat) (hi : i < r) (hj : j < c) : i * c + j < r * c := by have := mul_in r c i hi; omega
theorem idx_ne (c i i' j : Nat) (hj : j < c) (h : i ≠ i') : ¬ (i * c ≤ i' * c + j ∧ i' * c + j < i * c + c) := by
  intro ⟨h1, h2⟩
  rcases Nat.lt_or_ge i i' with g | g
  · have := mul_in i' c i g; omega
  · have := mul_in i c i' (by omega); omega
theorem out_rd (a b : List Int) (r n c : Nat) (ha : a.length = r * n) (hb : b.length = n * c) : ∀ (m i : Nat) (xs : List Int), i + m = r → xs.length = r * c → (∀ i' j, i ≤ i' → i' < r → j < c → rd xs ((i' * c + j : Nat) : Int) = 0) → (∀ i' j, i' < i → j < c → rd xs ((i' * c + j : Nat) : Int) = wrap32 (Sm a b n c i' j n)) →
    ∀ i' j, i' < r → j < c → rd (grid_Times.out a b n c m i xs) ((i' * c + j : Nat) : Int) = wrap32 (Sm a b n c i' j n) := by
  intro m
  induction m with
  | zero => intro i xs hi hx h0 h1 i' j hi' hj; exact h1 i' j (by omega) hj
  | succ m ih =>
    intro i xs hi hx h0 h1 i' j hi' hj
    have e2 : ((i : Int) + 1) = ((i + 1 : Nat) : Int) := by omega
    rw [grid_Times.out, e2, Int.toNat_natCast]
    refine ih (i + 1) _ (by omega) (by rw [mid_len]; exact hx) ?_ ?_ i' j hi' hj
    · intro i'' j' g1 g2 g3
      have := (mid_rd a b r n c i ha hb (by omega) n 0 xs (by omega) hx (i'' * c + j') (idx_lt r c i'' j' g2 g3)).1 (idx_ne c i i'' j' g3 (by omega))
      refine Eq.trans this (h0 i'' j' (by omega) g2 g3)
    · intro i'' j' g1 g3
      obtain ⟨f1, f2⟩ := mid_rd a b r n c i ha hb (by omega) n 0 xs (by omega) hx (i'' * c + j') (idx_lt r c i'' j' (by omega) g3)
      by_cases he : i'' = i
      · subst he
        have := f2 j' g3 rfl (by rw [h0 i'' j' (Nat.le_refl _) (by omega) g3]; exact wrap32_0.symm)
        rw [Nat.zero_add] at this
        exact this
      · exact Eq.trans (f1 (idx_ne c i i'' j' g3 (fun h => he h.symm))) (h1 i'' j' (by omega) g3)
theorem take_snoc (X : List Int) (q : Nat) (h : q < X.length) : X.take q ++ [rd X (q : Int)] = X.take (q + 1) := by
  rw [List.take_add_one, rd_nat X q h, List.getElem?_eq_getElem h]; rfl

theorem rdT_nat (l : List S24) (i : Nat) (h : i < l.length) : rd_T24 l (i : Int) = l[i] := by
  unfold rd_T24; rw [Int.toNat_natCast, List.getD_eq_getElem?_getD, List.getElem?_eq_getElem h]; rfl
theorem dropT_cons (l : List S24) (i : Nat) (h : i < l.length) : l.drop i = rd_T24 l (i : Int) :: l.drop (i + 1) := by
  rw [rdT_nat l i h]; exact List.drop_eq_getElem_cons h

theorem gr_loop (l : List S24) (hl : l.length ≤ 9223372036854775807) : ∀ (d k i : Nat), i + d = l.length → d < k →
    ∃ r, api_Grid_46_at_grid_Right_1.l0 k l (l.length : Int) i = some r ∧ decide (r ≥ 0) = (l.drop i).any (fun g => !decide (Right3 g.f0 g.f1 g.f2.length)) := by
  intro d
  induction d with
  | zero =>
    intro k i hi hk
    obtain ⟨k, rfl⟩ : ∃ m, k = m + 1 := ⟨k - 1, by omega⟩
    refine ⟨-1, ?_, by rw [List.drop_of_length_le (by omega)]; rfl⟩
    simp only [api_Grid_46_at_grid_Right_1.l0]
    rw [if_neg (by omega)]
  | succ d ih =>
    intro k i hi hk
    obtain ⟨k, rfl⟩ : ∃ m, k = m + 1 := ⟨k - 1, by omega⟩
    simp only [api_Grid_46_at_grid_Right_1.l0]
    rw [if_pos (by omega), if_pos (by omega), if_pos (by omega), gright1_eq, Option.bind_some, next i _ (show i < l.length by omega) hl, dropT_cons l i (by omega), List.any_cons]
    by_cases h : Right3 (rd_T24 l (i : Int)).f0 (rd_T24 l (i : Int)).f1 (rd_T24 l (i : Int)).f2.length
    · rw [decide_eq_true h, if_neg (by simp), Bool.not_true, Bool.false_or]
      exact ih k (i + 1) (by omega) (by omega)
    · rw [decide_eq_false h, if_pos (by simp), Bool.not_false, Bool.true_or]
      exact ⟨_, rfl, decide_eq_true (by omega)⟩
theorem gf_loop (l : List S24) (hl : l.length ≤ 9223372036854775807) : ∀ (d k i : Nat), i + d = l.length → d < k →
    ∃ r, api_Grid_46_at_grid_fit_1.l0 k l (l.length : Int) i = some r ∧ decide (r ≥ 0) = (l.drop i).any (fun g => decide (¬ g.f2.length ≤ 1048576)) := by
  intro d
  induction d with
  | zero =>
    intro k i hi hk
    obtain ⟨k, rfl⟩ : ∃ m, k = m + 1 := ⟨k - 1, by omega⟩
    refine ⟨-1, ?_, by rw [List.drop_of_length_le (by omega)]; rfl⟩
    simp only [api_Grid_46_at_grid_fit_1.l0]
    rw [if_neg (by omega)]
  | succ d ih =>
    intro k i hi hk
    obtain ⟨k, rfl⟩ : ∃ m, k = m + 1 := ⟨k - 1, by omega⟩
    simp only [api_Grid_46_at_grid_fit_1.l0, grid_fit_1.f]
    rw [if_pos (by omega), if_pos (by omega), if_pos (by omega), Option.bind_some, next i _ (show i < l.length by omega) hl, dropT_cons l i (by omega), List.any_cons]
    by_cases h : (rd_T24 l (i : Int)).f2.length ≤ 1048576
    · rw [decide_eq_false (by omega), if_neg (by simp), decide_eq_false (fun g => g h), Bool.false_or]
      exact ih k (i + 1) (by omega) (by omega)
    · rw [decide_eq_true (by omega), if_pos rfl, decide_eq_true h, Bool.true_or]
      exact ⟨_, rfl, decide_eq_true (by omega)⟩
def FitG (g : S24) : Prop := RightM g.f0 g.f1 g.f2.length
instance (g : S24) : Decidable (FitG g) := by unfold FitG; infer_instance
theorem right_all (k : Nat) (l : List S24) (hl : l.length ≤ 9223372036854775806) (hk : l.length < k) : grid_Right.f k l = some (l.all fun g => decide (Right3 g.f0 g.f1 g.f2.length)) := by
  obtain ⟨r, h1, h2⟩ := gr_loop l (by omega) l.length k 0 (by omega) hk
  unfold grid_Right.f api_Grid_39_at_grid_Right_1.f api_Grid_46_at_grid_Right_1.f
  rw [show (0 : Int) = ((0 : Nat) : Int) from rfl, h1]
  simp only [Option.bind_some]
  rw [show ((0 : Nat) : Int) = (0 : Int) from rfl] at *
  rw [h2, List.drop_zero, List.all_eq_not_any_not]
theorem fit_all (k : Nat) (l : List S24) (hl : l.length ≤ 9223372036854775806) (hk : l.length < k) : grid_fit.f k l = some (l.all fun g => decide (FitG g)) := by
  obtain ⟨r, h1, h2⟩ := gf_loop l (by omega) l.length k 0 (by omega) hk
  unfold grid_fit.f api_Grid_39_at_grid_fit_1.f api_Grid_46_at_grid_fit_1.f
  rw [right_all k l hl hk, show (0 : Int) = ((0 : Nat) : Int) from rfl, h1]
  simp only [Option.bind_some]
  rw [show ((0 : Nat) : Int) = (0 : Int) from rfl] at *
  have e : ∀ g : S24, decide (FitG g) = (decide (Right3 g.f0 g.f1 g.f2.length) && decide (g.f2.length ≤ 1048576)) := by
    intro g
    rw [← Bool.decide_and]
    exact decide_eq_decide.2 (right3_m g.f0 g.f1 g.f2.length)
  by_cases c : (l.all fun g => decide (Right3 g.f0 g.f1 g.f2.length)) = true
  · rw [if_pos c, h2, List.drop_zero]
    rw [List.all_eq_true] at c
    congr 1
    rw [Bool.eq_iff_iff, List.all_eq_true, Bool.not_eq_true', List.any_eq_false]
    constructor
    · intro h g hg
      rw [e, c g hg, Bool.true_and]
      have := h g hg
      simp only [decide_eq_true_eq] at this ⊢
      omega
    · intro h g hg
      have := h g hg
      rw [e, c g hg, Bool.true_and] at this
      simp only [decide_eq_true_eq] at this ⊢
      omega
  · rw [if_neg c]
    congr 1
    symm
    rw [Bool.eq_false_iff]
    intro h
    apply c
    rw [List.all_eq_true] at h ⊢
    intro g hg
    have := h g hg
    rw [e, Bool.and_eq_true] at this
    exact this.1
theorem len2 {x y : S24} : [x, y].length ≤ 9223372036854775806 := by rw [List.length_cons, List.length_cons, List.length_nil]; omega
theorem len2k {x y : S24} (k : Nat) (h : 3 < k) : [x, y].length < k := by rw [List.length_cons, List.length_cons, List.length_nil]; omega

theorem new_eq (r c : Int) (h : 0 ≤ r ∧ r ≤ 4096 ∧ 0 ≤ c ∧ c ≤ 4096 ∧ r * c ≤ 1048576) : grid_New.f r c = some (r, c, List.replicate (r * c).toNat 0, 0) := by
  obtain ⟨h1, h2, h3, h4, h5⟩ := h
  have hb := mulb h1 h2 h3 h4
  unfold grid_New.f
  rw [gside_eq, gside_eq, decide_eq_true (show 0 ≤ r ∧ r ≤ 4096 from ⟨h1, h2⟩), decide_eq_true (show 0 ≤ c ∧ c ≤ 4096 from ⟨h3, h4⟩), Option.bind_some, if_pos rfl, Option.bind_some, if_pos rfl, wrap64_wf _ (by omega) (by omega), if_neg (by omega), if_pos hb.1, if_pos (by omega)]
theorem new_bad (r c : Int) (h : ¬ (0 ≤ r ∧ r ≤ 4096 ∧ 0 ≤ c ∧ c ≤ 4096 ∧ r * c ≤ 1048576)) : grid_New.f r c = some (0, 0, [], 30) := by
  unfold grid_New.f
  rw [gside_eq, gside_eq, Option.bind_some, Option.bind_some]
  by_cases h1 : 0 ≤ r ∧ r ≤ 4096
  · by_cases h2 : 0 ≤ c ∧ c ≤ 4096
    · have hb := mulb h1.1 h1.2 h2.1 h2.2
      rw [decide_eq_true h1, decide_eq_true h2, if_pos rfl, if_pos rfl, wrap64_wf _ (by omega) (by omega), if_pos (by omega)]
    · rw [decide_eq_true h1, decide_eq_false h2, if_pos rfl, if_neg (by simp)]
  · rw [decide_eq_false h1, if_neg (by simp)]

theorem same3_loop (r c r' c' : Int) (a b : List Int) (ha : a.length ≤ 9223372036854775807) (hab : a.length = b.length) : ∀ (d k i : Nat), i + d = a.length → d < k →
    pelotonref03_Same.l0 k i r c a r' c' b = some (decide (a.drop i = b.drop i)) := by
  intro d
  induction d with
  | zero =>
    intro k i hi hk
    obtain ⟨k, rfl⟩ : ∃ m, k = m + 1 := ⟨k - 1, by omega⟩
    simp only [pelotonref03_Same.l0]
    rw [if_neg (by omega), List.drop_of_length_le (by omega), List.drop_of_length_le (by omega)]; simp
  | succ d ih =>
    intro k i hi hk
    obtain ⟨k, rfl⟩ : ∃ m, k = m + 1 := ⟨k - 1, by omega⟩
    simp only [pelotonref03_Same.l0]
    rw [if_pos (by omega), if_pos (by omega), if_pos (by omega), next i _ (show i < a.length by omega) ha, ih k (i + 1) (by omega) (by omega), drop_cons a i (by omega), drop_cons b i (by omega)]
    by_cases hc : rd a (i : Int) = rd b (i : Int)
    · rw [if_pos hc]; simp [hc]
    · rw [if_neg hc]; simp [hc]
theorem same3_self (r c : Int) (a : List Int) (ha : a.length ≤ 1048576) (k : Nat) (hk : 1048579 < k) : pelotonref03_Same.f k r c a r c a = some true := by
  obtain ⟨k, rfl⟩ : ∃ m, k = m + 1 := ⟨k - 1, by omega⟩
  unfold pelotonref03_Same.f
  rw [if_pos rfl, if_pos rfl]
  simp only [bne_self_eq_false, pelotonref03_Same.j0]
  rw [if_neg (by simp)]
  have := same3_loop r c r c a a (by omega) rfl a.length k 0 (by omega) (by omega)
  simpa using this

theorem held_ok (r c : Int) (a : List Int) (ha : a.length ≤ 1048576) (k : Nat) (hk : 1048579 < k) : pelotonlaw03_held.f k r c a 0 r c a true = some true := by
  unfold pelotonlaw03_held.f
  rw [if_pos rfl, if_pos rfl, same3_self r c a ha k hk]; rfl
theorem held_no (r c : Int) (a : List Int) (k : Nat) (hk : 1048579 < k) : pelotonlaw03_held.f k 0 0 [] 30 r c a false = some true := by
  unfold pelotonlaw03_held.f
  rw [if_neg (by simp), if_pos rfl, same3_self 0 0 [] (Nat.zero_le _) k hk]; rfl

theorem small_loop (l : List S24) (hl : l.length ≤ 9223372036854775806) : ∀ (d k i : Nat), i + d = l.length → d < k →
    ∃ b, pelotonlaw03_small.l0 k l i = some b ∧ (b = true → ∀ g ∈ l.drop i, g.f2.length ≤ 400) ∧ (b = true → l.length ≤ 12 ∨ l.length ≤ i) := by
  intro d
  induction d with
  | zero =>
    intro k i hi hk
    obtain ⟨k, rfl⟩ : ∃ m, k = m + 1 := ⟨k - 1, by omega⟩
    refine ⟨true, ?_, fun _ g hg => ?_, fun _ => Or.inr (by omega)⟩
    · simp only [pelotonlaw03_small.l0]; rw [if_neg (by omega)]
    · rw [List.drop_of_length_le (by omega)] at hg; cases hg
  | succ d ih =>
    intro k i hi hk
    obtain ⟨k, rfl⟩ : ∃ m, k = m + 1 := ⟨k - 1, by omega⟩
    simp only [pelotonlaw03_small.l0]
    rw [if_pos (by omega)]
    by_cases h1 : (i : Int) ≥ 12
    · exact ⟨false, by rw [if_pos h1], fun h => absurd h (by decide), fun h => absurd h (by decide)⟩
    · rw [if_neg h1, if_pos (by omega)]
      by_cases h2 : ((rd_T24 l (i : Int)).f2.length : Int) > 400
      · exact ⟨false, by rw [if_pos h2], fun h => absurd h (by decide), fun h => absurd h (by decide)⟩
      · rw [if_neg h2, next i l.length (by omega) (by omega)]
        obtain ⟨b, g1, g2, g3⟩ := ih k (i + 1) (by omega) (by omega)
        refine ⟨b, g1, fun hb g hg => ?_, fun hb => ?_⟩
        · rw [dropT_cons l i (by omega)] at hg
          rcases List.mem_cons.1 hg with hg | hg
          · subst hg; omega
          · exact g2 hb g hg
        · have := g3 hb; omega
theorem small_eq (l : List S24) (hl : l.length ≤ 9223372036854775806) (k : Nat) (hk : l.length < k) : ∃ b, pelotonlaw03_small.f k l = some b ∧ (b = true → (∀ g ∈ l, g.f2.length ≤ 400) ∧ l.length ≤ 12) := by
  obtain ⟨b, h1, h2, h3⟩ := small_loop l hl l.length k 0 (by omega) hk
  refine ⟨b, h1, fun hb => ⟨fun g hg => h2 hb g (by rw [List.drop_zero]; exact hg), ?_⟩⟩
  have := h3 hb; omega

def timesS (r n c : Nat) (a b : List Int) : List Int := grid_Times.out a b n c r 0 (List.replicate (r * c) 0)
theorem timesS_len (r n c : Nat) (a b : List Int) : (timesS r n c a b).length = r * c := by unfold timesS; rw [out_len, List.length_replicate]
theorem rd_rep (n p : Nat) : rd (List.replicate n 0) (p : Int) = 0 := by
  unfold rd; rw [Int.toNat_natCast, List.getD_eq_getElem?_getD, List.getElem?_replicate]; split <;> rfl
theorem timesS_rd (r n c : Nat) (a b : List Int) (ha : a.length = r * n) (hb : b.length = n * c) (i j : Nat) (hi : i < r) (hj : j < c) : rd (timesS r n c a b) ((i * c + j : Nat) : Int) = wrap32 (Sm a b n c i j n) :=
  out_rd a b r n c ha hb r 0 _ (Nat.zero_add _) (by rw [List.length_replicate]) (fun i' j' _ _ _ => rd_rep _ _) (fun i' j' h _ => by omega) i j hi hj
theorem times_ok (r n c : Nat) (a b : List Int) (ha : RightM r n a.length) (hb : RightM n c b.length) (hrc : r * c ≤ 1048576) (k : Nat) (hk : 3 < k) : grid_Times.f k r n a n c b = some ((r : Int), (c : Int), timesS r n c a b, 0) := by
  obtain ⟨a1, a2, a3, a4, a5, a6⟩ := id ha
  obtain ⟨b1, b2, b3, b4, b5, b6⟩ := id hb
  have e1 : ((r : Int) * (c : Int)) = ((r * c : Nat) : Int) := (Int.natCast_mul r c).symm
  have e2 : ((r : Int) * (c : Int)).toNat = r * c := by rw [e1, Int.toNat_natCast]
  have hd : grid_Times.dims r n a c b = true := decide_eq_true ⟨a1, a2, a3, a4, b3, b4, by omega, by omega⟩
  unfold grid_Times.f
  rw [fit_all k _ len2 (len2k k hk)]
  have hf : ([(⟨r, n, a⟩ : S24), ⟨n, c, b⟩].all fun g => decide (FitG g)) = true := by
    rw [List.all_cons, List.all_cons, List.all_nil, decide_eq_true (show FitG ⟨r, n, a⟩ from ha), decide_eq_true (show FitG ⟨n, c, b⟩ from hb)]; rfl
  have hl2 : [(⟨r, n, a⟩ : S24), ⟨n, c, b⟩].length = 2 := rfl
  rw [hf, Option.bind_some, if_pos rfl, if_pos rfl, new_eq r c ⟨a1, a2, b3, b4, by rw [e1]; exact Int.ofNat_le.2 hrc⟩, Option.bind_some]
  dsimp only
  rw [if_pos rfl, if_pos ⟨hd, rfl, by rw [List.length_replicate]⟩, e2, Int.toNat_natCast]
  rfl
theorem times_bad (r n m c : Int) (a b : List Int) (h : ¬ (RightM r n a.length ∧ RightM m c b.length ∧ n = m ∧ r * c ≤ 1048576)) (k : Nat) (hk : 3 < k) : grid_Times.f k r n a m c b = some (0, 0, [], 30) := by
  unfold grid_Times.f
  rw [fit_all k _ len2 (len2k k hk), List.all_cons, List.all_cons, List.all_nil, Bool.and_true, Option.bind_some]
  by_cases ha : RightM r n a.length
  · by_cases hb : RightM m c b.length
    · rw [decide_eq_true (show FitG ⟨r, n, a⟩ from ha), decide_eq_true (show FitG ⟨m, c, b⟩ from hb), if_pos (show (true && true) = true from rfl)]
      by_cases e : n = m
      · rw [if_pos e, new_bad r c (fun g => h ⟨ha, hb, e, g.2.2.2.2⟩), Option.bind_some]
        rfl
      · rw [if_neg e]
    · rw [decide_eq_false (show ¬ FitG ⟨m, c, b⟩ from hb), Bool.and_false, if_neg (by simp)]
  · rw [decide_eq_false (show ¬ FitG ⟨r, n, a⟩ from ha), Bool.false_and, if_neg (by simp)]

theorem len1 {x : S24} : [x].length ≤ 9223372036854775806 := by rw [List.length_cons, List.length_nil]; omega
theorem len1k {x : S24} (k : Nat) (h : 3 < k) : [x].length < k := by rw [List.length_cons, List.length_nil]; omega

theorem rpart3_l1 (rr cc : Int) (r c : Nat) (v : List Int) (hv : v.length = r * c) (hr : r ≤ 4096) (hc : c ≤ 4096) (hvl : v.length ≤ 1048576) (i : Nat) (hi : i < r) (hi2 lo : Nat) (h1 : hi2 ≤ c) (x2 : Int) : ∀ (d k j : Nat) (o : List Int), j + d = hi2 → d < k → o.length ≤ i * 4096 + j →
    pelotonref03_Part.l1 k x2 lo hi2 i j r c v rr cc o = pelotonref03_Part.l0 (k - (d + 1)) x2 lo hi2 ((i + 1 : Nat) : Int) r c v rr cc (o ++ (v.take (i * c + hi2)).drop (i * c + j)) := by
  intro d
  induction d with
  | zero =>
    intro k j o hj hk ho
    obtain ⟨k, rfl⟩ : ∃ m, k = m + 1 := ⟨k - 1, by omega⟩
    simp only [pelotonref03_Part.l1]
    rw [if_neg (by omega), next i r hi (by omega), show j = hi2 by omega, seg_full, List.append_nil]; rfl
  | succ d ih =>
    intro k j o hj hk ho
    obtain ⟨k, rfl⟩ : ∃ m, k = m + 1 := ⟨k - 1, by omega⟩
    have hin := row_end v r c i hv hi
    simp only [pelotonref03_Part.l1]
    rw [if_pos (by omega), cell_eq r c v i j _ _ (w_mul i c (by omega)) (w_add (i * c) j (by omega)) (by omega), Option.bind_some, if_pos (by omega), next j hi2 (by omega) (by omega), ih k (j + 1) _ (by omega) (by omega) (by rw [List.length_append, List.length_singleton]; omega)]
    rw [seg_cons v (i * c + j) (i * c + hi2) (by omega) (by omega), List.append_assoc, List.singleton_append, show k + 1 - (d + 1 + 1) = k - (d + 1) by omega, Nat.add_assoc]
theorem rpart3_l0 (rr cc : Int) (r c : Nat) (v : List Int) (hv : v.length = r * c) (hr : r ≤ 4096) (hc : c ≤ 4096) (hvl : v.length ≤ 1048576) (lo hi : Nat) (h0 : lo ≤ hi) (h1 : hi ≤ c) (e : Nat) (he : e ≤ r) (s : Nat) (hs : hi - lo + 1 < s) : ∀ (d k i : Nat) (o : List Int), i + d = e → d * s < k → o.length ≤ i * 4096 →
    pelotonref03_Part.l0 k e lo hi i r c v rr cc o = some (rr, cc, o ++ partS v c lo hi d i) := by
  intro d
  induction d with
  | zero =>
    intro k i o hi' hk ho
    obtain ⟨k, rfl⟩ : ∃ m, k = m + 1 := ⟨k - 1, by omega⟩
    simp only [pelotonref03_Part.l0]
    rw [if_neg (by omega), partS, List.append_nil]
  | succ d ih =>
    intro k i o hi' hk ho
    obtain ⟨k, rfl⟩ : ∃ m, k = m + 1 := ⟨k - 1, by omega⟩
    have hin := row_end v r c i hv (by omega)
    have hsl := seg_length v (i * c + lo) (i * c + hi) (by omega)
    simp only [pelotonref03_Part.l0]
    rw [Nat.add_mul, Nat.one_mul] at hk
    have hk2 : hi - lo < k := by generalize d * s = D at *; omega
    have hk3 : d * s < k - (hi - lo + 1) := by generalize d * s = D at *; omega
    clear hk hs
    have hd : (o ++ (v.take (i * c + hi)).drop (i * c + lo)).length ≤ (i + 1) * 4096 := by
      rw [List.length_append, hsl, Nat.add_mul, Nat.one_mul]
      have e4 : i * c + hi - (i * c + lo) ≤ 4096 := by omega
      exact Nat.add_le_add ho e4
    rw [if_pos (by omega), rpart3_l1 rr cc r c v hv hr hc hvl i (by omega) hi lo h1 e (hi - lo) k lo o (by omega) hk2 (Nat.le_trans ho (Nat.le_add_right _ _)),
      ih (k - (hi - lo + 1)) (i + 1) (o ++ (v.take (i * c + hi)).drop (i * c + lo)) (by omega) hk3 hd, List.append_assoc]
    rw [show partS v c lo hi (d + 1) i = (v.take (i * c + hi)).drop (i * c + lo) ++ partS v c lo hi d (i + 1) by rw [partS]]
theorem rpart3_eq (r c : Nat) (v : List Int) (h : RightM r c v.length) (a b lo hi : Nat) (h0 : lo ≤ hi) (h1 : hi ≤ c) (h2 : a ≤ b) (h3 : b ≤ r) (k : Nat) (hk : 20500000 < k) :
    pelotonref03_Part.f k r c v a b lo hi = some (((b - a : Nat) : Int), ((hi - lo : Nat) : Int), partS v c lo hi (b - a) a) := by
  obtain ⟨m1, m2, m3, m4, m5, m6⟩ := id h
  have hv : v.length = r * c := by exact_mod_cast m5
  unfold pelotonref03_Part.f
  rw [w_sub b a h2 (by omega), w_sub hi lo h0 (by omega), rpart3_l0 _ _ r c v hv (by omega) (by omega) m6 lo hi h0 h1 b h3 5000 (by omega) (b - a) k a [] (by omega) (Nat.lt_of_le_of_lt (Nat.mul_le_mul_right 5000 (show b - a ≤ 4096 by omega)) (Nat.lt_trans (by decide) hk)) (by simp), List.nil_append]

theorem gcut_eq (k : Nat) (hk : 3 < k) (r c : Int) (v : List Int) (a b n : Int) : grid_cut.f k r c v a b n = some (if RightM r c v.length then (if 0 ≤ a ∧ a ≤ b ∧ b ≤ n then 0 else 2) else 30) := by
  unfold grid_cut.f
  rw [fit_all _ _ len1 (len1k _ hk), List.all_cons, List.all_nil, Bool.and_true, Option.bind_some]
  by_cases h : RightM r c v.length
  · rw [decide_eq_true (show FitG ⟨r, c, v⟩ from h), if_pos rfl, if_pos h]
    by_cases h1 : a < 0
    · rw [if_pos h1, if_neg (by omega)]
    · rw [if_neg h1]
      by_cases h2 : a > b
      · rw [if_pos h2, if_neg (by omega)]
      · rw [if_neg h2]
        by_cases h3 : b > n
        · rw [if_pos h3, if_neg (by omega)]
        · rw [if_neg h3, if_pos (by omega)]
  · rw [decide_eq_false (show ¬ FitG ⟨r, c, v⟩ from h), if_neg (by simp), if_neg h]

theorem gclone_eq (l : List Int) (h : l.length < 35184372088832) : slices_Clone_int32_int32.f l = some l := by
  unfold slices_Clone_int32_int32.f
  rw [Option.bind_some, if_pos (by rw [List.length_nil]; omega), List.nil_append]
theorem grows_no (k : Nat) (hk : 3 < k) (r c : Int) (v : List Int) (lo hi e : Int) (he : e ≠ 0) (h : (if RightM r c v.length then (if 0 ≤ lo ∧ lo ≤ hi ∧ hi ≤ r then 0 else 2) else 30) = e) : grid_Rows.f k r c v lo hi = some (0, 0, [], e) := by
  unfold grid_Rows.f
  rw [gcut_eq k hk, h, Option.bind_some, if_neg he]
theorem grows_eq (k : Nat) (hk : 3 < k) (r c : Nat) (v : List Int) (lo hi : Nat) (h : RightM r c v.length) (h0 : lo ≤ hi) (h1 : hi ≤ r) : grid_Rows.f k r c v lo hi = some (((hi - lo : Nat) : Int), (c : Int), (v.take (hi * c)).drop (lo * c), 0) := by
  obtain ⟨m1, m2, m3, m4, m5, m6⟩ := id h
  have hv : v.length = r * c := by rw [← Int.natCast_mul] at m5; exact Int.ofNat_inj.1 m5
  have e1 : lo * c ≤ hi * c := Nat.mul_le_mul_right c h0
  have e2 : hi * c ≤ v.length := by rw [hv]; exact Nat.mul_le_mul_right c h1
  have hl : ((v.take (hi * c)).drop (lo * c)).length < 35184372088832 := Nat.lt_of_le_of_lt (Nat.le_trans (by rw [seg_length v _ _ e2]; exact Nat.sub_le _ _) (Nat.le_trans e2 m6)) (by decide)
  have eA := w_mul lo c (by omega)
  have eB := w_mul hi c (by omega)
  unfold grid_Rows.f
  rw [gcut_eq k hk, if_pos h, if_pos ⟨Int.natCast_nonneg lo, Int.ofNat_le.2 h0, Int.ofNat_le.2 h1⟩, Option.bind_some, if_pos rfl, eA, eB, w_sub hi lo h0 (by omega), if_pos (Int.natCast_nonneg _), if_pos (Int.ofNat_le.2 e1), if_pos (Int.ofNat_le.2 e2), Int.toNat_natCast, Int.toNat_natCast, gclone_eq _ hl, Option.bind_some]

theorem grow_eq (r c : Nat) (v : List Int) (i : Nat) (hv : v.length = r * c) (hi : i < r) (hr : r ≤ 4096) (hc : c ≤ 4096) : grid_row.f r c v i = some (grid_row.L v c i) := by
  have h1 := row_end v r c i hv hi
  have e : ((i : Int) + 1) * (c : Int) = ((i * c + c : Nat) : Int) := by rw [Int.add_mul, Int.one_mul, Int.natCast_add, Int.natCast_mul]
  have h2 : ((i : Int) + 1) * (c : Int) ≤ (v.length : Int) := by rw [e]; exact Int.ofNat_le.2 h1
  unfold grid_row.f
  rw [if_pos ⟨Int.natCast_nonneg i, by omega, Int.natCast_nonneg c, by omega, h2⟩]
theorem gseg (v : List Int) (c i lo hi : Nat) (h0 : lo ≤ hi) (h1 : hi ≤ c) (h2 : i * c + c ≤ v.length) : ((grid_row.L v c i).take hi).drop lo = (v.take (i * c + hi)).drop (i * c + lo) := by
  have e1 : ((i : Int) * (c : Int) + (c : Int)).toNat = i * c + c := by rw [← Int.natCast_mul]; generalize i * c = D; omega
  have e2 : ((i : Int) * (c : Int)).toNat = i * c := by rw [← Int.natCast_mul]; generalize i * c = D; omega
  unfold grid_row.L
  rw [e1, e2, List.take_drop, List.drop_drop, List.take_take, Nat.min_eq_left (by omega)]
theorem gcols_loop (r c : Nat) (v : List Int) (lo hi : Nat) (w : Int) (hv : v.length = r * c) (hr : r ≤ 4096) (hc : c ≤ 4096) (hvl : v.length ≤ 1048576) (h0 : lo ≤ hi) (h1 : hi ≤ c) : ∀ (d k i : Nat) (o : List Int), i + d = r → d < k → o.length ≤ i * 4096 →
    grid_Cols.l0 k lo hi (r : Int) i r c v r w o = some ((r : Int), w, o ++ partS v c lo hi d i, 0) := by
  intro d
  induction d with
  | zero =>
    intro k i o hi' hk ho
    obtain ⟨k, rfl⟩ : ∃ m, k = m + 1 := ⟨k - 1, by omega⟩
    simp only [grid_Cols.l0]
    rw [if_neg (by omega), partS, List.append_nil]
  | succ d ih =>
    intro k i o hi' hk ho
    obtain ⟨k, rfl⟩ : ∃ m, k = m + 1 := ⟨k - 1, by omega⟩
    have hin := row_end v r c i hv (by omega)
    have hsl := seg_length v (i * c + lo) (i * c + hi) (by omega)
    have hrl : (grid_row.L v c i).length = c := by
      have h3 : (i : Int) * (c : Int) + c ≤ v.length := by rw [← Int.natCast_mul]; exact Int.ofNat_le.2 hin
      rw [grid_row.len v c i (Int.mul_nonneg (by omega) (by omega)) (by omega) h3, Int.toNat_natCast]
    have hg := gseg v c i lo hi h0 h1 hin
    simp only [grid_Cols.l0]
    rw [if_pos (by omega), grow_eq r c v i hv (by omega) hr hc, Option.bind_some, hrl, if_pos (by omega), if_pos (by omega), if_pos (by omega), Option.bind_some, Int.toNat_natCast, Int.toNat_natCast, hg, if_pos (by rw [hsl]; omega), next i r (by omega) (by omega), ih k (i + 1) _ (by omega) (by omega) (by rw [List.length_append, hsl]; omega), List.append_assoc]
    rw [show partS v c lo hi (d + 1) i = (v.take (i * c + hi)).drop (i * c + lo) ++ partS v c lo hi d (i + 1) by rw [partS]]
theorem gcols_no (k : Nat) (hk : 3 < k) (r c : Int) (v : List Int) (lo hi e : Int) (he : e ≠ 0) (h : (if RightM r c v.length then (if 0 ≤ lo ∧ lo ≤ hi ∧ hi ≤ c then 0 else 2) else 30) = e) : grid_Cols.f k r c v lo hi = some (0, 0, [], e) := by
  unfold grid_Cols.f
  rw [gcut_eq k hk, h, Option.bind_some, if_neg he]
theorem gcols_eq (k : Nat) (r c : Nat) (v : List Int) (lo hi : Nat) (h : RightM r c v.length) (h0 : lo ≤ hi) (h1 : hi ≤ c) (hk : 4100 < k) : grid_Cols.f k r c v lo hi = some ((r : Int), ((hi - lo : Nat) : Int), partS v c lo hi r 0, 0) := by
  obtain ⟨m1, m2, m3, m4, m5, m6⟩ := id h
  have hv : v.length = r * c := by rw [← Int.natCast_mul] at m5; exact Int.ofNat_inj.1 m5
  unfold grid_Cols.f
  rw [gcut_eq k (by omega), if_pos h, if_pos ⟨Int.natCast_nonneg lo, Int.ofNat_le.2 h0, Int.ofNat_le.2 h1⟩, Option.bind_some, if_pos rfl, w_sub hi lo h0 (by omega)]
  have := gcols_loop r c v lo hi ((hi - lo : Nat) : Int) hv (by omega) (by omega) m6 h0 h1 r k 0 [] (by omega) (by omega) (by simp)
  simpa using this

theorem tinn_len (y : List Int) (a0 i : Int) : ∀ (m : Nat) (k : Int) (xs : List Int), (grid_Turn.inn y a0 i m k xs).length = xs.length := by
  intro m
  induction m with
  | zero => intro j xs; rfl
  | succ m ih => intro j xs; rw [grid_Turn.inn, ih, List.length_set]
theorem tout_len (l : List Int) (a0 a1 : Int) : ∀ (m : Nat) (k : Int) (xs : List Int), (grid_Turn.out l a0 a1 m k xs).length = xs.length := by
  intro m
  induction m with
  | zero => intro j xs; rfl
  | succ m ih => intro j xs; rw [grid_Turn.out, ih, tinn_len]
theorem tinn_rd (y : List Int) (r c i : Nat) (hi : i < r) : ∀ (m k : Nat) (xs : List Int), k + m = c → xs.length = c * r → ∀ j i' : Nat, j < c → i' < r →
    rd (grid_Turn.inn y r i m k xs) ((j * r + i' : Nat) : Int) = if k ≤ j ∧ i' = i then rd y (j : Int) else rd xs ((j * r + i' : Nat) : Int) := by
  intro m
  induction m with
  | zero => intro k xs hk hx j i' hj hi'; rw [if_neg (by omega)]; rfl
  | succ m ih =>
    intro k xs hk hx j i' hj hi'
    have e : ((k : Int) * (r : Int) + (i : Int)).toNat = k * r + i := by rw [← Int.natCast_mul, ← Int.natCast_add, Int.toNat_natCast]
    have e2 : ((k : Int) + 1) = ((k + 1 : Nat) : Int) := by omega
    have hlt : k * r + i < xs.length := by rw [hx]; exact idx_lt c r k i (by omega) hi
    rw [grid_Turn.inn, e, e2, ih (k + 1) _ (by omega) (by rw [List.length_set]; exact hx) j i' hj hi', rd_set _ _ _ _ hlt]
    by_cases c1 : j = k ∧ i' = i
    · obtain ⟨rfl, rfl⟩ := c1
      rw [if_neg (by omega), if_pos rfl, if_pos ⟨Nat.le_refl _, rfl⟩]
    · have hne : ¬ k * r + i = j * r + i' := by
        intro he
        by_cases c2 : j = k
        · subst c2; omega
        · exact idx_ne r k j i' hi' (fun h => c2 h.symm) (by omega)
      by_cases c3 : k + 1 ≤ j ∧ i' = i
      · rw [if_pos c3, if_pos (by omega)]
      · rw [if_neg c3, if_neg hne, if_neg (by omega)]
theorem tout_rd (l : List Int) (r c : Nat) (hl : l.length = r * c) : ∀ (m i : Nat) (xs : List Int), i + m = r → xs.length = c * r → (∀ j i', j < c → i' < i → rd xs ((j * r + i' : Nat) : Int) = rd l ((i' * c + j : Nat) : Int)) →
    ∀ j i', j < c → i' < r → rd (grid_Turn.out l r c m i xs) ((j * r + i' : Nat) : Int) = rd l ((i' * c + j : Nat) : Int) := by
  intro m
  induction m with
  | zero => intro i xs hi hx h j i' hj hi'; exact h j i' hj (by omega)
  | succ m ih =>
    intro i xs hi hx h j i' hj hi'
    have e2 : ((i : Int) + 1) = ((i + 1 : Nat) : Int) := by omega
    rw [grid_Turn.out, e2, Int.toNat_natCast]
    refine ih (i + 1) _ (by omega) (by rw [tinn_len]; exact hx) ?_ j i' hj hi'
    intro j' i'' hj' hi''
    refine Eq.trans (tinn_rd (grid_row.L l c i) r c i (by omega) c 0 xs (Nat.zero_add _) hx j' i'' hj' (by omega)) ?_
    by_cases c1 : i'' = i
    · subst c1
      rw [if_pos ⟨Nat.zero_le _, rfl⟩]
      exact row_rd l c i'' j' hj' (by have := mul_in r c i'' (by omega); omega)
    · rw [if_neg (fun g => c1 g.2)]
      exact h j' i'' hj' (by omega)
def turnS (r c : Nat) (l : List Int) : List Int := grid_Turn.out l r c r 0 (List.replicate l.length 0)
theorem turnS_len (r c : Nat) (l : List Int) : (turnS r c l).length = l.length := by unfold turnS; rw [tout_len, List.length_replicate]
theorem turnS_rd (r c : Nat) (l : List Int) (hl : l.length = r * c) (j i : Nat) (hj : j < c) (hi : i < r) : rd (turnS r c l) ((j * r + i : Nat) : Int) = rd l ((i * c + j : Nat) : Int) :=
  tout_rd l r c hl r 0 _ (Nat.zero_add _) (by rw [List.length_replicate, hl, Nat.mul_comm]) (fun j i' _ h => by omega) j i hj hi
theorem turn_ok (k : Nat) (hk : 3 < k) (r c : Nat) (l : List Int) (h : RightM r c l.length) : grid_Turn.f k r c l = some ((c : Int), (r : Int), turnS r c l, 0) := by
  obtain ⟨a1, a2, a3, a4, a5, a6⟩ := id h
  have hd : grid_Turn.dims r c l = true := decide_eq_true ⟨a1, a2, a3, a4, a5⟩
  unfold grid_Turn.f
  rw [fit_all _ _ len1 (len1k _ hk), List.all_cons, List.all_nil, Bool.and_true, Option.bind_some, decide_eq_true (show FitG ⟨r, c, l⟩ from h), if_pos rfl, if_pos hd, Int.toNat_natCast]
  rfl
theorem turn_bad (k : Nat) (hk : 3 < k) (r c : Int) (l : List Int) (h : ¬ RightM r c l.length) : grid_Turn.f k r c l = some (0, 0, [], 30) := by
  unfold grid_Turn.f
  rw [fit_all _ _ len1 (len1k _ hk), List.all_cons, List.all_nil, Bool.and_true, Option.bind_some, decide_eq_false (show ¬ FitG ⟨r, c, l⟩ from h), if_neg (by simp)]

theorem rturn_l1 (r c : Nat) (v X : List Int) (hv : v.length = r * c) (hr : r ≤ 4096) (hc : c ≤ 4096) (hvl : v.length ≤ 1048576) (hX : X.length = c * r) (j : Nat) (hj : j < c) (hrd : ∀ i, i < r → rd X ((j * r + i : Nat) : Int) = rd v ((i * c + j : Nat) : Int)) (R C : Int) (m : Nat) : ∀ (d i : Nat), i + d = r →
    pelotonref03_Turn.l1 (m + (d + 1)) j i r c v R C (X.take (j * r + i)) = pelotonref03_Turn.l0 m ((j + 1 : Nat) : Int) r c v R C (X.take ((j + 1) * r)) := by
  intro d
  have hin2 := mul_in c r j hj
  have hcr : c * r ≤ 1048576 := by rw [Nat.mul_comm, ← hv]; exact hvl
  induction d with
  | zero =>
    intro i hi
    have e : j * r + i = (j + 1) * r := by rw [Nat.add_mul, Nat.one_mul]; omega
    rw [e]
    show pelotonref03_Turn.l1 (m + 1) j i r c v R C _ = _
    simp only [pelotonref03_Turn.l1]
    rw [if_neg (by clear e; omega), next j (j + 1) (by omega) (by omega)]
  | succ d ih =>
    intro i hi
    have hin := row_end v r c i hv (by omega)
    show pelotonref03_Turn.l1 ((m + (d + 1)) + 1) j i r c v R C _ = _
    simp only [pelotonref03_Turn.l1]
    rw [if_pos (by omega), cell_eq r c v i j _ _ (w_mul i c (by omega)) (w_add (i * c) j (by omega)) (by omega), Option.bind_some, if_pos (by rw [List.length_take]; omega), next i r (by omega) (by omega), ← hrd i (by omega), take_snoc X (j * r + i) (by omega)]
    exact ih (i + 1) (by omega)
theorem rturn_l0 (r c : Nat) (v X : List Int) (hv : v.length = r * c) (hr : r ≤ 4096) (hc : c ≤ 4096) (hvl : v.length ≤ 1048576) (hX : X.length = c * r) (hrd : ∀ j i, j < c → i < r → rd X ((j * r + i : Nat) : Int) = rd v ((i * c + j : Nat) : Int)) (R C : Int) (m : Nat) : ∀ (d j : Nat), j + d = c →
    pelotonref03_Turn.l0 (m + (d * (r + 2) + 1)) j r c v R C (X.take (j * r)) = some (R, C, X) := by
  intro d
  induction d with
  | zero =>
    intro j hj
    have e : j = c := by omega
    subst e
    rw [Nat.zero_mul]
    show pelotonref03_Turn.l0 (m + 1) j r j v R C _ = _
    simp only [pelotonref03_Turn.l0]
    rw [if_neg (by omega), List.take_of_length_le (by omega)]
  | succ d ih =>
    intro j hj
    have e : m + ((d + 1) * (r + 2) + 1) = ((m + (d * (r + 2) + 1)) + (r + 1)) + 1 := by rw [Nat.add_mul, Nat.one_mul]; generalize d * (r + 2) = D; omega
    have h1 := rturn_l1 r c v X hv hr hc hvl hX j (by omega) (fun i hi => hrd j i (by omega) hi) R C (m + (d * (r + 2) + 1)) r 0 (Nat.zero_add _)
    rw [e]
    simp only [pelotonref03_Turn.l0]
    rw [if_pos (by clear h1 e; omega)]
    refine h1.trans ?_
    exact ih (j + 1) (by omega)

theorem rturn_ok (k : Nat) (hk : 20000000 < k) (r c : Nat) (l : List Int) (h : RightM r c l.length) : pelotonref03_Turn.f k r c l = some ((c : Int), (r : Int), turnS r c l) := by
  obtain ⟨a1, a2, a3, a4, a5, a6⟩ := id h
  have hl : l.length = r * c := by rw [← Int.natCast_mul] at a5; exact Int.ofNat_inj.1 a5
  have hr : r ≤ 4096 := by omega
  have hc : c ≤ 4096 := by omega
  have hcost : c * (r + 2) + 1 ≤ 20000000 := Nat.le_trans (Nat.add_le_add_right (Nat.mul_le_mul hc (show r + 2 ≤ 4098 by omega)) 1) (by decide)
  obtain ⟨m, hkm⟩ : ∃ m, k = m + (c * (r + 2) + 1) := ⟨k - (c * (r + 2) + 1), by generalize c * (r + 2) + 1 = X at *; omega⟩
  have ht := rturn_l0 r c l (turnS r c l) hl hr hc a6 (by rw [turnS_len, hl, Nat.mul_comm]) (fun j i hj hi => turnS_rd r c l hl j i hj hi) c r m c 0 (Nat.zero_add _)
  rw [Nat.zero_mul, List.take_zero] at ht
  unfold pelotonref03_Turn.f
  rw [hkm]
  exact ht

theorem copied_loop (l : List S24) (hl : l.length ≤ 12) (hs : ∀ g ∈ l, g.f2.length ≤ 400) : ∀ (d k i : Nat) (o : List S24), i + d = l.length → d < k → o.length = i →
    pelotonlaw03_copied.l0 k l o i = some (o ++ l.drop i) := by
  intro d
  induction d with
  | zero =>
    intro k i o hi hk ho
    obtain ⟨k, rfl⟩ : ∃ m, k = m + 1 := ⟨k - 1, by omega⟩
    simp only [pelotonlaw03_copied.l0]
    rw [if_neg (by omega), List.drop_of_length_le (by omega), List.append_nil]
  | succ d ih =>
    intro k i o hi hk ho
    obtain ⟨k, rfl⟩ : ∃ m, k = m + 1 := ⟨k - 1, by omega⟩
    have hm : rd_T24 l (i : Int) ∈ l := by rw [rdT_nat l i (by omega)]; exact List.getElem_mem _
    have hs' := hs _ hm
    simp only [pelotonlaw03_copied.l0]
    rw [if_pos (by omega), if_pos (by omega), Option.bind_some, List.length_nil, Nat.zero_add, if_pos (by omega), if_pos (by omega), next i l.length (by omega) (by omega), ih k (i + 1) _ (by omega) (by omega) (by rw [List.length_append, ho]; rfl), List.nil_append, dropT_cons l i (by omega), List.append_assoc, List.singleton_append]
theorem copied_eq (l : List S24) (hl : l.length ≤ 12) (hs : ∀ g ∈ l, g.f2.length ≤ 400) (k : Nat) (hk : 13 < k) : pelotonlaw03_copied.f k l = some l := by
  have := copied_loop l hl hs l.length k 0 [] (by omega) (by omega) rfl
  rwa [List.nil_append, List.drop_zero] at this

theorem cuts_j3 (k : Nat) (hk : 30000000 < k) (x1 x2 : Int) (r c : Nat) (v : List Int) (h : RightM r c v.length) : ∀ (rb cb : Int) (vb : List Int) (eb : Int), grid_Cols.f k r c v x1 x2 = some (rb, cb, vb, eb) →
    pelotonlaw03_GridCuts.j2 (k + 2) x1 x2 eb r c v rb cb vb = some true := by
  intro rb cb vb eb hb
  obtain ⟨m1, m2, m3, m4, m5, m6⟩ := id h
  have hno : ¬ (0 ≤ x1 ∧ x1 ≤ x2 ∧ x2 ≤ (c : Int)) → pelotonlaw03_GridCuts.j3 (k + 1) x1 x2 eb true r c v rb cb vb = some true := by
    intro hs
    rw [gcols_no k (by omega) r c v x1 x2 2 (by decide) (by rw [if_pos h, if_neg hs])] at hb
    simp only [Option.some.injEq, Prod.mk.injEq] at hb
    obtain ⟨rfl, rfl, rfl, rfl⟩ := hb
    rw [pelotonlaw03_GridCuts.j3, if_pos rfl, if_pos rfl, same3_self 0 0 [] (Nat.zero_le _) k (by omega)]; rfl
  rw [pelotonlaw03_GridCuts.j2]
  by_cases h1 : x1 < 0
  · rw [if_pos h1]; exact hno (by omega)
  · rw [if_neg h1]
    by_cases h2 : x1 > x2
    · rw [if_pos h2]; exact hno (by omega)
    · rw [if_neg h2]
      by_cases h3 : x2 > (c : Int)
      · rw [decide_eq_true h3]; exact hno (by omega)
      · rw [decide_eq_false h3]
        obtain ⟨a, rfl⟩ := Int.eq_ofNat_of_zero_le (show 0 ≤ x1 by omega)
        obtain ⟨b, rfl⟩ := Int.eq_ofNat_of_zero_le (show 0 ≤ x2 by omega)
        have hab : a ≤ b := by omega
        have hbc : b ≤ c := by omega
        have hv : v.length = r * c := by rw [← Int.natCast_mul] at m5; exact Int.ofNat_inj.1 m5
        have hlen : (partS v c a b r 0).length ≤ 1048576 := by
          rw [partS_length v r c a b hv hab hbc r 0 (by omega)]
          exact Nat.le_trans (Nat.mul_le_mul_left r (show b - a ≤ c by omega)) (by omega)
        rw [gcols_eq k r c v a b h hab hbc (by omega)] at hb
        simp only [Option.some.injEq, Prod.mk.injEq] at hb
        obtain ⟨rfl, rfl, rfl, rfl⟩ := hb
        have hp := rpart3_eq r c v h 0 r a b hab hbc (Nat.zero_le _) (Nat.le_refl _) k (by omega)
        rw [Nat.sub_zero] at hp
        rw [pelotonlaw03_GridCuts.j3, if_neg (by simp), show (0 : Int) = ((0 : Nat) : Int) from rfl, hp, Option.bind_some]
        dsimp only
        rw [show ((0 : Nat) : Int) = (0 : Int) from rfl, held_ok _ _ _ hlen k (by omega)]; rfl
theorem cuts_j1 (k : Nat) (hk : 30000000 < k) (x1 x2 : Int) (r c : Nat) (v : List Int) (h : RightM r c v.length) (ra ca : Int) (va : List Int) (ea : Int) (ha : grid_Rows.f (k + 3) r c v x1 x2 = some (ra, ca, va, ea)) (rb cb : Int) (vb : List Int) (eb : Int) (hb : grid_Cols.f k r c v x1 x2 = some (rb, cb, vb, eb)) (t : Bool) (ht : t = !decide (0 ≤ x1 ∧ x1 ≤ x2 ∧ x2 ≤ (r : Int))) :
    pelotonlaw03_GridCuts.j1 (k + 3) x1 x2 ea eb t r c v ra ca va rb cb vb = some true := by
  obtain ⟨m1, m2, m3, m4, m5, m6⟩ := id h
  have hj := cuts_j3 k hk x1 x2 r c v h rb cb vb eb hb
  rw [pelotonlaw03_GridCuts.j1]
  by_cases hs : 0 ≤ x1 ∧ x1 ≤ x2 ∧ x2 ≤ (r : Int)
  · rw [decide_eq_true hs] at ht
    subst ht
    obtain ⟨a, rfl⟩ := Int.eq_ofNat_of_zero_le hs.1
    obtain ⟨b, rfl⟩ := Int.eq_ofNat_of_zero_le (show 0 ≤ x2 by omega)
    have hab : a ≤ b := by omega
    have hbr : b ≤ r := by omega
    have hv : v.length = r * c := by rw [← Int.natCast_mul] at m5; exact Int.ofNat_inj.1 m5
    rw [grows_eq (k + 3) (by omega) r c v a b h hab hbr] at ha
    simp only [Option.some.injEq, Prod.mk.injEq] at ha
    obtain ⟨rfl, rfl, rfl, rfl⟩ := ha
    have hp := rpart3_eq r c v h a b 0 c (Nat.zero_le _) (Nat.le_refl _) hab hbr (k + 2) (by omega)
    have hpr := partS_rows v r c hv (b - a) a (by omega)
    rw [show a + (b - a) = b by omega] at hpr
    rw [Nat.sub_zero, hpr] at hp
    have hlen : ((v.take (b * c)).drop (a * c)).length ≤ 1048576 := by rw [List.length_drop, List.length_take]; omega
    rw [if_neg (by simp), show (0 : Int) = ((0 : Nat) : Int) from rfl, hp, Option.bind_some]
    dsimp only
    rw [show ((0 : Nat) : Int) = (0 : Int) from rfl, held_ok _ _ _ hlen (k + 2) (by omega), Option.bind_some, if_pos rfl]
    exact hj
  · rw [decide_eq_false hs] at ht
    subst ht
    rw [grows_no (k + 3) (by omega) r c v x1 x2 2 (by decide) (by rw [if_pos h, if_neg hs])] at ha
    simp only [Option.some.injEq, Prod.mk.injEq] at ha
    obtain ⟨rfl, rfl, rfl, rfl⟩ := ha
    rw [if_pos (by rfl), if_pos rfl, same3_self 0 0 [] (Nat.zero_le _) (k + 2) (by omega), Option.bind_some, if_pos rfl]
    exact hj
theorem GridCuts : pelotonlaw03_GridCuts.Pure := by
  intro r c v x1 x2 ⟨hr, hc, hvl, hvw⟩ hx1 hx2
  refine ⟨60000000, ?_⟩
  have hk : 50000000 < 60000000 := by decide
  generalize 60000000 = k at hk ⊢
  obtain ⟨k, rfl⟩ : ∃ m, k = m + 4 := ⟨k - 4, by omega⟩
  obtain ⟨s, hs, hs2⟩ := small_eq [(⟨r, c, v⟩ : S24)] len1 (k + 4) (len1k _ (by omega))
  unfold pelotonlaw03_GridCuts.f pelotonlaw03_awake.f
  rw [Option.bind_some, if_pos rfl, hs, Option.bind_some]
  cases s with
  | false => rw [Bool.not_false, pelotonlaw03_GridCuts.j0, if_pos rfl]; rfl
  | true =>
    have hv4 : v.length ≤ 400 := (hs2 rfl).1 ⟨r, c, v⟩ (List.mem_singleton.2 rfl)
    have hcp := copied_eq [(⟨r, c, v⟩ : S24)] (by simp) (fun g hg => by rw [List.mem_singleton.1 hg]; exact hv4) (k + 3) (by omega)
    have e0 : rd_T24 [(⟨r, c, v⟩ : S24)] 0 = ⟨r, c, v⟩ := rfl
    rw [Bool.not_true, pelotonlaw03_GridCuts.j0, if_neg (by simp), hcp, Option.bind_some, if_pos (by simp), e0]
    dsimp only
    by_cases h : RightM r c v.length
    · obtain ⟨m1, m2, m3, m4, m5, m6⟩ := id h
      obtain ⟨r, rfl⟩ := Int.eq_ofNat_of_zero_le m1
      obtain ⟨c, rfl⟩ := Int.eq_ofNat_of_zero_le m3
      have hR : ∃ ra ca va ea, grid_Rows.f (k + 3) r c v x1 x2 = some (ra, ca, va, ea) := by
        by_cases hs : 0 ≤ x1 ∧ x1 ≤ x2 ∧ x2 ≤ (r : Int)
        · obtain ⟨a, rfl⟩ := Int.eq_ofNat_of_zero_le hs.1
          obtain ⟨b, rfl⟩ := Int.eq_ofNat_of_zero_le (show 0 ≤ x2 by omega)
          exact ⟨_, _, _, _, grows_eq (k + 3) (by omega) r c v a b h (by omega) (by omega)⟩
        · exact ⟨_, _, _, _, grows_no (k + 3) (by omega) r c v x1 x2 2 (by decide) (by rw [if_pos h, if_neg hs])⟩
      have hC : ∃ rb cb vb eb, ∀ k, 30000000 < k → grid_Cols.f k r c v x1 x2 = some (rb, cb, vb, eb) := by
        by_cases hs : 0 ≤ x1 ∧ x1 ≤ x2 ∧ x2 ≤ (c : Int)
        · obtain ⟨a, rfl⟩ := Int.eq_ofNat_of_zero_le hs.1
          obtain ⟨b, rfl⟩ := Int.eq_ofNat_of_zero_le (show 0 ≤ x2 by omega)
          exact ⟨_, _, _, _, fun k hk => gcols_eq k r c v a b h (by omega) (by omega) (by omega)⟩
        · exact ⟨_, _, _, _, fun k hk => gcols_no k (by omega) r c v x1 x2 2 (by decide) (by rw [if_pos h, if_neg hs])⟩
      obtain ⟨ra, ca, va, ea, ha⟩ := hR
      obtain ⟨rb, cb, vb, eb, hb⟩ := hC
      rw [ha, Option.bind_some, hb (k + 3) (by omega), Option.bind_some, turn_ok (k + 3) (by omega) r c v h, Option.bind_some, same3_self r c v m6 (k + 3) (by omega), Option.bind_some, if_pos rfl, fit03_eq, Option.bind_some, if_pos (decide_eq_true h), rturn_ok (k + 3) (by omega) r c v h, Option.bind_some]
      dsimp only
      rw [held_ok _ _ _ (by rw [turnS_len]; exact m6) (k + 3) (by omega), Option.bind_some, if_pos rfl]
      have hj := fun t ht => cuts_j1 k (by omega) x1 x2 r c v h ra ca va ea ha rb cb vb eb (hb k (by omega)) t ht
      by_cases h1 : x1 < 0
      · rw [if_pos h1]; exact hj true (by rw [decide_eq_false (by omega)]; rfl)
      · rw [if_neg h1]
        by_cases h2 : x1 > x2
        · rw [if_pos h2]; exact hj true (by rw [decide_eq_false (by omega)]; rfl)
        · rw [if_neg h2]
          refine hj _ ?_
          by_cases h3 : x2 > (r : Int)
          · rw [decide_eq_true h3, decide_eq_false (by omega)]; rfl
          · rw [decide_eq_false h3, decide_eq_true (by omega)]; rfl
    · have hd : ¬ decide (RightM r c v.length) = true := by rw [decide_eq_false h]; simp
      rw [grows_no (k + 3) (by omega) r c v x1 x2 30 (by decide) (by rw [if_neg h]), Option.bind_some, gcols_no (k + 3) (by omega) r c v x1 x2 30 (by decide) (by rw [if_neg h]), Option.bind_some, turn_bad (k + 3) (by omega) r c v h, Option.bind_some, same3_self r c v (by omega) (k + 3) (by omega), Option.bind_some, if_pos rfl, fit03_eq, Option.bind_some, if_neg hd]
      rfl

end Go.Proofs.Ytggcgacndknlaaa.Pure
