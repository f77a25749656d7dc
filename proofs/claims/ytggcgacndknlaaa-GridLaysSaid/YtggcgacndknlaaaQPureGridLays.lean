/- GridLays: the law's plain part: what its functions compute answers true, for all arguments of its types. No condition beside the given bounds. -/
import Derived.Test.YtggcgacndknlaaaQGridLaysx10
import Derived.Test.YtggcgacndknlaaaMath
namespace Go.Proofs.Ytggcgacndknlaaa.Pure
open Go.RowKit Go.Proofs.Ytggcgacndknlaaa.QGridLays Go.Proofs.YtggcgacndknlaaaW.PrintWords Go.Proofs.YtggcgacndknlaaaW.PrintLast Go.Proofs.YtggcgacndknlaaaW.PrintMore Go.PelMath
set_option linter.unusedVariables false
set_option linter.unusedSimpArgs false
theorem wf64 {x : Int} (h : (Lit.int .i64 x).wf = true) : -9223372036854775808 ≤ x ∧ x ≤ 9223372036854775807 := by
  simp [Lit.wf, IntKind.min, IntKind.max, IntKind.bits, IntKind.signed] at h; omega
theorem wf32 {x : Int} (h : (Lit.int .i32 x).wf = true) : -2147483648 ≤ x ∧ x ≤ 2147483647 := by
  simp [Lit.wf, IntKind.min, IntKind.max, IntKind.bits, IntKind.signed] at h; omega
theorem wf8 {x : Int} (h : (Lit.int .i8 x).wf = true) : -128 ≤ x ∧ x ≤ 127 := by
  simp [Lit.wf, IntKind.min, IntKind.max, IntKind.bits, IntKind.signed] at h; omega

theorem wrap32_range (x : Int) : -2147483648 ≤ wrap32 x ∧ wrap32 x ≤ 2147483647 := by unfold wrap32; omega
theorem wrap32_0 : wrap32 0 = 0 := by unfold wrap32; omega
theorem rd_nat (l : List Int) (i : Nat) (h : i < l.length) : rd l (i : Int) = l[i] := by
  unfold rd; simp [List.getD, h]
theorem drop_cons (l : List Int) (i : Nat) (h : i < l.length) : l.drop i = rd l (i : Int) :: l.drop (i + 1) := by
  rw [rd_nat l i h, List.drop_eq_getElem_cons h]
theorem rd_mem (l : List Int) (i : Nat) (h : i < l.length) : rd l (i : Int) ∈ l := by rw [rd_nat l i h]; exact List.getElem_mem h
theorem next (i n : Nat) (h : i < n) (hn : n ≤ 9223372036854775807) : wrap64 ((i : Int) + 1) = ((i + 1 : Nat) : Int) := by
  rw [wrap64_wf _ (by omega) (by omega)]; omega

theorem refmod_eq (x : Int) (h0 : -9223372036854775808 ≤ x) (h1 : x ≤ 9223372036854775807) : pelotonref01_Mod.f x = some (wrap32 x) := by
  unfold pelotonref01_Mod.f
  rw [Int.tmod_eq_emod]
  unfold wrap32 wrap64
  have hs : Int.natAbs 4294967296 = 4294967296 := rfl
  have hdv : (4294967296 : Int) ∣ x ↔ x % 4294967296 = 0 := ⟨Int.emod_eq_zero_of_dvd, Int.dvd_of_emod_eq_zero⟩
  by_cases hc : 0 ≤ x ∨ (4294967296 : Int) ∣ x
  · rw [if_pos hc]; simp only [Int.cast_ofNat_Int, Int.sub_zero]
    (repeat' split) <;> (simp only [Option.some.injEq]; omega)
  · rw [if_neg hc]
    rw [hdv] at hc
    (repeat' split) <;> (simp only [Option.some.injEq]; omega)

theorem refwrap_loop (l : List Int) (hl : l.length ≤ 9223372036854775807) (hw : ∀ x ∈ l, -9223372036854775808 ≤ x ∧ x ≤ 9223372036854775807) : ∀ (d k i : Nat) (s : Int), i + d = l.length → d < k →
    pelotonref01_Wrap.l0 k l (wrap32 s) i = some (wrap32 (s + tot (l.drop i))) := by
  intro d
  induction d with
  | zero =>
    intro k i s hi hk
    obtain ⟨k, rfl⟩ : ∃ m, k = m + 1 := ⟨k - 1, by omega⟩
    simp only [pelotonref01_Wrap.l0]
    rw [if_neg (by omega), List.drop_of_length_le (by omega)]; simp [tot, wrap32_wrap32]
  | succ d ih =>
    intro k i s hi hk
    obtain ⟨k, rfl⟩ : ∃ m, k = m + 1 := ⟨k - 1, by omega⟩
    have hr := hw _ (rd_mem l i (by omega))
    have w1 := wrap32_range s; have w2 := wrap32_range (rd l (i : Int))
    simp only [pelotonref01_Wrap.l0]
    rw [if_pos (by omega), if_pos (by omega), refmod_eq _ hr.1 hr.2, Option.bind_some, wrap64_wf (wrap32 (rd l (i : Int))) (by omega) (by omega), wrap64_wf (wrap32 s + _) (by omega) (by omega), refmod_eq _ (by omega) (by omega), Option.bind_some]
    have w3 := wrap32_range (wrap32 s + wrap32 (rd l (i : Int)))
    rw [wrap64_wf _ (by omega) (by omega), next i _ (by omega) hl, ih k (i + 1) _ (by omega) (by omega), drop_cons l i (by omega)]
    simp only [tot]
    rw [show ∀ a b c : Int, wrap32 (wrap32 a + wrap32 b + c) = wrap32 (a + (b + c)) from fun a b c => by unfold wrap32; omega]
theorem refwrap_eq (l : List Int) (hl : l.length ≤ 9223372036854775807) (hw : ∀ x ∈ l, -9223372036854775808 ≤ x ∧ x ≤ 9223372036854775807) (k : Nat) (hk : l.length < k) : pelotonref01_Wrap.f k l = some (wrap32 (tot l)) := by
  unfold pelotonref01_Wrap.f
  have := refwrap_loop l hl hw l.length k 0 0 (by omega) hk
  rw [wrap32_0] at this; simpa using this

theorem mulb {a b A B : Int} (h0 : 0 ≤ a) (h1 : a ≤ A) (h2 : 0 ≤ b) (h3 : b ≤ B) : 0 ≤ a * b ∧ a * b ≤ A * B :=
  ⟨Int.mul_nonneg h0 h2, Int.mul_le_mul h1 h3 h2 (Int.le_trans h0 h1)⟩

def RightM (r c : Int) (n : Nat) : Prop := 0 ≤ r ∧ r ≤ 4096 ∧ 0 ≤ c ∧ c ≤ 4096 ∧ (n : Int) = r * c ∧ n ≤ 1048576
instance (r c : Int) (n : Nat) : Decidable (RightM r c n) := by unfold RightM; infer_instance

def partS (v : List Int) (c lo hi : Nat) : Nat → Nat → List Int
  | 0, _ => []
  | d + 1, i => (v.take (i * c + hi)).drop (i * c + lo) ++ partS v c lo hi d (i + 1)
theorem seg_length (v : List Int) (a b : Nat) (h : b ≤ v.length) : ((v.take b).drop a).length = b - a := by
  simp only [List.length_drop, List.length_take]; omega
theorem seg_mem {v : List Int} {a b : Nat} {x : Int} (h : x ∈ (v.take b).drop a) : x ∈ v := List.mem_of_mem_take (List.mem_of_mem_drop h)
theorem seg_join (v : List Int) (a m b : Nat) (h0 : a ≤ m) (h1 : m ≤ b) (h2 : b ≤ v.length) : (v.take m).drop a ++ (v.take b).drop m = (v.take b).drop a := by
  have e : v.take m = (v.take b).take m := by rw [List.take_take, Nat.min_eq_left h1]
  have hl : (v.take b).length = b := by rw [List.length_take]; omega
  generalize v.take b = w at *
  rw [e]
  conv => rhs; rw [← List.take_append_drop m w]
  rw [List.drop_append, List.length_take]
  rw [show a - min m w.length = 0 by omega]; rfl
theorem seg_full (v : List Int) (b : Nat) : (v.take b).drop b = [] := by
  apply List.drop_eq_nil_of_le; rw [List.length_take]; omega
theorem seg_cons (v : List Int) (a b : Nat) (h0 : a < b) (h1 : b ≤ v.length) : (v.take b).drop a = rd v (a : Int) :: (v.take b).drop (a + 1) := by
  rw [List.drop_eq_getElem_cons (by rw [List.length_take]; omega), List.getElem_take, rd_nat v a (by omega)]
theorem row_end (v : List Int) (r c i : Nat) (h : v.length = r * c) (hi : i < r) : i * c + c ≤ v.length := by
  have := Nat.mul_le_mul_right c (show i + 1 ≤ r by omega)
  rw [Nat.add_mul] at this; omega
theorem partS_mem (v : List Int) (c lo hi : Nat) : ∀ d i x, x ∈ partS v c lo hi d i → x ∈ v := by
  intro d
  induction d with
  | zero => intro i x h; simp [partS] at h
  | succ d ih =>
    intro i x h
    rw [partS, List.mem_append] at h
    rcases h with h | h
    · exact seg_mem h
    · exact ih _ _ h
theorem partS_length (v : List Int) (r c lo hi : Nat) (hv : v.length = r * c) (h0 : lo ≤ hi) (h1 : hi ≤ c) : ∀ d i, i + d ≤ r → (partS v c lo hi d i).length = d * (hi - lo) := by
  intro d
  induction d with
  | zero => intro i h; simp [partS]
  | succ d ih =>
    intro i h
    have := row_end v r c i hv (by omega)
    rw [partS, List.length_append, ih (i + 1) (by omega), seg_length _ _ _ (by omega), Nat.add_mul]; omega
theorem partS_rows (v : List Int) (r c : Nat) (hv : v.length = r * c) : ∀ d i, i + d ≤ r → partS v c 0 c d i = (v.take ((i + d) * c)).drop (i * c) := by
  intro d
  induction d with
  | zero => intro i h; rw [partS, Nat.add_zero, seg_full]
  | succ d ih =>
    intro i h
    have h1 := row_end v r c i hv (by omega)
    have h2 : (i + (d + 1)) * c ≤ v.length := by rw [hv]; exact Nat.mul_le_mul_right c h
    have h3 : (i + 1) * c = i * c + c := by rw [Nat.add_mul, Nat.one_mul]
    have h4 : (i + 1) * c ≤ (i + (d + 1)) * c := Nat.mul_le_mul_right c (by omega)
    rw [partS, ih (i + 1) (by omega), h3, show i + 1 + d = i + (d + 1) by omega, Nat.add_zero]
    exact seg_join v _ _ _ (by omega) (by omega) h2
attribute [irreducible] partS

def Right3 (r c : Int) (n : Nat) : Prop := 0 ≤ r ∧ r ≤ 4096 ∧ 0 ≤ c ∧ c ≤ 4096 ∧ (n : Int) = r * c
instance (r c : Int) (n : Nat) : Decidable (Right3 r c n) := by unfold Right3; infer_instance
theorem right3_m (r c : Int) (n : Nat) : RightM r c n ↔ Right3 r c n ∧ n ≤ 1048576 := by
  unfold RightM Right3
  constructor
  · rintro ⟨a, b, c, d, e, f⟩; exact ⟨⟨a, b, c, d, e⟩, f⟩
  · rintro ⟨⟨a, b, c, d, e⟩, f⟩; exact ⟨a, b, c, d, e, f⟩

theorem gside_eq (n : Int) : grid_side.f n = some (decide (0 ≤ n ∧ n ≤ 4096)) := by
  unfold grid_side.f
  by_cases h : 0 ≤ n
  · rw [if_pos h]; simp [h]
  · rw [if_neg h]; simp [h]

theorem gright1_eq (r c : Int) (v : List Int) : grid_Right_1.f r c v = some (!decide (Right3 r c v.length)) := by
  unfold grid_Right_1.f
  rw [gside_eq, gside_eq]
  simp only [Option.bind_some, decide_eq_true_eq]
  by_cases h1 : 0 ≤ r ∧ r ≤ 4096
  · rw [if_pos h1]
    by_cases h2 : 0 ≤ c ∧ c ≤ 4096
    · rw [if_pos h2]
      have hb := mulb h1.1 h1.2 h2.1 h2.2
      rw [wrap64_wf _ (by omega) (by omega)]
      by_cases h3 : (v.length : Int) = r * c
      · have hm : Right3 r c v.length := ⟨h1.1, h1.2, h2.1, h2.2, h3⟩
        rw [decide_eq_true hm, bne_eq_false_iff_eq.2 h3]; rfl
      · rw [decide_eq_false (fun h : Right3 r c v.length => h3 h.2.2.2.2), bne_iff_ne.2 h3]; rfl
    · rw [if_neg h2, decide_eq_false (fun h => h2 ⟨h.2.2.1, h.2.2.2.1⟩)]; rfl
  · rw [if_neg h1, decide_eq_false (fun h => h1 ⟨h.1, h.2.1⟩)]; rfl

theorem right03_eq (r c : Int) (v : List Int) : pelotonref03_Right.f r c v = some (decide (Right3 r c v.length)) := by
  unfold pelotonref03_Right.f
  by_cases h1 : r ≥ 0
  · by_cases h2 : c ≥ 0
    · by_cases h3 : r ≤ 4096
      · by_cases h4 : c ≤ 4096
        · have hb := mulb h1 h3 h2 h4
          rw [if_pos h1, if_pos h2, if_pos h3, if_pos h4, wrap64_wf _ (by omega) (by omega)]
          by_cases h5 : (v.length : Int) = r * c
          · have hm : Right3 r c v.length := ⟨h1, h3, h2, h4, h5⟩
            rw [beq_iff_eq.2 h5, decide_eq_true hm]
          · rw [beq_eq_false_iff_ne.2 h5, decide_eq_false (fun h => h5 h.2.2.2.2)]
        · rw [if_pos h1, if_pos h2, if_pos h3, if_neg h4, decide_eq_false (fun h => h4 h.2.2.2.1)]
      · rw [if_pos h1, if_pos h2, if_neg h3, decide_eq_false (fun h => h3 h.2.1)]
    · rw [if_pos h1, if_neg h2, decide_eq_false (fun h => h2 h.2.2.1)]
  · rw [if_neg h1, decide_eq_false (fun h => h1 h.1)]

theorem fit03_eq (r c : Int) (v : List Int) : pelotonref03_Fit.f r c v = some (decide (RightM r c v.length)) := by
  unfold pelotonref03_Fit.f
  rw [right03_eq, Option.bind_some]
  by_cases h : Right3 r c v.length
  · rw [decide_eq_true h, if_pos rfl]
    by_cases g : (v.length : Int) ≤ 1048576
    · rw [decide_eq_true g, decide_eq_true ((right3_m r c v.length).2 ⟨h, by omega⟩)]
    · rw [decide_eq_false g, decide_eq_false (fun e => g (by have := ((right3_m r c v.length).1 e).2; omega))]
  · rw [decide_eq_false h, if_neg (by simp), decide_eq_false (fun e => h ((right3_m r c v.length).1 e).1)]

theorem cell_eq (r c : Int) (v : List Int) (i j n : Int) (m : Nat) (h1 : wrap64 (i * c) = n) (h2 : wrap64 (n + j) = (m : Int)) (hm : m < v.length) : pelotonref03_Cell.f r c v i j = some (rd v (m : Int)) := by
  unfold pelotonref03_Cell.f
  rw [h1, h2, if_pos (Int.natCast_nonneg m), if_pos (Int.ofNat_lt.2 hm)]

theorem rd_set (l : List Int) (n p : Nat) (v : Int) (hn : n < l.length) : rd (l.set n v) (p : Int) = if n = p then v else rd l (p : Int) := by
  unfold rd
  rw [Int.toNat_natCast, List.getD_eq_getElem?_getD, List.getD_eq_getElem?_getD, List.getElem?_set]
  by_cases h : n = p
  · subst h; simp [hn]
  · simp [h]
theorem row_rd (l : List Int) (c i j : Nat) (hj : j < c) (hl : i * c + c ≤ l.length) : rd (grid_row.L l (c : Int) (i : Int)) (j : Int) = rd l ((i * c + j : Nat) : Int) := by
  have e1 : ((i : Int) * (c : Int) + (c : Int)).toNat = i * c + c := by rw [← Int.natCast_mul]; generalize i * c = D; omega
  have e2 : ((i : Int) * (c : Int)).toNat = i * c := by rw [← Int.natCast_mul]; generalize i * c = D; omega
  unfold grid_row.L
  rw [e1, e2]
  unfold rd
  rw [Int.toNat_natCast, Int.toNat_natCast, List.getD_eq_getElem?_getD, List.getD_eq_getElem?_getD, List.getElem?_drop, List.getElem?_take_of_lt (by omega)]
theorem inn_len (y : List Int) (lo x : Int) : ∀ (m : Nat) (j : Int) (xs : List Int), (grid_Times.inn y lo x m j xs).length = xs.length := by
  intro m
  induction m with
  | zero => intro j xs; rfl
  | succ m ih => intro j xs; rw [grid_Times.inn, ih, List.length_set]
theorem inn_rd (y : List Int) (lo : Nat) (x : Int) : ∀ (m j : Nat) (xs : List Int), lo + (j + m) ≤ xs.length → ∀ p : Nat, p < xs.length →
    rd (grid_Times.inn y lo x m j xs) (p : Int) = if lo + j ≤ p ∧ p < lo + j + m then wrap32 (rd xs (p : Int) + wrap32 (x * rd y ((p - lo : Nat) : Int))) else rd xs (p : Int) := by
  intro m
  induction m with
  | zero => intro j xs h p hp; rw [if_neg (by omega)]; rfl
  | succ m ih =>
    intro j xs h p hp
    have e : ((lo : Int) + (j : Int)).toNat = lo + j := by omega
    have e2 : ((j : Int) + 1) = ((j + 1 : Nat) : Int) := by omega
    have e3 : ((lo : Int) + (j : Int)) = ((lo + j : Nat) : Int) := by omega
    rw [grid_Times.inn, e, e2, ih (j + 1) _ (by rw [List.length_set]; omega) p (by rw [List.length_set]; exact hp), rd_set _ _ _ _ (by omega), e3]
    by_cases c1 : lo + j = p
    · subst c1
      rw [if_neg (by omega), if_pos rfl, if_pos (by omega), show lo + j - lo = j by omega]
    · rw [if_neg c1]
      by_cases c2 : lo + (j + 1) ≤ p ∧ p < lo + (j + 1) + m
      · rw [if_pos c2, if_pos (by omega)]
      · rw [if_neg c2, if_neg (by omega)]
def Sm (a b : List Int) (n c i j : Nat) : Nat → Int
  | 0 => 0
  | m + 1 => Sm a b n c i j m + rd a ((i * n + m : Nat) : Int) * rd b ((m * c + j : Nat) : Int)
theorem mid_len (a b : List Int) (n c i : Int) : ∀ (m : Nat) (k : Int) (xs : List Int), (grid_Times.mid a b n c i m k xs).length = xs.length := by
  intro m
  induction m with
  | zero => intro j xs; rfl
  | succ m ih => intro j xs; rw [grid_Times.mid, ih, inn_len]
theorem mul_in (r c i : Nat) (h : i < r) : i * c + c ≤ r * c := by
  have := Nat.mul_le_mul_right c (show i + 1 ≤ r from h)
  rwa [Nat.add_mul, Nat.one_mul] at this
theorem mid_rd (a b : List Int) (r n c i : Nat) (ha : a.length = r * n) (hb : b.length = n * c) (hi : i < r) : ∀ (m k : Nat) (xs : List Int), k + m ≤ n → xs.length = r * c → ∀ p : Nat, p < r * c →
    (¬ (i * c ≤ p ∧ p < i * c + c) → rd (grid_Times.mid a b n c i m k xs) (p : Int) = rd xs (p : Int)) ∧
    (∀ j, j < c → p = i * c + j → rd xs (p : Int) = wrap32 (Sm a b n c i j k) → rd (grid_Times.mid a b n c i m k xs) (p : Int) = wrap32 (Sm a b n c i j (k + m))) := by
  intro m
  induction m with
  | zero => intro k xs hk hx p hp; exact ⟨fun _ => rfl, fun j hj hpj h => h⟩
  | succ m ih =>
    intro k xs hk hx p hp
    have e2 : ((k : Int) + 1) = ((k + 1 : Nat) : Int) := by omega
    have e3 : ((i : Int) * (c : Int)) = ((i * c : Nat) : Int) := (Int.natCast_mul i c).symm
    have hic := mul_in r c i hi
    have hin := mul_in r n i hi
    have hkc := mul_in n c k (by omega)
    rw [grid_Times.mid, e2, e3, Int.toNat_natCast]
    have hi1 := inn_rd (grid_row.L b c k) (i * c) (rd (grid_row.L a n i) k) c 0 xs (by omega) p (by omega)
    obtain ⟨g1, g2⟩ := ih (k + 1) (grid_Times.inn (grid_row.L b c k) ((i * c : Nat) : Int) (rd (grid_row.L a n i) k) c 0 xs) (by omega) (by rw [inn_len]; exact hx) p hp
    constructor
    · intro hn
      rw [g1 hn]
      rw [if_neg (by omega)] at hi1
      exact hi1
    · intro j hj hpj h
      rw [g2 j hj hpj, show k + 1 + m = k + (m + 1) by omega]
      rw [if_pos (by omega), h, show p - i * c = j by omega, row_rd b c k j hj (by omega)] at hi1
      refine hi1.trans ?_
      rw [wrap32_add_left, wrap32_add_right, row_rd a n i k (by omega) (by omega)]
      rfl
theorem out_len (a b : List Int) (n c : Int) : ∀ (m : Nat) (k : Int) (xs : List Int), (grid_Times.out a b n c m k xs).length = xs.length := by
  intro m
  induction m with
  | zero => intro j xs; rfl
  | succ m ih => intro j xs; rw [grid_Times.out, ih, mid_len]
theorem idx_lt (r c i j : Nat) (hi : i < r) (hj : j < c) : i * c + j < r * c := by have := mul_in r c i hi; omega
theorem idx_ne (c i i' j : Nat) (hj : j < c) (h : i ≠ i') : ¬ (i * c ≤ i' * c + j ∧ i' * c + j < i * c + c) := by
  intro ⟨h1, h2⟩
  rcases Nat.lt_or_ge i i' with g | g
  · have := mul_in i' c i g; omega
  · have := mul_in i c i' (by omega); omega
theorem out_rd (a b : List Int) (r n c : Nat) (ha : a.length = r * n) (hb : b.length = n * c) : ∀ (m i : Nat) (xs : List Int), i + m = r → xs.length = r * c → (∀ i' j, i ≤ i' → i' < r → j < c → rd xs ((i' * c + j : Nat) : Int) = 0) → (∀ i' j, i' < i → j < c → rd xs ((i' * c + j : Nat) : Int) = wrap32 (Sm a b n c i' j n)) →
    ∀ i' j, i' < r → j < c → rd (grid_Times.out a b n c m i xs) ((i' * c + j : Nat) : Int) = wrap32 (Sm a b n c i' j n) := by
  intro m
  induction m with
  | zero => intro i xs hi hx h0 h1 i' j hi' hj; exact h1 i' j (by omega) hj
  | succ m ih =>
    intro i xs hi hx h0 h1 i' j hi' hj
    have e2 : ((i : Int) + 1) = ((i + 1 : Nat) : Int) := by omega
    rw [grid_Times.out, e2, Int.toNat_natCast]
    refine ih (i + 1) _ (by omega) (by rw [mid_len]; exact hx) ?_ ?_ i' j hi' hj
    · intro i'' j' g1 g2 g3
      have := (mid_rd a b r n c i ha hb (by omega) n 0 xs (by omega) hx (i'' * c + j') (idx_lt r c i'' j' g2 g3)).1 (idx_ne c i i'' j' g3 (by omega))
      refine Eq.trans this (h0 i'' j' (by omega) g2 g3)
    · intro i'' j' g1 g3
      obtain ⟨f1, f2⟩ := mid_rd a b r n c i ha hb (by omega) n 0 xs (by omega) hx (i'' * c + j') (idx_lt r c i'' j' (by omega) g3)
      by_cases he : i'' = i
      · subst he
        have := f2 j' g3 rfl (by rw [h0 i'' j' (Nat.le_refl _) (by omega) g3]; exact wrap32_0.symm)
        rw [Nat.zero_add] at this
        exact this
      · exact Eq.trans (f1 (idx_ne c i i'' j' g3 (fun h => he h.symm))) (h1 i'' j' (by omega) g3)
theorem take_snoc (X : List Int) (q : Nat) (h : q < X.length) : X.take q ++ [rd X (q : Int)] = X.take (q + 1) := by
  rw [List.take_add_one, rd_nat X q h, List.getElem?_eq_getElem h]; rfl

theorem rdT_nat (l : List S24) (i : Nat) (h : i < l.length) : rd_T24 l (i : Int) = l[i] := by
  unfold rd_T24; rw [Int.toNat_natCast, List.getD_eq_getElem?_getD, List.getElem?_eq_getElem h]; rfl
theorem dropT_cons (l : List S24) (i : Nat) (h : i < l.length) : l.drop i = rd_T24 l (i : Int) :: l.drop (i + 1) := by
  rw [rdT_nat l i h]; exact List.drop_eq_getElem_cons h

theorem gr_loop (l : List S24) (hl : l.length ≤ 9223372036854775807) : ∀ (d k i : Nat), i + d = l.length → d < k →
    ∃ r, api_Grid_46_at_grid_Right_1.l0 k l (l.length : Int) i = some r ∧ decide (r ≥ 0) = (l.drop i).any (fun g => !decide (Right3 g.f0 g.f1 g.f2.length)) := by
  intro d
  induction d with
  | zero =>
    intro k i hi hk
    obtain ⟨k, rfl⟩ : ∃ m, k = m + 1 := ⟨k - 1, by omega⟩
    refine ⟨-1, ?_, by rw [List.drop_of_length_le (by omega)]; rfl⟩
    simp only [api_Grid_46_at_grid_Right_1.l0]
    rw [if_neg (by omega)]
  | succ d ih =>
    intro k i hi hk
    obtain ⟨k, rfl⟩ : ∃ m, k = m + 1 := ⟨k - 1, by omega⟩
    simp only [api_Grid_46_at_grid_Right_1.l0]
    rw [if_pos (by omega), if_pos (by omega), if_pos (by omega), gright1_eq, Option.bind_some, next i _ (show i < l.length by omega) hl, dropT_cons l i (by omega), List.any_cons]
    by_cases h : Right3 (rd_T24 l (i : Int)).f0 (rd_T24 l (i : Int)).f1 (rd_T24 l (i : Int)).f2.length
    · rw [decide_eq_true h, if_neg (by simp), Bool.not_true, Bool.false_or]
      exact ih k (i + 1) (by omega) (by omega)
    · rw [decide_eq_false h, if_pos (by simp), Bool.not_false, Bool.true_or]
      exact ⟨_, rfl, decide_eq_true (by omega)⟩
theorem gf_loop (l : List S24) (hl : l.length ≤ 9223372036854775807) : ∀ (d k i : Nat), i + d = l.length → d < k →
    ∃ r, api_Grid_46_at_grid_fit_1.l0 k l (l.length : Int) i = some r ∧ decide (r ≥ 0) = (l.drop i).any (fun g => decide (¬ g.f2.length ≤ 1048576)) := by
  intro d
  induction d with
  | zero =>
    intro k i hi hk
    obtain ⟨k, rfl⟩ : ∃ m, k = m + 1 := ⟨k - 1, by omega⟩
    refine ⟨-1, ?_, by rw [List.drop_of_length_le (by omega)]; rfl⟩
    simp only [api_Grid_46_at_grid_fit_1.l0]
    rw [if_neg (by omega)]
  | succ d ih =>
    intro k i hi hk
    obtain ⟨k, rfl⟩ : ∃ m, k = m + 1 := ⟨k - 1, by omega⟩
    simp only [api_Grid_46_at_grid_fit_1.l0, grid_fit_1.f]
    rw [if_pos (by omega), if_pos (by omega), if_pos (by omega), Option.bind_some, next i _ (show i < l.length by omega) hl, dropT_cons l i (by omega), List.any_cons]
    by_cases h : (rd_T24 l (i : Int)).f2.length ≤ 1048576
    · rw [decide_eq_false (by omega), if_neg (by simp), decide_eq_false (fun g => g h), Bool.false_or]
      exact ih k (i + 1) (by omega) (by omega)
    · rw [decide_eq_true (by omega), if_pos rfl, decide_eq_true h, Bool.true_or]
      exact ⟨_, rfl, decide_eq_true (by omega)⟩
def FitG (g : S24) : Prop := RightM g.f0 g.f1 g.f2.length
instance (g : S24) : Decidable (FitG g) := by unfold FitG; infer_instance
theorem right_all (k : Nat) (l : List S24) (hl : l.length ≤ 9223372036854775806) (hk : l.length < k) : grid_Right.f k l = some (l.all fun g => decide (Right3 g.f0 g.f1 g.f2.length)) := by
  obtain ⟨r, h1, h2⟩ := gr_loop l (by omega) l.length k 0 (by omega) hk
  unfold grid_Right.f api_Grid_39_at_grid_Right_1.f api_Grid_46_at_grid_Right_1.f
  rw [show (0 : Int) = ((0 : Nat) : Int) from rfl, h1]
  simp only [Option.bind_some]
  rw [show ((0 : Nat) : Int) = (0 : Int) from rfl] at *
  rw [h2, List.drop_zero, List.all_eq_not_any_not]
theorem fit_all (k : Nat) (l : List S24) (hl : l.length ≤ 9223372036854775806) (hk : l.length < k) : grid_fit.f k l = some (l.all fun g => decide (FitG g)) := by
  obtain ⟨r, h1, h2⟩ := gf_loop l (by omega) l.length k 0 (by omega) hk
  unfold grid_fit.f api_Grid_39_at_grid_fit_1.f api_Grid_46_at_grid_fit_1.f
  rw [right_all k l hl hk, show (0 : Int) = ((0 : Nat) : Int) from rfl, h1]
  simp only [Option.bind_some]
  rw [show ((0 : Nat) : Int) = (0 : Int) from rfl] at *
  have e : ∀ g : S24, decide (FitG g) = (decide (Right3 g.f0 g.f1 g.f2.length) && decide (g.f2.length ≤ 1048576)) := by
    intro g
    rw [← Bool.decide_and]
    exact decide_eq_decide.2 (right3_m g.f0 g.f1 g.f2.length)
  by_cases c : (l.all fun g => decide (Right3 g.f0 g.f1 g.f2.length)) = true
  · rw [if_pos c, h2, List.drop_zero]
    rw [List.all_eq_true] at c
    congr 1
    rw [Bool.eq_iff_iff, List.all_eq_true, Bool.not_eq_true', List.any_eq_false]
    constructor
    · intro h g hg
      rw [e, c g hg, Bool.true_and]
      have := h g hg
      simp only [decide_eq_true_eq] at this ⊢
      omega
    · intro h g hg
      have := h g hg
      rw [e, c g hg, Bool.true_and] at this
      simp only [decide_eq_true_eq] at this ⊢
      omega
  · rw [if_neg c]
    congr 1
    symm
    rw [Bool.eq_false_iff]
    intro h
    apply c
    rw [List.all_eq_true] at h ⊢
    intro g hg
    have := h g hg
    rw [e, Bool.and_eq_true] at this
    exact this.1
theorem len2 {x y : S24} : [x, y].length ≤ 9223372036854775806 := by rw [List.length_cons, List.length_cons, List.length_nil]; omega
theorem len2k {x y : S24} (k : Nat) (h : 3 < k) : [x, y].length < k := by rw [List.length_cons, List.length_cons, List.length_nil]; omega

theorem new_eq (r c : Int) (h : 0 ≤ r ∧ r ≤ 4096 ∧ 0 ≤ c ∧ c ≤ 4096 ∧ r * c ≤ 1048576) : grid_New.f r c = some (r, c, List.replicate (r * c).toNat 0, 0) := by
  obtain ⟨h1, h2, h3, h4, h5⟩ := h
  have hb := mulb h1 h2 h3 h4
  unfold grid_New.f
  rw [gside_eq, gside_eq, decide_eq_true (show 0 ≤ r ∧ r ≤ 4096 from ⟨h1, h2⟩), decide_eq_true (show 0 ≤ c ∧ c ≤ 4096 from ⟨h3, h4⟩), Option.bind_some, if_pos rfl, Option.bind_some, if_pos rfl, wrap64_wf _ (by omega) (by omega), if_neg (by omega), if_pos hb.1, if_pos (by omega)]
theorem new_bad (r c : Int) (h : ¬ (0 ≤ r ∧ r ≤ 4096 ∧ 0 ≤ c ∧ c ≤ 4096 ∧ r * c ≤ 1048576)) : grid_New.f r c = some (0, 0, [], 30) := by
  unfold grid_New.f
  rw [gside_eq, gside_eq, Option.bind_some, Option.bind_some]
  by_cases h1 : 0 ≤ r ∧ r ≤ 4096
  · by_cases h2 : 0 ≤ c ∧ c ≤ 4096
    · have hb := mulb h1.1 h1.2 h2.1 h2.2
      rw [decide_eq_true h1, decide_eq_true h2, if_pos rfl, if_pos rfl, wrap64_wf _ (by omega) (by omega), if_pos (by omega)]
    · rw [decide_eq_true h1, decide_eq_false h2, if_pos rfl, if_neg (by simp)]
  · rw [decide_eq_false h1, if_neg (by simp)]

theorem same3_loop (r c r' c' : Int) (a b : List Int) (ha : a.length ≤ 9223372036854775807) (hab : a.length = b.length) : ∀ (d k i : Nat), i + d = a.length → d < k →
    pelotonref03_Same.l0 k i r c a r' c' b = some (decide (a.drop i = b.drop i)) := by
  intro d
  induction d with
  | zero =>
    intro k i hi hk
    obtain ⟨k, rfl⟩ : ∃ m, k = m + 1 := ⟨k - 1, by omega⟩
    simp only [pelotonref03_Same.l0]
    rw [if_neg (by omega), List.drop_of_length_le (by omega), List.drop_of_length_le (by omega)]; simp
  | succ d ih =>
    intro k i hi hk
    obtain ⟨k, rfl⟩ : ∃ m, k = m + 1 := ⟨k - 1, by omega⟩
    simp only [pelotonref03_Same.l0]
    rw [if_pos (by omega), if_pos (by omega), if_pos (by omega), next i _ (show i < a.length by omega) ha, ih k (i + 1) (by omega) (by omega), drop_cons a i (by omega), drop_cons b i (by omega)]
    by_cases hc : rd a (i : Int) = rd b (i : Int)
    · rw [if_pos hc]; simp [hc]
    · rw [if_neg hc]; simp [hc]
theorem same3_self (r c : Int) (a : List Int) (ha : a.length ≤ 1048576) (k : Nat) (hk : 1048579 < k) : pelotonref03_Same.f k r c a r c a = some true := by
  obtain ⟨k, rfl⟩ : ∃ m, k = m + 1 := ⟨k - 1, by omega⟩
  unfold pelotonref03_Same.f
  rw [if_pos rfl, if_pos rfl]
  simp only [bne_self_eq_false, pelotonref03_Same.j0]
  rw [if_neg (by simp)]
  have := same3_loop r c r c a a (by omega) rfl a.length k 0 (by omega) (by omega)
  simpa using this

theorem held_ok (r c : Int) (a : List Int) (ha : a.length ≤ 1048576) (k : Nat) (hk : 1048579 < k) : pelotonlaw03_held.f k r c a 0 r c a true = some true := by
  unfold pelotonlaw03_held.f
  rw [if_pos rfl, if_pos rfl, same3_self r c a ha k hk]; rfl
theorem held_no (r c : Int) (a : List Int) (k : Nat) (hk : 1048579 < k) : pelotonlaw03_held.f k 0 0 [] 30 r c a false = some true := by
  unfold pelotonlaw03_held.f
  rw [if_neg (by simp), if_pos rfl, same3_self 0 0 [] (Nat.zero_le _) k hk]; rfl

theorem small_loop (l : List S24) (hl : l.length ≤ 9223372036854775806) : ∀ (d k i : Nat), i + d = l.length → d < k →
    ∃ b, pelotonlaw03_small.l0 k l i = some b ∧ (b = true → ∀ g ∈ l.drop i, g.f2.length ≤ 400) ∧ (b = true → l.length ≤ 12 ∨ l.length ≤ i) := by
  intro d
  induction d with
  | zero =>
    intro k i hi hk
    obtain ⟨k, rfl⟩ : ∃ m, k = m + 1 := ⟨k - 1, by omega⟩
    refine ⟨true, ?_, fun _ g hg => ?_, fun _ => Or.inr (by omega)⟩
    · simp only [pelotonlaw03_small.l0]; rw [if_neg (by omega)]
    · rw [List.drop_of_length_le (by omega)] at hg; cases hg
  | succ d ih =>
    intro k i hi hk
    obtain ⟨k, rfl⟩ : ∃ m, k = m + 1 := ⟨k - 1, by omega⟩
    simp only [pelotonlaw03_small.l0]
    rw [if_pos (by omega)]
    by_cases h1 : (i : Int) ≥ 12
    · exact ⟨false, by rw [if_pos h1], fun h => absurd h (by decide), fun h => absurd h (by decide)⟩
    · rw [if_neg h1, if_pos (by omega)]
      by_cases h2 : ((rd_T24 l (i : Int)).f2.length : Int) > 400
      · exact ⟨false, by rw [if_pos h2], fun h => absurd h (by decide), fun h => absurd h (by decide)⟩
      · rw [if_neg h2, next i l.length (by omega) (by omega)]
        obtain ⟨b, g1, g2, g3⟩ := ih k (i + 1) (by omega) (by omega)
        refine ⟨b, g1, fun hb g hg => ?_, fun hb => ?_⟩
        · rw [dropT_cons l i (by omega)] at hg
          rcases List.mem_cons.1 hg with hg | hg
          · subst hg; omega
          · exact g2 hb g hg
        · have := g3 hb; omega
theorem small_eq (l : List S24) (hl : l.length ≤ 9223372036854775806) (k : Nat) (hk : l.length < k) : ∃ b, pelotonlaw03_small.f k l = some b ∧ (b = true → (∀ g ∈ l, g.f2.length ≤ 400) ∧ l.length ≤ 12) := by
  obtain ⟨b, h1, h2, h3⟩ := small_loop l hl l.length k 0 (by omega) hk
  refine ⟨b, h1, fun hb => ⟨fun g hg => h2 hb g (by rw [List.drop_zero]; exact hg), ?_⟩⟩
  have := h3 hb; omega

def timesS (r n c : Nat) (a b : List Int) : List Int := grid_Times.out a b n c r 0 (List.replicate (r * c) 0)
theorem timesS_len (r n c : Nat) (a b : List Int) : (timesS r n c a b).length = r * c := by unfold timesS; rw [out_len, List.length_replicate]
theorem rd_rep (n p : Nat) : rd (List.replicate n 0) (p : Int) = 0 := by
  unfold rd; rw [Int.toNat_natCast, List.getD_eq_getElem?_getD, List.getElem?_replicate]; split <;> rfl
theorem timesS_rd (r n c : Nat) (a b : List Int) (ha : a.length = r * n) (hb : b.length = n * c) (i j : Nat) (hi : i < r) (hj : j < c) : rd (timesS r n c a b) ((i * c + j : Nat) : Int) = wrap32 (Sm a b n c i j n) :=
  out_rd a b r n c ha hb r 0 _ (Nat.zero_add _) (by rw [List.length_replicate]) (fun i' j' _ _ _ => rd_rep _ _) (fun i' j' h _ => by omega) i j hi hj
theorem times_ok (r n c : Nat) (a b : List Int) (ha : RightM r n a.length) (hb : RightM n c b.length) (hrc : r * c ≤ 1048576) (k : Nat) (hk : 3 < k) : grid_Times.f k r n a n c b = some ((r : Int), (c : Int), timesS r n c a b, 0) := by
  obtain ⟨a1, a2, a3, a4, a5, a6⟩ := id ha
  obtain ⟨b1, b2, b3, b4, b5, b6⟩ := id hb
  have e1 : ((r : Int) * (c : Int)) = ((r * c : Nat) : Int) := (Int.natCast_mul r c).symm
  have e2 : ((r : Int) * (c : Int)).toNat = r * c := by rw [e1, Int.toNat_natCast]
  have hd : grid_Times.dims r n a c b = true := decide_eq_true ⟨a1, a2, a3, a4, b3, b4, by omega, by omega⟩
  unfold grid_Times.f
  rw [fit_all k _ len2 (len2k k hk)]
  have hf : ([(⟨r, n, a⟩ : S24), ⟨n, c, b⟩].all fun g => decide (FitG g)) = true := by
    rw [List.all_cons, List.all_cons, List.all_nil, decide_eq_true (show FitG ⟨r, n, a⟩ from ha), decide_eq_true (show FitG ⟨n, c, b⟩ from hb)]; rfl
  have hl2 : [(⟨r, n, a⟩ : S24), ⟨n, c, b⟩].length = 2 := rfl
  rw [hf, Option.bind_some, if_pos rfl, if_pos rfl, new_eq r c ⟨a1, a2, b3, b4, by rw [e1]; exact Int.ofNat_le.2 hrc⟩, Option.bind_some]
  dsimp only
  rw [if_pos rfl, if_pos ⟨hd, rfl, by rw [List.length_replicate]⟩, e2, Int.toNat_natCast]
  rfl
theorem times_bad (r n m c : Int) (a b : List Int) (h : ¬ (RightM r n a.length ∧ RightM m c b.length ∧ n = m ∧ r * c ≤ 1048576)) (k : Nat) (hk : 3 < k) : grid_Times.f k r n a m c b = some (0, 0, [], 30) := by
  unfold grid_Times.f
  rw [fit_all k _ len2 (len2k k hk), List.all_cons, List.all_cons, List.all_nil, Bool.and_true, Option.bind_some]
  by_cases ha : RightM r n a.length
  · by_cases hb : RightM m c b.length
    · rw [decide_eq_true (show FitG ⟨r, n, a⟩ from ha), decide_eq_true (show FitG ⟨m, c, b⟩ from hb), if_pos (show (true && true) = true from rfl)]
      by_cases e : n = m
      · rw [if_pos e, new_bad r c (fun g => h ⟨ha, hb, e, g.2.2.2.2⟩), Option.bind_some]
        rfl
      · rw [if_neg e]
    · rw [decide_eq_false (show ¬ FitG ⟨m, c, b⟩ from hb), Bool.and_false, if_neg (by simp)]
  · rw [decide_eq_false (show ¬ FitG ⟨r, n, a⟩ from ha), Bool.false_and, if_neg (by simp)]

theorem len1 {x : S24} : [x].length ≤ 9223372036854775806 := by rw [List.length_cons, List.length_nil]; omega
theorem len1k {x : S24} (k : Nat) (h : 3 < k) : [x].length < k := by rw [List.length_cons, List.length_nil]; omega

theorem tinn_len (y : List Int) (a0 i : Int) : ∀ (m : Nat) (k : Int) (xs : List Int), (grid_Turn.inn y a0 i m k xs).length = xs.length := by
  intro m
  induction m with
  | zero => intro j xs; rfl
  | succ m ih => intro j xs; rw [grid_Turn.inn, ih, List.length_set]
theorem tout_len (l : List Int) (a0 a1 : Int) : ∀ (m : Nat) (k : Int) (xs : List Int), (grid_Turn.out l a0 a1 m k xs).length = xs.length := by
  intro m
  induction m with
  | zero => intro j xs; rfl
  | succ m ih => intro j xs; rw [grid_Turn.out, ih, tinn_len]
theorem tinn_rd (y : List Int) (r c i : Nat) (hi : i < r) : ∀ (m k : Nat) (xs : List Int), k + m = c → xs.length = c * r → ∀ j i' : Nat, j < c → i' < r →
    rd (grid_Turn.inn y r i m k xs) ((j * r + i' : Nat) : Int) = if k ≤ j ∧ i' = i then rd y (j : Int) else rd xs ((j * r + i' : Nat) : Int) := by
  intro m
  induction m with
  | zero => intro k xs hk hx j i' hj hi'; rw [if_neg (by omega)]; rfl
  | succ m ih =>
    intro k xs hk hx j i' hj hi'
    have e : ((k : Int) * (r : Int) + (i : Int)).toNat = k * r + i := by rw [← Int.natCast_mul, ← Int.natCast_add, Int.toNat_natCast]
    have e2 : ((k : Int) + 1) = ((k + 1 : Nat) : Int) := by omega
    have hlt : k * r + i < xs.length := by rw [hx]; exact idx_lt c r k i (by omega) hi
    rw [grid_Turn.inn, e, e2, ih (k + 1) _ (by omega) (by rw [List.length_set]; exact hx) j i' hj hi', rd_set _ _ _ _ hlt]
    by_cases c1 : j = k ∧ i' = i
    · obtain ⟨rfl, rfl⟩ := c1
      rw [if_neg (by omega), if_pos rfl, if_pos ⟨Nat.le_refl _, rfl⟩]
    · have hne : ¬ k * r + i = j * r + i' := by
        intro he
        by_cases c2 : j = k
        · subst c2; omega
        · exact idx_ne r k j i' hi' (fun h => c2 h.symm) (by omega)
      by_cases c3 : k + 1 ≤ j ∧ i' = i
      · rw [if_pos c3, if_pos (by omega)]
      · rw [if_neg c3, if_neg hne, if_neg (by omega)]
theorem tout_rd (l : List Int) (r c : Nat) (hl : l.length = r * c) : ∀ (m i : Nat) (xs : List Int), i + m = r → xs.length = c * r → (∀ j i', j < c → i' < i → rd xs ((j * r + i' : Nat) : Int) = rd l ((i' * c + j : Nat) : Int)) →
    ∀ j i', j < c → i' < r → rd (grid_Turn.out l r c m i xs) ((j * r + i' : Nat) : Int) = rd l ((i' * c + j : Nat) : Int) := by
  intro m
  induction m with
  | zero => intro i xs hi hx h j i' hj hi'; exact h j i' hj (by omega)
  | succ m ih =>
    intro i xs hi hx h j i' hj hi'
    have e2 : ((i : Int) + 1) = ((i + 1 : Nat) : Int) := by omega
    rw [grid_Turn.out, e2, Int.toNat_natCast]
    refine ih (i + 1) _ (by omega) (by rw [tinn_len]; exact hx) ?_ j i' hj hi'
    intro j' i'' hj' hi''
    refine Eq.trans (tinn_rd (grid_row.L l c i) r c i (by omega) c 0 xs (Nat.zero_add _) hx j' i'' hj' (by omega)) ?_
    by_cases c1 : i'' = i
    · subst c1
      rw [if_pos ⟨Nat.zero_le _, rfl⟩]
      exact row_rd l c i'' j' hj' (by have := mul_in r c i'' (by omega); omega)
    · rw [if_neg (fun g => c1 g.2)]
      exact h j' i'' hj' (by omega)
def turnS (r c : Nat) (l : List Int) : List Int := grid_Turn.out l r c r 0 (List.replicate l.length 0)
theorem turnS_len (r c : Nat) (l : List Int) : (turnS r c l).length = l.length := by unfold turnS; rw [tout_len, List.length_replicate]
theorem turnS_rd (r c : Nat) (l : List Int) (hl : l.length = r * c) (j i : Nat) (hj : j < c) (hi : i < r) : rd (turnS r c l) ((j * r + i : Nat) : Int) = rd l ((i * c + j : Nat) : Int) :=
  tout_rd l r c hl r 0 _ (Nat.zero_add _) (by rw [List.length_replicate, hl, Nat.mul_comm]) (fun j i' _ h => by omega) j i hj hi
theorem turn_ok (k : Nat) (hk : 3 < k) (r c : Nat) (l : List Int) (h : RightM r c l.length) : grid_Turn.f k r c l = some ((c : Int), (r : Int), turnS r c l, 0) := by
  obtain ⟨a1, a2, a3, a4, a5, a6⟩ := id h
  have hd : grid_Turn.dims r c l = true := decide_eq_true ⟨a1, a2, a3, a4, a5⟩
  unfold grid_Turn.f
  rw [fit_all _ _ len1 (len1k _ hk), List.all_cons, List.all_nil, Bool.and_true, Option.bind_some, decide_eq_true (show FitG ⟨r, c, l⟩ from h), if_pos rfl, if_pos hd, Int.toNat_natCast]
  rfl
theorem turn_bad (k : Nat) (hk : 3 < k) (r c : Int) (l : List Int) (h : ¬ RightM r c l.length) : grid_Turn.f k r c l = some (0, 0, [], 30) := by
  unfold grid_Turn.f
  rw [fit_all _ _ len1 (len1k _ hk), List.all_cons, List.all_nil, Bool.and_true, Option.bind_some, decide_eq_false (show ¬ FitG ⟨r, c, l⟩ from h), if_neg (by simp)]

theorem rturn_l1 (r c : Nat) (v X : List Int) (hv : v.length = r * c) (hr : r ≤ 4096) (hc : c ≤ 4096) (hvl : v.length ≤ 1048576) (hX : X.length = c * r) (j : Nat) (hj : j < c) (hrd : ∀ i, i < r → rd X ((j * r + i : Nat) : Int) = rd v ((i * c + j : Nat) : Int)) (R C : Int) (m : Nat) : ∀ (d i : Nat), i + d = r →
    pelotonref03_Turn.l1 (m + (d + 1)) j i r c v R C (X.take (j * r + i)) = pelotonref03_Turn.l0 m ((j + 1 : Nat) : Int) r c v R C (X.take ((j + 1) * r)) := by
  intro d
  have hin2 := mul_in c r j hj
  have hcr : c * r ≤ 1048576 := by rw [Nat.mul_comm, ← hv]; exact hvl
  induction d with
  | zero =>
    intro i hi
    have e : j * r + i = (j + 1) * r := by rw [Nat.add_mul, Nat.one_mul]; omega
    rw [e]
    show pelotonref03_Turn.l1 (m + 1) j i r c v R C _ = _
    simp only [pelotonref03_Turn.l1]
    rw [if_neg (by clear e; omega), next j (j + 1) (by omega) (by omega)]
  | succ d ih =>
    intro i hi
    have hin := row_end v r c i hv (by omega)
    show pelotonref03_Turn.l1 ((m + (d + 1)) + 1) j i r c v R C _ = _
    simp only [pelotonref03_Turn.l1]
    rw [if_pos (by omega), cell_eq r c v i j _ _ (w_mul i c (by omega)) (w_add (i * c) j (by omega)) (by omega), Option.bind_some, if_pos (by rw [List.length_take]; omega), next i r (by omega) (by omega), ← hrd i (by omega), take_snoc X (j * r + i) (by omega)]
    exact ih (i + 1) (by omega)
theorem rturn_l0 (r c : Nat) (v X : List Int) (hv : v.length = r * c) (hr : r ≤ 4096) (hc : c ≤ 4096) (hvl : v.length ≤ 1048576) (hX : X.length = c * r) (hrd : ∀ j i, j < c → i < r → rd X ((j * r + i : Nat) : Int) = rd v ((i * c + j : Nat) : Int)) (R C : Int) (m : Nat) : ∀ (d j : Nat), j + d = c →
    pelotonref03_Turn.l0 (m + (d * (r + 2) + 1)) j r c v R C (X.take (j * r)) = some (R, C, X) := by
  intro d
  induction d with
  | zero =>
    intro j hj
    have e : j = c := by omega
    subst e
    rw [Nat.zero_mul]
    show pelotonref03_Turn.l0 (m + 1) j r j v R C _ = _
    simp only [pelotonref03_Turn.l0]
    rw [if_neg (by omega), List.take_of_length_le (by omega)]
  | succ d ih =>
    intro j hj
    have e : m + ((d + 1) * (r + 2) + 1) = ((m + (d * (r + 2) + 1)) + (r + 1)) + 1 := by rw [Nat.add_mul, Nat.one_mul]; generalize d * (r + 2) = D; omega
    have h1 := rturn_l1 r c v X hv hr hc hvl hX j (by omega) (fun i hi => hrd j i (by omega) hi) R C (m + (d * (r + 2) + 1)) r 0 (Nat.zero_add _)
    rw [e]
    simp only [pelotonref03_Turn.l0]
    rw [if_pos (by clear h1 e; omega)]
    refine h1.trans ?_
    exact ih (j + 1) (by omega)

theorem rturn_ok (k : Nat) (hk : 20000000 < k) (r c : Nat) (l : List Int) (h : RightM r c l.length) : pelotonref03_Turn.f k r c l = some ((c : Int), (r : Int), turnS r c l) := by
  obtain ⟨a1, a2, a3, a4, a5, a6⟩ := id h
  have hl : l.length = r * c := by rw [← Int.natCast_mul] at a5; exact Int.ofNat_inj.1 a5
  have hr : r ≤ 4096 := by omega
  have hc : c ≤ 4096 := by omega
  have hcost : c * (r + 2) + 1 ≤ 20000000 := Nat.le_trans (Nat.add_le_add_right (Nat.mul_le_mul hc (show r + 2 ≤ 4098 by omega)) 1) (by decide)
  obtain ⟨m, hkm⟩ : ∃ m, k = m + (c * (r + 2) + 1) := ⟨k - (c * (r + 2) + 1), by generalize c * (r + 2) + 1 = X at *; omega⟩
  have ht := rturn_l0 r c l (turnS r c l) hl hr hc a6 (by rw [turnS_len, hl, Nat.mul_comm]) (fun j i hj hi => turnS_rd r c l hl j i hj hi) c r m c 0 (Nat.zero_add _)
  rw [Nat.zero_mul, List.take_zero] at ht
  unfold pelotonref03_Turn.f
  rw [hkm]
  exact ht

theorem copied_loop (l : List S24) (hl : l.length ≤ 12) (hs : ∀ g ∈ l, g.f2.length ≤ 400) : ∀ (d k i : Nat) (o : List S24), i + d = l.length → d < k → o.length = i →
    pelotonlaw03_copied.l0 k l o i = some (o ++ l.drop i) := by
  intro d
  induction d with
  | zero =>
    intro k i o hi hk ho
    obtain ⟨k, rfl⟩ : ∃ m, k = m + 1 := ⟨k - 1, by omega⟩
    simp only [pelotonlaw03_copied.l0]
    rw [if_neg (by omega), List.drop_of_length_le (by omega), List.append_nil]
  | succ d ih =>
    intro k i o hi hk ho
    obtain ⟨k, rfl⟩ : ∃ m, k = m + 1 := ⟨k - 1, by omega⟩
    have hm : rd_T24 l (i : Int) ∈ l := by rw [rdT_nat l i (by omega)]; exact List.getElem_mem _
    have hs' := hs _ hm
    simp only [pelotonlaw03_copied.l0]
    rw [if_pos (by omega), if_pos (by omega), Option.bind_some, List.length_nil, Nat.zero_add, if_pos (by omega), if_pos (by omega), next i l.length (by omega) (by omega), ih k (i + 1) _ (by omega) (by omega) (by rw [List.length_append, ho]; rfl), List.nil_append, dropT_cons l i (by omega), List.append_assoc, List.singleton_append]
theorem copied_eq (l : List S24) (hl : l.length ≤ 12) (hs : ∀ g ∈ l, g.f2.length ≤ 400) (k : Nat) (hk : 13 < k) : pelotonlaw03_copied.f k l = some l := by
  have := copied_loop l hl hs l.length k 0 [] (by omega) (by omega) rfl
  rwa [List.nil_append, List.drop_zero] at this

theorem fit1 (k : Nat) (hk : 3 < k) (g : S24) : grid_fit.f k [g] = some (decide (FitG g)) := by
  rw [fit_all k _ len1 (len1k k hk), List.all_cons, List.all_nil, Bool.and_true]
theorem stack_both (k : Nat) (hk : 3 < k) (l : List S24) (hl : l.length ≤ 100) : ∀ (d i : Nat) (R C : Int) (V : List Int) (m : Nat), i + d = l.length → (i = 0 ∨ C = (rd_T24 l 0).f1) → RightM R C V.length →
    (∃ r : S24, FitG r ∧ grid_Stack.go k l d i R C V = some (r.f0, r.f1, r.f2, 0) ∧ pelotonref03_Stack.l0 (m + (2 * d + 1)) l i R C V = some (r.f0, r.f1, r.f2, true)) ∨
    (grid_Stack.go k l d i R C V = some (0, 0, [], 30) ∧ pelotonref03_Stack.l0 (m + (2 * d + 1)) l i R C V = some (0, 0, [], false)) := by
  intro d
  induction d with
  | zero =>
    intro i R C V m hi hC hR
    refine Or.inl ⟨⟨R, C, V⟩, hR, rfl, ?_⟩
    show pelotonref03_Stack.l0 (m + 1) l i R C V = _
    simp only [pelotonref03_Stack.l0]
    rw [if_neg (by omega)]
  | succ d ih =>
    intro i R C V m hi hC hR
    have hil : i < l.length := by omega
    have e : m + (2 * (d + 1) + 1) = ((m + (2 * d + 1)) + 1) + 1 := by omega
    have e2 : ((i : Int) + 1) = ((i + 1 : Nat) : Int) := by omega
    have hc0 : grid_Stack.go k l (d + 1) i R C V = (if decide (FitG (rd_T24 l (i : Int))) = true then (if (0 : Int) < i ∧ (rd_T24 l (i : Int)).f1 ≠ C then some (0, 0, [], 30) else if V.length + (rd_T24 l (i : Int)).f2.length < 35184372088832 then (grid_fit.f k [(⟨wrap64 (R + (rd_T24 l (i : Int)).f0), (rd_T24 l (i : Int)).f1, V ++ (rd_T24 l (i : Int)).f2⟩ : S24)]).bind fun t2 => if t2 = true then grid_Stack.go k l d ((i : Int) + 1) (wrap64 (R + (rd_T24 l (i : Int)).f0)) (rd_T24 l (i : Int)).f1 (V ++ (rd_T24 l (i : Int)).f2) else some (0, 0, [], 30) else none) else some (0, 0, [], 30)) := by
      rw [grid_Stack.go, fit1 k hk, Option.bind_some]
    have hr0 : pelotonref03_Stack.l0 (((m + (2 * d + 1)) + 1) + 1) l i R C V = (if decide (RightM (rd_T24 l (i : Int)).f0 (rd_T24 l (i : Int)).f1 (rd_T24 l (i : Int)).f2.length) = true then (if (i : Int) > 0 then (if (0 : Int) < (l.length : Int) then pelotonref03_Stack.j1 (m + (2 * d + 1) + 1) l i ((rd_T24 l (i : Int)).f1 != (rd_T24 l 0).f1) R C V else none) else pelotonref03_Stack.j1 (m + (2 * d + 1) + 1) l i false R C V) else pelotonref03_Stack.j1 (m + (2 * d + 1) + 1) l i true R C V) := by
      rw [pelotonref03_Stack.l0, if_pos (show (i : Int) < (l.length : Int) by omega), if_pos (show (0 : Int) ≤ (i : Int) by omega), fit03_eq, Option.bind_some]
    rw [e, hc0, hr0]
    have hbad : pelotonref03_Stack.j1 (m + (2 * d + 1) + 1) l i true R C V = some (0, 0, [], false) := by rw [pelotonref03_Stack.j1, if_pos rfl]
    by_cases hf : FitG (rd_T24 l (i : Int))
    · have hf' : RightM (rd_T24 l (i : Int)).f0 (rd_T24 l (i : Int)).f1 (rd_T24 l (i : Int)).f2.length := hf
      rw [decide_eq_true hf, if_pos rfl, decide_eq_true hf', if_pos rfl]
      by_cases hA : (0 : Int) < i ∧ (rd_T24 l (i : Int)).f1 ≠ C
      · have hC' : C = (rd_T24 l 0).f1 := hC.resolve_left (by omega)
        rw [if_pos hA, if_pos hA.1, if_pos (by omega), ← hC', bne_iff_ne.2 hA.2]
        exact Or.inr ⟨rfl, hbad⟩
      · rw [if_neg hA]
        have hcol : (rd_T24 l (i : Int)).f1 = (rd_T24 l 0).f1 := by
          by_cases h0 : i = 0
          · subst h0; rfl
          · have hC' : C = (rd_T24 l 0).f1 := hC.resolve_left h0
            rw [← hC']
            exact Classical.not_not.1 (fun h => hA ⟨by omega, h⟩)
        have hlen : V.length + (rd_T24 l (i : Int)).f2.length < 35184372088832 := by have h1 := hR.2.2.2.2.2; have h2 := hf'.2.2.2.2.2; omega
        have hj : (if (i : Int) > 0 then (if (0 : Int) < (l.length : Int) then pelotonref03_Stack.j1 (m + (2 * d + 1) + 1) l i ((rd_T24 l (i : Int)).f1 != (rd_T24 l 0).f1) R C V else none) else pelotonref03_Stack.j1 (m + (2 * d + 1) + 1) l i false R C V) = pelotonref03_Stack.j1 (m + (2 * d + 1) + 1) l i false R C V := by
          by_cases h0 : (i : Int) > 0
          · rw [if_pos h0, if_pos (by omega), hcol, bne_self_eq_false]
          · rw [if_neg h0]
        have hj2 : pelotonref03_Stack.j1 (m + (2 * d + 1) + 1) l i false R C V = (if decide (RightM (wrap64 (R + (rd_T24 l (i : Int)).f0)) (rd_T24 l (i : Int)).f1 (V ++ (rd_T24 l (i : Int)).f2).length) = true then pelotonref03_Stack.l0 (m + (2 * d + 1)) l (wrap64 ((i : Int) + 1)) (wrap64 (R + (rd_T24 l (i : Int)).f0)) (rd_T24 l (i : Int)).f1 (V ++ (rd_T24 l (i : Int)).f2) else some (0, 0, [], false)) := by
          rw [pelotonref03_Stack.j1, if_neg (by simp), if_pos (show (0 : Int) ≤ (i : Int) by omega), if_pos (show (i : Int) < (l.length : Int) by omega), if_pos hlen, Option.bind_some, fit03_eq, Option.bind_some]
        rw [hj, hj2, if_pos hlen, fit1 k hk, Option.bind_some]
        by_cases hg : FitG ⟨wrap64 (R + (rd_T24 l (i : Int)).f0), (rd_T24 l (i : Int)).f1, V ++ (rd_T24 l (i : Int)).f2⟩
        · have hg' : RightM (wrap64 (R + (rd_T24 l (i : Int)).f0)) (rd_T24 l (i : Int)).f1 (V ++ (rd_T24 l (i : Int)).f2).length := hg
          rw [decide_eq_true hg, if_pos rfl, decide_eq_true hg', if_pos rfl, next i l.length hil (by omega), e2]
          exact ih (i + 1) _ _ _ m (by omega) (Or.inr hcol) hg'
        · have hg' : ¬ RightM (wrap64 (R + (rd_T24 l (i : Int)).f0)) (rd_T24 l (i : Int)).f1 (V ++ (rd_T24 l (i : Int)).f2).length := hg
          rw [decide_eq_false hg, if_neg (by simp), decide_eq_false hg', if_neg (by simp)]
          exact Or.inr ⟨rfl, rfl⟩
    · have hf' : ¬ RightM (rd_T24 l (i : Int)).f0 (rd_T24 l (i : Int)).f1 (rd_T24 l (i : Int)).f2.length := hf
      rw [decide_eq_false hf, if_neg (by simp), decide_eq_false hf', if_neg (by simp)]
      exact Or.inr ⟨rfl, hbad⟩
theorem stack_f (k k' : Nat) (hk : 3 < k) (hk' : 300 < k') (l : List S24) (hl : l.length ≤ 100) :
    (∃ r : S24, FitG r ∧ grid_Stack.f k l = some (r.f0, r.f1, r.f2, 0) ∧ pelotonref03_Stack.f k' l = some (r.f0, r.f1, r.f2, true)) ∨
    (grid_Stack.f k l = some (0, 0, [], 30) ∧ pelotonref03_Stack.f k' l = some (0, 0, [], false)) := by
  obtain ⟨m, rfl⟩ : ∃ m, k' = m + (2 * l.length + 1) := ⟨k' - (2 * l.length + 1), by omega⟩
  have h := stack_both k hk l hl l.length 0 0 0 [] m (Nat.zero_add _) (Or.inl rfl) ⟨by decide, by decide, by decide, by decide, rfl, by simp⟩
  unfold grid_Stack.f pelotonref03_Stack.f
  rw [if_pos (by omega)]
  exact h

def turnG (g : S24) : S24 := ⟨g.f1, g.f0, turnS g.f0.toNat g.f1.toNat g.f2⟩
theorem turnG_code (k : Nat) (hk : 3 < k) (g : S24) (h : FitG g) : grid_Turn.f k g.f0 g.f1 g.f2 = some ((turnG g).f0, (turnG g).f1, (turnG g).f2, 0) := by
  obtain ⟨r, c, v⟩ := g
  have h' : RightM r c v.length := h
  obtain ⟨r, rfl⟩ := Int.eq_ofNat_of_zero_le h'.1
  obtain ⟨c, rfl⟩ := Int.eq_ofNat_of_zero_le h'.2.2.1
  exact turn_ok k hk r c v h'
theorem turnG_ref (k : Nat) (hk : 20000000 < k) (g : S24) (h : FitG g) : pelotonref03_Turn.f k g.f0 g.f1 g.f2 = some ((turnG g).f0, (turnG g).f1, (turnG g).f2) := by
  obtain ⟨r, c, v⟩ := g
  have h' : RightM r c v.length := h
  obtain ⟨r, rfl⟩ := Int.eq_ofNat_of_zero_le h'.1
  obtain ⟨c, rfl⟩ := Int.eq_ofNat_of_zero_le h'.2.2.1
  exact rturn_ok k hk r c v h'
theorem turnG_len (g : S24) : (turnG g).f2.length = g.f2.length := turnS_len _ _ _
def finC (m : Nat) (T : List S24) : Option (Int × Int × List Int × Int) := (grid_Stack.f m T).bind fun bt169 => (if bt169.2.2.2 = 0 then ((grid_Turn.f m bt169.1 bt169.2.1 bt169.2.2.1).bind fun bt176 => (some (bt176.1, bt176.2.1, bt176.2.2.1, bt176.2.2.2))) else (some (0, 0, ([] : List Int), bt169.2.2.2)))
def finR (m : Nat) (T : List S24) : Option (Int × Int × List Int × Bool) := (pelotonref03_Stack.f m T).bind fun bt219 => (if bt219.2.2.2 = true then ((pelotonref03_Turn.f m bt219.1 bt219.2.1 bt219.2.2.1).bind fun bt226 => (some (bt226.1, bt226.2.1, bt226.2.2, true))) else (some (0, 0, ([] : List Int), false)))
theorem take_map_snoc (l : List S24) (i : Nat) (h : i < l.length) : (l.take i).map turnG ++ [turnG (rd_T24 l (i : Int))] = (l.take (i + 1)).map turnG := by
  rw [List.take_add_one, List.map_append, rdT_nat l i h, List.getElem?_eq_getElem h]; rfl
theorem besideC (l : List S24) (hl : l.length ≤ 100) (m : Nat) (hm : 3 < m) : ∀ (d i : Nat), i + d = l.length →
    grid_Beside.l0 (m + (d + 1)) ((l.take i).map turnG ++ List.replicate d z24) l (l.length : Int) i = if (l.drop i).all (fun g => decide (FitG g)) = true then finC m (l.map turnG) else some (0, 0, [], 30) := by
  intro d
  induction d with
  | zero =>
    intro i hi
    rw [List.drop_of_length_le (by omega), List.replicate_zero, List.append_nil, List.take_of_length_le (by omega)]
    show grid_Beside.l0 (m + 1) _ l _ i = _
    rw [grid_Beside.l0, if_neg (by omega), if_pos (by rfl)]
    rfl
  | succ d ih =>
    intro i hi
    have hil : i < l.length := by omega
    have hlen : ((l.take i).map turnG).length = i := by rw [List.length_map, List.length_take]; omega
    show grid_Beside.l0 ((m + (d + 1)) + 1) _ l _ i = _
    rw [grid_Beside.l0, if_pos (by omega), if_pos (by omega), if_pos (by omega), dropT_cons l i hil, List.all_cons]
    by_cases hf : FitG (rd_T24 l (i : Int))
    · rw [turnG_code _ (by omega) _ hf, Option.bind_some, if_pos (by rw [List.length_append, hlen, List.length_replicate]; omega)]
      dsimp only
      rw [if_pos rfl, decide_eq_true hf, Bool.true_and, next i l.length hil (by omega), Int.toNat_natCast, List.replicate_succ, List.set_append, if_neg (by omega), hlen, Nat.sub_self, List.set_cons_zero, List.append_cons, take_map_snoc l i hil]
      exact ih (i + 1) (by omega)
    · have hf' : ¬ RightM (rd_T24 l (i : Int)).f0 (rd_T24 l (i : Int)).f1 (rd_T24 l (i : Int)).f2.length := hf
      rw [turn_bad _ (by omega) _ _ _ hf', Option.bind_some, if_pos (by rw [List.length_append, hlen, List.length_replicate]; omega), decide_eq_false hf, Bool.false_and]
      dsimp only
      rw [if_neg (by decide), if_neg (by simp)]
theorem besideR (l : List S24) (hl : l.length ≤ 100) (m : Nat) (hm : 20000000 < m) : ∀ (d i : Nat), i + d = l.length →
    pelotonref03_Beside.l0 (m + (d + 1)) l ((l.take i).map turnG) i = if (l.drop i).all (fun g => decide (FitG g)) = true then finR m (l.map turnG) else some (0, 0, [], false) := by
  intro d
  induction d with
  | zero =>
    intro i hi
    rw [List.drop_of_length_le (by omega), List.take_of_length_le (by omega)]
    show pelotonref03_Beside.l0 (m + 1) l _ i = _
    rw [pelotonref03_Beside.l0, if_neg (by omega), if_pos (by rfl)]
    rfl
  | succ d ih =>
    intro i hi
    have hil : i < l.length := by omega
    have hlen : ((l.take i).map turnG).length = i := by rw [List.length_map, List.length_take]; omega
    show pelotonref03_Beside.l0 ((m + (d + 1)) + 1) l _ i = _
    rw [pelotonref03_Beside.l0, if_pos (by omega), if_pos (by omega), fit03_eq, Option.bind_some, dropT_cons l i hil, List.all_cons]
    by_cases hf : FitG (rd_T24 l (i : Int))
    · have hf' : RightM (rd_T24 l (i : Int)).f0 (rd_T24 l (i : Int)).f1 (rd_T24 l (i : Int)).f2.length := hf
      rw [decide_eq_true hf', if_pos rfl, turnG_ref _ (by omega) _ hf, Option.bind_some, if_pos (by rw [hlen]; omega), decide_eq_true hf, Bool.true_and, next i l.length hil (by omega)]
      dsimp only
      rw [take_map_snoc l i hil]
      exact ih (i + 1) (by omega)
    · have hf' : ¬ RightM (rd_T24 l (i : Int)).f0 (rd_T24 l (i : Int)).f1 (rd_T24 l (i : Int)).f2.length := hf
      rw [decide_eq_false hf', if_neg (by simp), decide_eq_false hf, Bool.false_and, if_neg (by simp)]
theorem beside_f (k k' : Nat) (hk : 300 < k) (hk' : 30000000 < k') (l : List S24) (hl : l.length ≤ 100) :
    (∃ r : S24, r.f2.length ≤ 1048576 ∧ grid_Beside.f k l = some (r.f0, r.f1, r.f2, 0) ∧ pelotonref03_Beside.f k' l = some (r.f0, r.f1, r.f2, true)) ∨
    (grid_Beside.f k l = some (0, 0, [], 30) ∧ pelotonref03_Beside.f k' l = some (0, 0, [], false)) := by
  obtain ⟨m, rfl⟩ : ∃ m, k = m + (l.length + 1) := ⟨k - (l.length + 1), by omega⟩
  obtain ⟨m', rfl⟩ : ∃ m, k' = m + (l.length + 1) := ⟨k' - (l.length + 1), by omega⟩
  have h1 := besideC l hl m (by omega) l.length 0 (Nat.zero_add _)
  have h2 := besideR l hl m' (by omega) l.length 0 (Nat.zero_add _)
  rw [List.take_zero, List.map_nil, List.nil_append] at h1
  rw [List.take_zero, List.map_nil] at h2
  unfold grid_Beside.f pelotonref03_Beside.f
  rw [if_pos (by omega), if_pos (by omega), Int.toNat_natCast, show (0 : Int) = ((0 : Nat) : Int) from rfl, h1, h2, List.drop_zero]
  rw [show ((0 : Nat) : Int) = (0 : Int) from rfl]
  by_cases ha : (l.all fun g => decide (FitG g)) = true
  · rw [if_pos ha, if_pos ha]
    unfold finC finR
    rcases stack_f m m' (by omega) (by omega) (l.map turnG) (by rw [List.length_map]; exact hl) with ⟨r, hr, g1, g2⟩ | ⟨g1, g2⟩
    · rw [g1, g2, Option.bind_some, Option.bind_some]
      dsimp only
      rw [if_pos rfl, if_pos rfl, turnG_code m (by omega) r hr, turnG_ref m' (by omega) r hr, Option.bind_some, Option.bind_some]
      exact Or.inl ⟨turnG r, by rw [turnG_len]; exact hr.2.2.2.2.2, rfl, rfl⟩
    · rw [g1, g2, Option.bind_some, Option.bind_some]
      dsimp only
      rw [if_neg (by decide), if_neg (by simp)]
      exact Or.inr ⟨rfl, rfl⟩
  · rw [if_neg ha, if_neg ha]
    exact Or.inr ⟨rfl, rfl⟩

def addV (g : List Int) : Nat → Nat → List Int → List Int
  | 0, _, X => X
  | d + 1, j, X => addV g d (j + 1) (X.set j (wrap32 (rd X (j : Int) + rd g (j : Int))))
theorem addV_len (g : List Int) : ∀ (d j : Nat) (X : List Int), (addV g d j X).length = X.length := by
  intro d
  induction d with
  | zero => intro j X; rfl
  | succ d ih => intro j X; rw [addV, ih, List.length_set]
theorem addV_rd (g : List Int) : ∀ (d j : Nat) (X : List Int), j + d ≤ X.length → ∀ p : Nat, p < X.length → rd (addV g d j X) (p : Int) = if j ≤ p ∧ p < j + d then wrap32 (rd X (p : Int) + rd g (p : Int)) else rd X (p : Int) := by
  intro d
  induction d with
  | zero => intro j X h p hp; rw [if_neg (by omega)]; rfl
  | succ d ih =>
    intro j X h p hp
    rw [addV, ih (j + 1) _ (by rw [List.length_set]; omega) p (by rw [List.length_set]; exact hp), rd_set _ _ _ _ (by omega)]
    by_cases c1 : j = p
    · subst c1
      rw [if_neg (by omega), if_pos rfl, if_pos (by omega)]
    · rw [if_neg c1]
      by_cases c2 : j + 1 ≤ p ∧ p < j + 1 + d
      · rw [if_pos c2, if_pos (by omega)]
      · rw [if_neg c2, if_neg (by omega)]
theorem add_l1 (l : List S24) (n i R C : Int) (g : List Int) (hg : g.length ≤ 1048576) (m : Nat) : ∀ (d j : Nat) (X : List Int), j + d = g.length → X.length = g.length →
    grid_Add.l1 (m + (d + 1)) l n i g (g.length : Int) j R C X = grid_Add.l0 m l n (wrap64 (i + 1)) R C (addV g d j X) := by
  intro d
  induction d with
  | zero =>
    intro j X hj hX
    show grid_Add.l1 (m + 1) l n i g (g.length : Int) j R C X = _
    rw [grid_Add.l1, if_neg (by omega)]; rfl
  | succ d ih =>
    intro j X hj hX
    show grid_Add.l1 ((m + (d + 1)) + 1) l n i g (g.length : Int) j R C X = _
    rw [grid_Add.l1, if_pos (by omega), if_pos (by omega), if_pos (by omega), if_pos (by omega), next j g.length (by omega) (by omega), Int.toNat_natCast, ih (j + 1) _ (by omega) (by rw [List.length_set]; exact hX)]
    rfl
def addAll (l : List S24) : Nat → Nat → List Int → List Int
  | 0, _, X => X
  | d + 1, i, X => addAll l d (i + 1) (addV (rd_T24 l (i : Int)).f2 (rd_T24 l (i : Int)).f2.length 0 X)
def SameG (R C : Int) (g : S24) : Prop := g.f0 = R ∧ g.f1 = C
instance (R C : Int) (g : S24) : Decidable (SameG R C g) := by unfold SameG; infer_instance
theorem same_len {R C : Int} {N : Nat} {g : S24} (h : SameG R C g) (hf : FitG g) (hN : (N : Int) = R * C) : g.f2.length = N := by
  have h1 := hf.2.2.2.2.1
  rw [h.1, h.2, ← hN] at h1
  exact Int.ofNat_inj.1 h1
theorem add_l0 (l : List S24) (hl : l.length ≤ 100) (R C : Int) (N : Nat) (hN : (N : Int) = R * C) (hN2 : N ≤ 1048576) (hfit : ∀ g ∈ l, FitG g) (m : Nat) : ∀ (d i : Nat) (X : List Int), i + d = l.length → X.length = N →
    grid_Add.l0 (m + (d * (N + 3) + 1)) l (l.length : Int) i R C X = if (l.drop i).all (fun g => decide (SameG R C g)) = true then some (R, C, addAll l d i X, 0) else some (0, 0, [], 30) := by
  intro d
  induction d with
  | zero =>
    intro i X hi hX
    rw [List.drop_of_length_le (by omega), Nat.zero_mul]
    show grid_Add.l0 (m + 1) l _ i R C X = _
    rw [grid_Add.l0, if_neg (by omega), if_pos (by rfl)]; rfl
  | succ d ih =>
    intro i X hi hX
    have hil : i < l.length := by omega
    have e : m + ((d + 1) * (N + 3) + 1) = (((m + (d * (N + 3) + 1)) + (N + 1)) + 1) + 1 := by rw [Nat.add_mul, Nat.one_mul]; generalize d * (N + 3) = D; omega
    have hm : rd_T24 l (i : Int) ∈ l := by rw [rdT_nat l i hil]; exact List.getElem_mem _
    rw [e, dropT_cons l i hil, List.all_cons]
    rw [grid_Add.l0, if_pos (by omega), if_pos (by omega), if_pos (by omega)]
    have hbad : ∀ a b c, grid_Add.j1 ((m + (d * (N + 3) + 1)) + (N + 1) + 1) l (l.length : Int) i true R C X a b c = some (0, 0, [], 30) := by intro a b c; rw [grid_Add.j1, if_pos rfl]
    by_cases h1 : (rd_T24 l (i : Int)).f0 = R
    · rw [if_pos h1]
      by_cases h2 : (rd_T24 l (i : Int)).f1 = C
      · have hs : SameG R C (rd_T24 l (i : Int)) := ⟨h1, h2⟩
        have hlen := same_len hs (hfit _ hm) hN
        rw [h2, bne_self_eq_false, grid_Add.j1, if_neg (by simp), decide_eq_true hs, Bool.true_and]
        have hh := add_l1 l (l.length : Int) i R C (rd_T24 l (i : Int)).f2 (by rw [hlen]; exact hN2) (m + (d * (N + 3) + 1)) N 0 X (by rw [hlen]; omega) (by rw [hlen]; exact hX)
        refine hh.trans ?_
        rw [next i l.length hil (by omega), ih (i + 1) _ (by omega) (by rw [addV_len]; exact hX)]
        have e3 : addAll l (d + 1) i X = addAll l d (i + 1) (addV (rd_T24 l (i : Int)).f2 N 0 X) := by rw [addAll, hlen]
        rw [e3]
      · have hs : ¬ SameG R C (rd_T24 l (i : Int)) := fun h => h2 h.2
        rw [bne_iff_ne.2 h2, hbad, decide_eq_false hs, Bool.false_and, if_neg (by simp)]
    · have hs : ¬ SameG R C (rd_T24 l (i : Int)) := fun h => h1 h.1
      rw [if_neg h1, hbad, decide_eq_false hs, Bool.false_and, if_neg (by simp)]
def AddS (l : List S24) (p : Nat) : Nat → Int
  | 0 => 0
  | m + 1 => AddS l p m + rd (rd_T24 l (m : Int)).f2 (p : Int)
theorem addAll_len (l : List S24) : ∀ (d i : Nat) (X : List Int), (addAll l d i X).length = X.length := by
  intro d
  induction d with
  | zero => intro i X; rfl
  | succ d ih => intro i X; rw [addAll, ih, addV_len]
theorem addAll_rd (l : List S24) (N p : Nat) (hp : p < N) (hl : ∀ i : Nat, i < l.length → (rd_T24 l (i : Int)).f2.length = N) : ∀ (d i : Nat) (X : List Int), i + d = l.length → X.length = N → rd X (p : Int) = wrap32 (AddS l p i) → rd (addAll l d i X) (p : Int) = wrap32 (AddS l p l.length) := by
  intro d
  induction d with
  | zero => intro i X hi hX h; rw [show l.length = i by omega]; exact h
  | succ d ih =>
    intro i X hi hX h
    have hlen := hl i (by omega)
    rw [addAll]
    refine ih (i + 1) _ (by omega) (by rw [addV_len]; exact hX) ?_
    rw [hlen, addV_rd _ N 0 X (by omega) p (by omega), if_pos (by omega), h, wrap32_add_left]
    rfl

theorem radd_l2 (l : List S24) (hl : l.length ≤ 100) (N p : Nat) (hp : p < N) (hN2 : N ≤ 1048576) (hlen : ∀ i : Nat, i < l.length → (rd_T24 l (i : Int)).f2.length = N) (hw : ∀ i : Nat, i < l.length → ∀ y ∈ (rd_T24 l (i : Int)).f2, -2147483648 ≤ y ∧ y ≤ 2147483647) (R C : Int) (o : List Int) (ho : o.length ≤ 1048576) (m : Nat) (hm : 200 < m) : ∀ (d i : Nat) (L : List Int), i + d = l.length → L.length = i → (∀ y ∈ L, -9223372036854775808 ≤ y ∧ y ≤ 9223372036854775807) → tot L = AddS l p i →
    pelotonref03_Add.l2 (m + (d + 1)) l p L i R C o = pelotonref03_Add.l1 m l ((p + 1 : Nat) : Int) R C (o ++ [wrap32 (AddS l p l.length)]) := by
  intro d
  induction d with
  | zero =>
    intro i L hi hL hb ht
    have e : l.length = i := by omega
    show pelotonref03_Add.l2 (m + 1) l p L i R C o = _
    rw [pelotonref03_Add.l2, if_neg (by omega), refwrap_eq L (by omega) hb m (by omega), Option.bind_some, if_pos (by omega), next p N hp (by omega), ht, e]
  | succ d ih =>
    intro i L hi hL hb ht
    have hll := hlen i (by omega)
    have hx := hw i (by omega) _ (rd_mem (rd_T24 l (i : Int)).f2 p (by rw [hll]; exact hp))
    show pelotonref03_Add.l2 ((m + (d + 1)) + 1) l p L i R C o = _
    rw [pelotonref03_Add.l2, if_pos (by omega), if_pos (by omega), if_pos (by omega), if_pos (by rw [hll]; omega), if_pos (by omega), next i l.length (by omega) (by omega), wrap64_wf _ (by omega) (by omega)]
    refine ih (i + 1) _ (by omega) (by rw [List.length_append, List.length_singleton, hL]) ?_ ?_
    · intro z hz; rw [List.mem_append] at hz
      rcases hz with hz | hz
      · exact hb z hz
      · rw [List.mem_singleton] at hz; subst hz; omega
    · rw [tot_append, ht]
      simp only [tot]
      rw [Int.add_zero]; rfl
theorem radd_l1 (l : List S24) (hl : l.length ≤ 100) (hl0 : 0 < l.length) (N : Nat) (hN2 : N ≤ 1048576) (hlen : ∀ i : Nat, i < l.length → (rd_T24 l (i : Int)).f2.length = N) (hw : ∀ i : Nat, i < l.length → ∀ y ∈ (rd_T24 l (i : Int)).f2, -2147483648 ≤ y ∧ y ≤ 2147483647) (R C : Int) (X : List Int) (hX : X.length = N) (hrd : ∀ p, p < N → rd X (p : Int) = wrap32 (AddS l p l.length)) (m : Nat) (hm : 200 < m) : ∀ (d p : Nat), p + d = N →
    pelotonref03_Add.l1 (m + (d * (l.length + 2) + 1)) l p R C (X.take p) = some (R, C, X, true) := by
  have h00 := hlen 0 hl0
  rw [show ((0 : Nat) : Int) = (0 : Int) from rfl] at h00
  intro d
  induction d with
  | zero =>
    intro p hp
    rw [Nat.zero_mul]
    show pelotonref03_Add.l1 (m + 1) l p R C _ = _
    rw [pelotonref03_Add.l1, if_pos (by omega), if_neg (by rw [h00]; omega), List.take_of_length_le (by omega)]
  | succ d ih =>
    intro p hp
    have e : m + ((d + 1) * (l.length + 2) + 1) = ((m + (d * (l.length + 2) + 1)) + (l.length + 1)) + 1 := by rw [Nat.add_mul, Nat.one_mul]; generalize d * (l.length + 2) = D; omega
    have h2 := radd_l2 l hl N p (by omega) hN2 hlen hw R C (X.take p) (by rw [List.length_take]; omega) (m + (d * (l.length + 2) + 1)) (by generalize d * (l.length + 2) = D; omega) l.length 0 [] (Nat.zero_add _) rfl (fun y hy => by cases hy) rfl
    rw [e]
    rw [pelotonref03_Add.l1, if_pos (by omega), if_pos (by rw [h00]; omega)]
    refine h2.trans ?_
    rw [← hrd p (by omega), take_snoc X p (by omega)]
    exact ih (p + 1) (by omega)
theorem radd_l0 (l : List S24) (hl : l.length ≤ 100) (hl0 : 0 < l.length) (m : Nat) : ∀ (d i : Nat), i + d = l.length →
    pelotonref03_Add.l0 (m + (d + 1)) l i = if (l.drop i).all (fun g => decide (FitG g ∧ SameG (rd_T24 l 0).f0 (rd_T24 l 0).f1 g)) = true then pelotonref03_Add.l1 m l 0 (rd_T24 l 0).f0 (rd_T24 l 0).f1 [] else some (0, 0, [], false) := by
  intro d
  induction d with
  | zero =>
    intro i hi
    rw [List.drop_of_length_le (by omega)]
    show pelotonref03_Add.l0 (m + 1) l i = _
    rw [pelotonref03_Add.l0, if_neg (by omega), if_neg (by omega), if_pos (by omega), if_pos (by rfl)]
  | succ d ih =>
    intro i hi
    have hil : i < l.length := by omega
    show pelotonref03_Add.l0 ((m + (d + 1)) + 1) l i = _
    rw [pelotonref03_Add.l0, if_pos (by omega), if_pos (by omega), fit03_eq, Option.bind_some, dropT_cons l i hil, List.all_cons]
    by_cases hf : RightM (rd_T24 l (i : Int)).f0 (rd_T24 l (i : Int)).f1 (rd_T24 l (i : Int)).f2.length
    · rw [decide_eq_true hf, if_pos rfl, if_pos (by omega)]
      by_cases h1 : (rd_T24 l (i : Int)).f0 = (rd_T24 l 0).f0
      · rw [if_pos h1]
        by_cases h2 : (rd_T24 l (i : Int)).f1 = (rd_T24 l 0).f1
        · rw [if_pos h2, decide_eq_true (show FitG (rd_T24 l (i : Int)) ∧ SameG (rd_T24 l 0).f0 (rd_T24 l 0).f1 (rd_T24 l (i : Int)) from ⟨hf, h1, h2⟩), Bool.true_and, next i l.length hil (by omega)]
          exact ih (i + 1) (by omega)
        · rw [if_neg h2, decide_eq_false (show ¬ (FitG (rd_T24 l (i : Int)) ∧ SameG (rd_T24 l 0).f0 (rd_T24 l 0).f1 (rd_T24 l (i : Int))) from fun h => h2 h.2.2), Bool.false_and, if_neg (by simp)]
      · rw [if_neg h1, decide_eq_false (show ¬ (FitG (rd_T24 l (i : Int)) ∧ SameG (rd_T24 l 0).f0 (rd_T24 l 0).f1 (rd_T24 l (i : Int))) from fun h => h1 h.2.1), Bool.false_and, if_neg (by simp)]
    · rw [decide_eq_false hf, if_neg (by simp), decide_eq_false (show ¬ (FitG (rd_T24 l (i : Int)) ∧ SameG (rd_T24 l 0).f0 (rd_T24 l 0).f1 (rd_T24 l (i : Int))) from fun h => hf h.1), Bool.false_and, if_neg (by simp)]

theorem add_bad (k : Nat) (hk : 200000 < k) (l : List S24) (hl : l.length ≤ 100) (hl0 : 0 < l.length) (hs : ∀ g ∈ l, g.f2.length ≤ 400) (h : ¬ ∀ g ∈ l, FitG g ∧ SameG (rd_T24 l 0).f0 (rd_T24 l 0).f1 g) : grid_Add.f k l = some (0, 0, [], 30) := by
  have hm0 : rd_T24 l 0 ∈ l := by have := rdT_nat l 0 hl0; rw [show ((0 : Nat) : Int) = (0 : Int) from rfl] at this; rw [this]; exact List.getElem_mem _
  unfold grid_Add.f
  rw [fit_all k l (by omega) (by omega), Option.bind_some]
  by_cases hf : (l.all fun g => decide (FitG g)) = true
  · have hfit : ∀ g ∈ l, FitG g := fun g hg => of_decide_eq_true (List.all_eq_true.1 hf g hg)
    have h0 := hfit _ hm0
    have h04 := hs _ hm0
    obtain ⟨m, rfl⟩ : ∃ m, k = m + (l.length * ((rd_T24 l 0).f2.length + 3) + 1) := ⟨k - (l.length * ((rd_T24 l 0).f2.length + 3) + 1), by
      have : l.length * ((rd_T24 l 0).f2.length + 3) ≤ 100 * 403 := Nat.mul_le_mul hl (by omega)
      generalize l.length * ((rd_T24 l 0).f2.length + 3) = D at *; omega⟩
    have ha := add_l0 l hl (rd_T24 l 0).f0 (rd_T24 l 0).f1 (rd_T24 l 0).f2.length h0.2.2.2.2.1 h0.2.2.2.2.2 hfit m l.length 0 (List.replicate (rd_T24 l 0).f2.length 0) (Nat.zero_add _) (List.length_replicate ..)
    rw [List.drop_zero] at ha
    have hn : ¬ (l.all fun g => decide (SameG (rd_T24 l 0).f0 (rd_T24 l 0).f1 g)) = true := fun hq => h (fun g hg => ⟨hfit g hg, of_decide_eq_true (List.all_eq_true.1 hq g hg)⟩)
    rw [if_neg hn] at ha
    rw [if_pos hf, if_neg (by omega), if_pos (by omega), if_pos (Int.natCast_nonneg _), if_pos (by omega), Int.toNat_natCast]
    exact ha
  · rw [if_neg hf]
theorem add_ok (k : Nat) (hk : 200000 < k) (l : List S24) (hl : l.length ≤ 100) (hl0 : 0 < l.length) (hs : ∀ g ∈ l, g.f2.length ≤ 400) (h : ∀ g ∈ l, FitG g ∧ SameG (rd_T24 l 0).f0 (rd_T24 l 0).f1 g) : grid_Add.f k l = some ((rd_T24 l 0).f0, (rd_T24 l 0).f1, addAll l l.length 0 (List.replicate (rd_T24 l 0).f2.length 0), 0) := by
  have hm0 : rd_T24 l 0 ∈ l := by have := rdT_nat l 0 hl0; rw [show ((0 : Nat) : Int) = (0 : Int) from rfl] at this; rw [this]; exact List.getElem_mem _
  have hfit : ∀ g ∈ l, FitG g := fun g hg => (h g hg).1
  have h0 := hfit _ hm0
  have h04 := hs _ hm0
  unfold grid_Add.f
  rw [fit_all k l (by omega) (by omega), Option.bind_some, if_pos (List.all_eq_true.2 fun g hg => decide_eq_true (hfit g hg))]
  obtain ⟨m, rfl⟩ : ∃ m, k = m + (l.length * ((rd_T24 l 0).f2.length + 3) + 1) := ⟨k - (l.length * ((rd_T24 l 0).f2.length + 3) + 1), by
    have : l.length * ((rd_T24 l 0).f2.length + 3) ≤ 100 * 403 := Nat.mul_le_mul hl (by omega)
    generalize l.length * ((rd_T24 l 0).f2.length + 3) = D at *; omega⟩
  have ha := add_l0 l hl (rd_T24 l 0).f0 (rd_T24 l 0).f1 (rd_T24 l 0).f2.length h0.2.2.2.2.1 h0.2.2.2.2.2 hfit m l.length 0 (List.replicate (rd_T24 l 0).f2.length 0) (Nat.zero_add _) (List.length_replicate ..)
  rw [List.drop_zero, if_pos (List.all_eq_true.2 fun g hg => decide_eq_true (h g hg).2)] at ha
  rw [if_neg (by omega), if_pos (by omega), if_pos (Int.natCast_nonneg _), if_pos (by omega), Int.toNat_natCast]
  exact ha
theorem all_len (l : List S24) (hl0 : 0 < l.length) (h : ∀ g ∈ l, FitG g ∧ SameG (rd_T24 l 0).f0 (rd_T24 l 0).f1 g) : ∀ i : Nat, i < l.length → (rd_T24 l (i : Int)).f2.length = (rd_T24 l 0).f2.length := by
  intro i hi
  have hm0 : rd_T24 l 0 ∈ l := by have := rdT_nat l 0 hl0; rw [show ((0 : Nat) : Int) = (0 : Int) from rfl] at this; rw [this]; exact List.getElem_mem _
  have hm : rd_T24 l (i : Int) ∈ l := by rw [rdT_nat l i hi]; exact List.getElem_mem _
  exact same_len (h _ hm).2 (h _ hm).1 (h _ hm0).1.2.2.2.2.1

theorem add_f (k k' : Nat) (hk : 200000 < k) (hk' : 200000 < k') (l : List S24) (hl : l.length ≤ 100) (hs : ∀ g ∈ l, g.f2.length ≤ 400) (hw : ∀ g ∈ l, ∀ y ∈ g.f2, -2147483648 ≤ y ∧ y ≤ 2147483647) :
    (∃ r : S24, r.f2.length ≤ 1048576 ∧ grid_Add.f k l = some (r.f0, r.f1, r.f2, 0) ∧ pelotonref03_Add.f k' l = some (r.f0, r.f1, r.f2, true)) ∨
    (grid_Add.f k l = some (0, 0, [], 30) ∧ pelotonref03_Add.f k' l = some (0, 0, [], false)) := by
  by_cases hl0 : 0 < l.length
  · have hm0 : rd_T24 l 0 ∈ l := by have := rdT_nat l 0 hl0; rw [show ((0 : Nat) : Int) = (0 : Int) from rfl] at this; rw [this]; exact List.getElem_mem _
    have h04 := hs _ hm0
    obtain ⟨m, rfl⟩ : ∃ m, k' = m + (l.length + 1) := ⟨k' - (l.length + 1), by omega⟩
    have hr := radd_l0 l hl hl0 m l.length 0 (Nat.zero_add _)
    rw [List.drop_zero, show ((0 : Nat) : Int) = (0 : Int) from rfl] at hr
    by_cases h : ∀ g ∈ l, FitG g ∧ SameG (rd_T24 l 0).f0 (rd_T24 l 0).f1 g
    · have hlen := all_len l hl0 h
      rw [if_pos (List.all_eq_true.2 fun g hg => decide_eq_true (h g hg))] at hr
      obtain ⟨m2, rfl⟩ : ∃ m2, m = m2 + ((rd_T24 l 0).f2.length * (l.length + 2) + 1) := ⟨m - ((rd_T24 l 0).f2.length * (l.length + 2) + 1), by
        have : (rd_T24 l 0).f2.length * (l.length + 2) ≤ 400 * 102 := Nat.mul_le_mul h04 (by omega)
        generalize (rd_T24 l 0).f2.length * (l.length + 2) = D at *; omega⟩
      have hXl : (addAll l l.length 0 (List.replicate (rd_T24 l 0).f2.length 0)).length = (rd_T24 l 0).f2.length := by rw [addAll_len, List.length_replicate]
      have h1 := radd_l1 l hl hl0 (rd_T24 l 0).f2.length (by omega) hlen (fun i hi => hw _ (by rw [rdT_nat l i hi]; exact List.getElem_mem _)) (rd_T24 l 0).f0 (rd_T24 l 0).f1 _ hXl
        (fun p hp => addAll_rd l (rd_T24 l 0).f2.length p hp hlen l.length 0 _ (Nat.zero_add _) (List.length_replicate ..) ((rd_rep _ _).trans wrap32_0.symm)) m2 (by
          have : (rd_T24 l 0).f2.length * (l.length + 2) ≤ 400 * 102 := Nat.mul_le_mul h04 (by omega)
          generalize (rd_T24 l 0).f2.length * (l.length + 2) = D at *; omega) (rd_T24 l 0).f2.length 0 (Nat.zero_add _)
      rw [List.take_zero, show ((0 : Nat) : Int) = (0 : Int) from rfl] at h1
      refine Or.inl ⟨⟨(rd_T24 l 0).f0, (rd_T24 l 0).f1, addAll l l.length 0 (List.replicate (rd_T24 l 0).f2.length 0)⟩, by rw [hXl]; omega, add_ok k hk l hl hl0 hs h, ?_⟩
      unfold pelotonref03_Add.f
      exact hr.trans h1
    · rw [if_neg (fun hq => h (fun g hg => of_decide_eq_true (List.all_eq_true.1 hq g hg)))] at hr
      exact Or.inr ⟨add_bad k hk l hl hl0 hs h, by unfold pelotonref03_Add.f; exact hr⟩
  · have e : l = [] := List.length_eq_zero_iff.1 (by omega)
    subst e
    obtain ⟨m, rfl⟩ : ∃ m, k' = m + 1 := ⟨k' - 1, by omega⟩
    refine Or.inl ⟨⟨0, 0, []⟩, by simp, ?_, ?_⟩
    · unfold grid_Add.f
      rw [fit_all k [] (by simp) (by simp only [List.length_nil]; omega), Option.bind_some]
      rfl
    · unfold pelotonref03_Add.f
      simp only [pelotonref03_Add.l0]
      rw [if_neg (by simp), if_pos (by simp)]

theorem lays_end (k : Nat) (hk : 50000000 < k) (l : List S24) (hl : l.length ≤ 12) (hs : ∀ g ∈ l, g.f2.length ≤ 400) (hw : ∀ g ∈ l, ∀ y ∈ g.f2, -2147483648 ≤ y ∧ y ≤ 2147483647) (k0 : Nat) (hk0 : 50000000 < k0) (a b c : Int × Int × List Int × Int) (ha : grid_Stack.f k0 l = some a) (hb : grid_Beside.f k0 l = some b) (hc : grid_Add.f k0 l = some c) :
    ((pelotonref03_Stack.f k l).bind fun bt284 => ((pelotonref03_Beside.f k l).bind fun bt291 => ((pelotonref03_Add.f k l).bind fun bt298 => ((pelotonlaw03_held.f k a.1 a.2.1 a.2.2.1 a.2.2.2 bt284.1 bt284.2.1 bt284.2.2.1 bt284.2.2.2).bind fun t305 => (if t305 = true then ((pelotonlaw03_held.f k b.1 b.2.1 b.2.2.1 b.2.2.2 bt291.1 bt291.2.1 bt291.2.2.1 bt291.2.2.2).bind fun t306 => (if t306 = true then ((pelotonlaw03_held.f k c.1 c.2.1 c.2.2.1 c.2.2.2 bt298.1 bt298.2.1 bt298.2.2.1 bt298.2.2.2).bind fun t307 => (some t307)) else (some false))) else (some false)))))) = some true := by
  have h1 : ∃ z, pelotonref03_Stack.f k l = some z ∧ pelotonlaw03_held.f k a.1 a.2.1 a.2.2.1 a.2.2.2 z.1 z.2.1 z.2.2.1 z.2.2.2 = some true := by
    rcases stack_f k0 k (by omega) (by omega) l (by omega) with ⟨r, hr, g1, g2⟩ | ⟨g1, g2⟩
    · rw [g1] at ha; obtain rfl := Option.some.inj ha
      exact ⟨_, g2, held_ok _ _ _ hr.2.2.2.2.2 k (by omega)⟩
    · rw [g1] at ha; obtain rfl := Option.some.inj ha
      exact ⟨_, g2, held_no _ _ _ k (by omega)⟩
  have h2 : ∃ z, pelotonref03_Beside.f k l = some z ∧ pelotonlaw03_held.f k b.1 b.2.1 b.2.2.1 b.2.2.2 z.1 z.2.1 z.2.2.1 z.2.2.2 = some true := by
    rcases beside_f k0 k (by omega) (by omega) l (by omega) with ⟨r, hr, g1, g2⟩ | ⟨g1, g2⟩
    · rw [g1] at hb; obtain rfl := Option.some.inj hb
      exact ⟨_, g2, held_ok _ _ _ hr k (by omega)⟩
    · rw [g1] at hb; obtain rfl := Option.some.inj hb
      exact ⟨_, g2, held_no _ _ _ k (by omega)⟩
  have h3 : ∃ z, pelotonref03_Add.f k l = some z ∧ pelotonlaw03_held.f k c.1 c.2.1 c.2.2.1 c.2.2.2 z.1 z.2.1 z.2.2.1 z.2.2.2 = some true := by
    rcases add_f k0 k (by omega) (by omega) l (by omega) hs hw with ⟨r, hr, g1, g2⟩ | ⟨g1, g2⟩
    · rw [g1] at hc; obtain rfl := Option.some.inj hc
      exact ⟨_, g2, held_ok _ _ _ hr k (by omega)⟩
    · rw [g1] at hc; obtain rfl := Option.some.inj hc
      exact ⟨_, g2, held_no _ _ _ k (by omega)⟩
  obtain ⟨x, x1, x2⟩ := h1
  obtain ⟨y, y1, y2⟩ := h2
  obtain ⟨z, z1, z2⟩ := h3
  rw [x1, Option.bind_some, y1, Option.bind_some, z1, Option.bind_some, x2, Option.bind_some, if_pos rfl, y2, Option.bind_some, if_pos rfl, z2]; rfl
theorem lays_l0 (l : List S24) (hl : l.length ≤ 12) (hs : ∀ g ∈ l, g.f2.length ≤ 400) (hw : ∀ g ∈ l, ∀ y ∈ g.f2, -2147483648 ≤ y ∧ y ≤ 2147483647) (k0 : Nat) (hk0 : 50000000 < k0) (a b c : Int × Int × List Int × Int) (ha : grid_Stack.f k0 l = some a) (hb : grid_Beside.f k0 l = some b) (hc : grid_Add.f k0 l = some c) (m : Nat) (hm : 50000000 < m) : ∀ (d i : Nat), i + d = l.length →
    pelotonlaw03_GridLays.l0 (m + (d + 1)) l l a.2.2.2 b.2.2.2 c.2.2.2 i a.1 a.2.1 a.2.2.1 b.1 b.2.1 b.2.2.1 c.1 c.2.1 c.2.2.1 = some true := by
  intro d
  induction d with
  | zero =>
    intro i hi
    show pelotonlaw03_GridLays.l0 (m + 1) l l _ _ _ i _ _ _ _ _ _ _ _ _ = _
    rw [pelotonlaw03_GridLays.l0, if_neg (by omega)]
    exact lays_end m hm l hl hs hw k0 hk0 a b c ha hb hc
  | succ d ih =>
    intro i hi
    have hm' : rd_T24 l (i : Int) ∈ l := by rw [rdT_nat l i (by omega)]; exact List.getElem_mem _
    have hs' := hs _ hm'
    show pelotonlaw03_GridLays.l0 ((m + (d + 1)) + 1) l l _ _ _ i _ _ _ _ _ _ _ _ _ = _
    rw [pelotonlaw03_GridLays.l0, if_pos (by omega), if_pos (by omega), if_pos (by omega), same3_self _ _ _ (by omega) _ (by omega), Option.bind_some, if_pos rfl, next i l.length (by omega) (by omega)]
    exact ih (i + 1) (by omega)
theorem GridLays : pelotonlaw03_GridLays.Pure := by
  intro l ⟨hll, hw⟩
  refine ⟨80000000, ?_⟩
  have hk : 70000000 < 80000000 := by decide
  generalize 80000000 = k at hk ⊢
  have hll2 : l.length ≤ 9223372036854775807 := hll
  obtain ⟨k, rfl⟩ : ∃ m, k = m + 1 := ⟨k - 1, by omega⟩
  unfold pelotonlaw03_GridLays.f pelotonlaw03_awake.f
  rw [Option.bind_some, if_pos rfl]
  by_cases hbig : l.length ≤ 12
  · obtain ⟨s, hs, hs2⟩ := small_eq l (by omega) (k + 1) (by omega)
    rw [hs, Option.bind_some]
    cases s with
    | false => rw [Bool.not_false, pelotonlaw03_GridLays.j0, if_pos rfl]; rfl
    | true =>
      obtain ⟨h4, h12⟩ := hs2 rfl
      have hw32 : ∀ g ∈ l, ∀ y ∈ g.f2, -2147483648 ≤ y ∧ y ≤ 2147483647 := fun g hg y hy => wf32 ((hw g hg).2.2.2 y hy)
      have hA : ∃ a, grid_Stack.f k l = some a := by
        rcases stack_f k k (by omega) (by omega) l (by omega) with ⟨r, _, g1, _⟩ | ⟨g1, _⟩ <;> exact ⟨_, g1⟩
      have hB : ∃ a, grid_Beside.f k l = some a := by
        rcases beside_f k k (by omega) (by omega) l (by omega) with ⟨r, _, g1, _⟩ | ⟨g1, _⟩ <;> exact ⟨_, g1⟩
      have hC : ∃ a, grid_Add.f k l = some a := by
        rcases add_f k k (by omega) (by omega) l (by omega) h4 hw32 with ⟨r, _, g1, _⟩ | ⟨g1, _⟩ <;> exact ⟨_, g1⟩
      obtain ⟨a, ha⟩ := hA
      obtain ⟨b, hb⟩ := hB
      obtain ⟨c, hc⟩ := hC
      rw [Bool.not_true, pelotonlaw03_GridLays.j0, if_neg (by simp), copied_eq l h12 h4 k (by omega), Option.bind_some, ha, Option.bind_some, hb, Option.bind_some, hc, Option.bind_some]
      obtain ⟨m, e⟩ : ∃ m, k = m + (l.length + 1) := ⟨k - (l.length + 1), by omega⟩
      have := lays_l0 l h12 h4 hw32 k (by omega) a b c ha hb hc m (by omega) l.length 0 (Nat.zero_add _)
      rw [← e] at this
      exact this
  · have hsm : ∃ d, l.length = d := ⟨_, rfl⟩
    obtain ⟨k, rfl⟩ : ∃ m, k = m + 14 := ⟨k - 14, by omega⟩
    have hst : ∀ (d j i : Nat), i + d = 12 → d + 2 < j → ∃ b, pelotonlaw03_small.l0 j l i = some b ∧ b = false := by
      intro d
      induction d with
      | zero =>
        intro j i hi hj
        obtain ⟨j, rfl⟩ : ∃ m, j = m + 1 := ⟨j - 1, by omega⟩
        refine ⟨false, ?_, rfl⟩
        simp only [pelotonlaw03_small.l0]
        rw [if_pos (by omega), if_pos (by omega)]
      | succ d ih =>
        intro j i hi hj
        obtain ⟨j, rfl⟩ : ∃ m, j = m + 1 := ⟨j - 1, by omega⟩
        simp only [pelotonlaw03_small.l0]
        rw [if_pos (by omega), if_neg (by omega), if_pos (by omega)]
        by_cases h2 : ((rd_T24 l (i : Int)).f2.length : Int) > 400
        · exact ⟨false, by rw [if_pos h2], rfl⟩
        · rw [if_neg h2, next i l.length (by omega) (by omega)]
          exact ih j (i + 1) (by omega) (by omega)
    obtain ⟨b, h1, h2⟩ := hst 12 (k + 14 + 1) 0 (by omega) (by omega)
    have h1' : pelotonlaw03_small.f (k + 14 + 1) l = some b := h1
    rw [h1', Option.bind_some, h2, Bool.not_false, pelotonlaw03_GridLays.j0, if_pos rfl]; rfl

end Go.Proofs.Ytggcgacndknlaaa.Pure
