/- Plain facts on whole numbers and lists of them: shifts to the nearest, sums that wrap. No program in sight. -/
import Derived.RowKit
import Derived.Laws.BitsLemmas
namespace Go.PelMath
open Go.RowKit

/-- a number shifted down by n, to the nearest one, of two the even one -/
def sh (x : Int) (n : Nat) : Int :=
  if 2 * (x % 2 ^ n) > 2 ^ n ∨ (2 * (x % 2 ^ n) = 2 ^ n ∧ (x / 2 ^ n) % 2 = 1) then x / 2 ^ n + 1 else x / 2 ^ n

/-- the same with the step's size as a plain number -/
def shd (x d : Int) : Int :=
  if 2 * (x % d) > d ∨ (2 * (x % d) = d ∧ (x / d) % 2 = 1) then x / d + 1 else x / d

theorem sh_shd (x : Int) (n : Nat) : sh x n = shd x (2 ^ n) := rfl

theorem pow_pos' (n : Nat) : (0 : Int) < 2 ^ n := Int.pow_pos (by decide)
theorem pow_le62 (n : Nat) (h : n ≤ 62) : (2 : Int) ^ n ≤ 4611686018427387904 := by
  have h2 : (2 : Nat) ^ n ≤ 2 ^ 62 := Nat.pow_le_pow_right (by decide) h
  have h3 : ((2 ^ n : Nat) : Int) ≤ ((2 ^ 62 : Nat) : Int) := Int.ofNat_le.2 h2
  simpa using h3
theorem pow_lt (n m : Nat) (h : n < m) : (2 : Int) ^ n < 2 ^ m := by
  have h2 : (2 : Nat) ^ n < 2 ^ m := Nat.pow_lt_pow_right (by decide) h
  have h3 : ((2 ^ n : Nat) : Int) < ((2 ^ m : Nat) : Int) := Int.ofNat_lt.2 h2
  simpa using h3
theorem pow_even (n : Nat) (h : 0 < n) : ∃ h : Int, (2 : Int) ^ n = 2 * h ∧ 0 < h := by
  obtain ⟨m, rfl⟩ : ∃ m, n = m + 1 := ⟨n - 1, by omega⟩
  exact ⟨2 ^ m, by rw [Int.pow_succ]; omega, pow_pos' m⟩

/-- a number's parts by a step -/
theorem parts (x d : Int) (hd : 0 < d) : ∃ q r : Int, x = d * q + r ∧ 0 ≤ r ∧ r < d ∧ x / d = q ∧ x % d = r :=
  ⟨x / d, x % d, (Int.mul_ediv_add_emod x d).symm, Int.emod_nonneg _ (by omega), Int.emod_lt_of_pos _ hd, rfl, rfl⟩

theorem ediv_of (x d q r : Int) (h : x = d * q + r) (h0 : 0 ≤ r) (h1 : r < d) : x / d = q ∧ x % d = r := by
  have hd : 0 < d := by omega
  constructor
  · rw [h, Int.add_comm, Int.add_mul_ediv_left _ _ (by omega), Int.ediv_eq_zero_of_lt h0 h1]; omega
  · rw [h, Int.add_comm, Int.add_mul_emod_self_left, Int.emod_eq_of_lt h0 h1]

/-- Go's division and rest, out of Lean's -/
theorem tdiv_parts (x d q r : Int) (h : x = d * q + r) (h0 : 0 ≤ r) (h1 : r < d) :
    (0 ≤ x ∨ r = 0 → Int.tdiv x d = q ∧ Int.tmod x d = r) ∧ (x < 0 → r ≠ 0 → Int.tdiv x d = q + 1 ∧ Int.tmod x d = r - d) := by
  have hd : 0 < d := by omega
  have ⟨e1, e2⟩ := ediv_of x d q r h h0 h1
  have hdv : r = 0 → d ∣ x := fun hr => ⟨q, by rw [h, hr]; omega⟩
  constructor
  · intro hx
    rcases hx with hx | hx
    · exact ⟨by rw [Int.tdiv_eq_ediv_of_nonneg hx, e1], by rw [Int.tmod_eq_emod_of_nonneg hx, e2]⟩
    · constructor
      · rw [Int.tdiv_eq_ediv_of_dvd (hdv hx), e1]
      · rw [Int.tmod_eq_emod, if_pos (Or.inr (hdv hx)), e2]; omega
  · intro hx hr
    have hnd : ¬ (0 ≤ x ∨ d ∣ x) := by
      intro hc
      rcases hc with hc | hc
      · omega
      · exact hr (by rw [← e2]; exact Int.emod_eq_zero_of_dvd hc)
    constructor
    · rw [Int.tdiv_eq_ediv, if_neg hnd, e1, Int.sign_eq_one_of_pos hd]
    · rw [Int.tmod_eq_emod, if_neg hnd, e2]; omega

theorem sh_zero (x : Int) : sh x 0 = x := by
  unfold sh; simp

theorem shd_bounds (x d : Int) (hd : 0 < d) : ∃ r, x = d * shd x d + r ∧ 2 * r ≤ d ∧ -d ≤ 2 * r := by
  obtain ⟨q, r, hx, h0, h1, e1, e2⟩ := parts x d hd
  unfold shd; rw [e1, e2]
  split
  · refine ⟨r - d, ?_, by omega, by omega⟩
    rw [hx, Int.mul_add]; omega
  · exact ⟨r, hx, by omega, by omega⟩

theorem shd_mono (x y d : Int) (hd : 0 < d) (h : x ≤ y) : shd x d ≤ shd y d := by
  obtain ⟨q, r, hx, h0, h1, e1, e2⟩ := parts x d hd
  obtain ⟨p, s, hy, g0, g1, f1, f2⟩ := parts y d hd
  have hqp : q ≤ p := by rw [← e1, ← f1]; exact Int.ediv_le_ediv hd h
  unfold shd; rw [e1, e2, f1, f2]
  by_cases hq : q = p
  · subst hq
    split <;> split <;> omega
  · split <;> split <;> omega

theorem shd_mul (x d : Int) (hd : 0 < d) : shd (x * d) d = x := by
  have ⟨e1, e2⟩ := ediv_of (x * d) d x 0 (by rw [Int.mul_comm]; omega) (by omega) hd
  unfold shd; rw [e1, e2]; rw [if_neg (by omega)]

theorem shd_neg (x d : Int) (hd : 0 < d) : shd (-x) d = - shd x d := by
  obtain ⟨q, r, hx, h0, h1, e1, e2⟩ := parts x d hd
  by_cases hr : r = 0
  · have ⟨f1, f2⟩ := ediv_of (-x) d (-q) 0 (by rw [hx, Int.mul_neg]; omega) (by omega) hd
    unfold shd; rw [e1, e2, f1, f2, hr]; rw [if_neg (by omega), if_neg (by omega)]
  · have ⟨f1, f2⟩ := ediv_of (-x) d (-q - 1) (d - r) (by rw [hx, Int.mul_sub, Int.mul_neg]; omega) (by omega) (by omega)
    unfold shd; rw [e1, e2, f1, f2]
    split <;> split <;> omega

/-- all numbers, summed -/
def tot : List Int → Int
  | [] => 0
  | x :: l => x + tot l

theorem tot_append (a b : List Int) : tot (a ++ b) = tot a + tot b := by
  induction a with
  | nil => simp [tot]
  | cons x l ih => simp only [List.cons_append, tot, ih]; omega

theorem wrap32_wrap64 (x : Int) : wrap32 (wrap64 x) = wrap32 x := by unfold wrap32 wrap64; omega
theorem wrap32_add_left (x y : Int) : wrap32 (wrap32 x + y) = wrap32 (x + y) := by unfold wrap32; omega
theorem wrap32_add_right (x y : Int) : wrap32 (x + wrap32 y) = wrap32 (x + y) := by unfold wrap32; omega
theorem wrap32_wrap32 (x : Int) : wrap32 (wrap32 x) = wrap32 x := by unfold wrap32; omega
theorem wrap32_wf (x : Int) (h0 : -2147483648 ≤ x) (h1 : x ≤ 2147483647) : wrap32 x = x := by unfold wrap32; omega
theorem wrap64_wf (x : Int) (h0 : -9223372036854775808 ≤ x) (h1 : x ≤ 9223372036854775807) : wrap64 x = x := by unfold wrap64; omega
theorem w_add (a b : Nat) (h : a + b ≤ 9223372036854775807) : wrap64 ((a : Int) + (b : Int)) = ((a + b : Nat) : Int) := by unfold wrap64; omega
theorem w_mul (a b : Nat) (h : a * b ≤ 9223372036854775807) : wrap64 ((a : Int) * (b : Int)) = ((a * b : Nat) : Int) := by
  rw [← Int.natCast_mul]
  generalize a * b = n at *
  unfold wrap64; omega
theorem w_nat (a : Nat) (h : a ≤ 9223372036854775807) : wrap64 (a : Int) = (a : Int) := by unfold wrap64; omega
theorem w_sub (a b : Nat) (h : b ≤ a) (h2 : a ≤ 9223372036854775807) : wrap64 ((a : Int) - (b : Int)) = ((a - b : Nat) : Int) := by unfold wrap64; omega
theorem w_div (a b : Nat) (h : a ≤ 9223372036854775807) : wrap64 (Int.tdiv (a : Int) (b : Int)) = ((a / b : Nat) : Int) := by
  rw [Int.tdiv_eq_ediv_of_nonneg (by omega), ← Int.natCast_ediv]
  have := Nat.div_le_self a b
  exact w_nat _ (by omega)
theorem t_div (a b : Nat) : Int.tdiv (a : Int) (b : Int) = ((a / b : Nat) : Int) := by
  rw [Int.tdiv_eq_ediv_of_nonneg (by omega), ← Int.natCast_ediv]
theorem t_mod (a b : Nat) : Int.tmod (a : Int) (b : Int) = ((a % b : Nat) : Int) := by
  rw [Int.tmod_eq_emod_of_nonneg (by omega), ← Int.natCast_emod]
end Go.PelMath
