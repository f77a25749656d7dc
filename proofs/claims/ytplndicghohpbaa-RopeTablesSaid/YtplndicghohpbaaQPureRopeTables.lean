/- RopeTables: the law's plain part: what its functions compute answers true, for all arguments of its types. No condition beside the given bounds. -/
import Derived.Test.YtplndicghohpbaaQRopeTablesx4
import Derived.Test.YtplndicghohpbaaMath
namespace Go.Proofs.Ytplndicghohpbaa.Pure
open Go.RowKit Go.Proofs.Ytplndicghohpbaa.QRopeTables Go.Proofs.YtplndicghohpbaaW.PrintWords Go.Proofs.YtplndicghohpbaaW.PrintLast Go.Proofs.YtplndicghohpbaaW.PrintMore Go.PelMath
set_option linter.unusedVariables false
set_option linter.unusedSimpArgs false
def nn (n : Int) : Nat := (mn (mx n 0) 62).toNat
theorem nn_le (n : Int) : nn n ≤ 62 := by unfold nn mn mx; (repeat' split) <;> omega
theorem nn_of (n : Int) (h0 : 0 ≤ n) (h1 : n ≤ 62) : nn n = n.toNat := by unfold nn mn mx; (repeat' split) <;> omega

theorem and_mask (x : Int) (n : Nat) (h : n ≤ 62) : Go.bits .and .u64 (IntKind.u64.wrap x) (2 ^ n - 1) = x % 2 ^ n := by
  have hw : ∀ y : Int, IntKind.u64.wrap y = y % 18446744073709551616 := by intro y; simp [IntKind.wrap, IntKind.bits, IntKind.signed]
  rw [bits_mask .u64 64 (by decide) (by intro y h0 h1; rw [hw]; omega) n (by omega) _ (by rw [hw]; omega) (by rw [hw]; omega), hw]
  have hd : ((2 : Int) ^ n) ∣ 18446744073709551616 := ⟨2 ^ (64 - n), by rw [← Int.pow_add]; rw [show n + (64 - n) = 64 by omega]; rfl⟩
  exact Int.emod_emod_of_dvd x hd
theorem and_one (x : Int) (h0 : -9223372036854775808 ≤ x) (h1 : x ≤ 9223372036854775807) : Go.bits .and .i64 x 1 = x % 2 := by
  have e : bits .and .i64 x 1 = IntKind.i64.wrap (((BitVec.ofInt 64 x &&& BitVec.ofInt 64 1).toNat : Nat) : Int) := rfl
  rw [e, BitVec.toNat_and, BitVec.toNat_ofInt, BitVec.toNat_ofInt]
  have e1 : (((1 : Int) % ((2 ^ 64 : Nat) : Int)).toNat) = 1 := by decide
  rw [e1, Nat.and_one_is_mod, IntKind.wrap_i64]
  omega
theorem shift_eq (x n : Int) (h0 : -9223372036854775808 ≤ x) (h1 : x ≤ 9223372036854775807) : round_Shift.f x n = some (sh x (nn n)) := by
  have hn := nn_le n
  have hp := pow_pos' (nn n); have hq := pow_le62 (nn n) hn
  have hw : IntKind.u64.wrap (2 ^ nn n) = 2 ^ nn n := by
    have : ∀ y : Int, IntKind.u64.wrap y = y % 18446744073709551616 := by intro y; simp [IntKind.wrap, IntKind.bits, IntKind.signed]
    rw [this]; omega
  have hw1 : IntKind.u64.wrap (2 ^ nn n - 1) = 2 ^ nn n - 1 := by
    have : ∀ y : Int, IntKind.u64.wrap y = y % 18446744073709551616 := by intro y; simp [IntKind.wrap, IntKind.bits, IntKind.signed]
    rw [this]; omega
  unfold round_Shift.f
  simp only [show (mn (mx n 0) 62).toNat = nn n from rfl]
  have hm : mn (mx n 0) 62 = (nn n : Int) := by unfold nn mn mx; (repeat' split) <;> omega
  rw [hw]; try rw [hw1]
  rw [and_mask x _ hn, hm]
  have hpart := parts x (2 ^ nn n) hp
  obtain ⟨q, r, hx, g0, g1, e1, e2⟩ := hpart
  have hqb : -9223372036854775808 ≤ q ∧ q ≤ 9223372036854775807 ∧ (2 ≤ (2 : Int) ^ nn n → q < 9223372036854775807) := by
    have hlo : -9223372036854775808 ≤ x / 2 ^ nn n := by
      apply Int.le_ediv_of_mul_le hp
      have : (-9223372036854775808 : Int) * 2 ^ nn n ≤ -9223372036854775808 * 1 := Int.mul_le_mul_of_nonpos_left (by omega) (by omega)
      omega
    refine ⟨by omega, ?_, ?_⟩
    · rw [← e1]; apply Int.ediv_le_of_le_mul hp; 
      have : (9223372036854775807 : Int) * 1 ≤ 9223372036854775807 * 2 ^ nn n := Int.mul_le_mul_of_nonneg_left (by omega) (by omega)
      omega
    · intro h2
      rw [← e1]; apply Int.ediv_lt_of_lt_mul hp
      have : (9223372036854775807 : Int) * 2 ≤ 9223372036854775807 * 2 ^ nn n := Int.mul_le_mul_of_nonneg_left (by omega) (by omega)
      omega
  unfold sh; rw [e1, e2, and_one q (by omega) (by omega)]
  by_cases hz : nn n = 0
  · rw [hz] at g1 ⊢
    simp only [Int.pow_zero] at g1 ⊢
    have : r = 0 := by omega
    subst this; simp
  · obtain ⟨hh, he, hh0⟩ := pow_even (nn n) (by omega)
    rw [he] at g1 hqb ⊢
    have h2 := hqb.2.2 (by omega)
    have hwr : wrap64 (q + 1) = q + 1 := wrap64_wf _ (by omega) (by omega)
    rw [hwr, show (2 * hh) / 2 = hh by omega]
    have hnz : ((nn n : Nat) : Int) > 0 := by omega
    by_cases c1 : r > hh
    · rw [if_pos c1, if_pos (by omega)]
    · rw [if_neg c1]
      by_cases c2 : r = hh
      · rw [if_pos c2, if_pos hnz]
        by_cases c3 : q % 2 = 1
        · rw [if_pos c3, if_pos (by omega)]
        · rw [if_neg c3, if_neg (by omega)]
      · rw [if_neg c2, if_neg (by omega)]
theorem sh_range (x : Int) (n : Nat) (h0 : -9223372036854775808 ≤ x) (h1 : x ≤ 9223372036854775807) : -9223372036854775808 ≤ sh x n ∧ sh x n ≤ 9223372036854775807 := by
  by_cases hz : n = 0
  · rw [hz, sh_zero]; omega
  · have hp := pow_pos' n
    obtain ⟨hh, he, hh0⟩ := pow_even n (by omega)
    rw [sh_shd]
    have hm1 := shd_mono x 9223372036854775807 (2 ^ n) hp h1
    have hm2 := shd_mono (-9223372036854775808) x (2 ^ n) hp h0
    have e1 := shd_mono 9223372036854775807 (9223372036854775807 * 2 ^ n) (2 ^ n) hp (by
      have : (9223372036854775807 : Int) * 1 ≤ 9223372036854775807 * 2 ^ n := Int.mul_le_mul_of_nonneg_left (by omega) (by omega)
      omega)
    have e2 := shd_mono (-9223372036854775808 * 2 ^ n) (-9223372036854775808) (2 ^ n) hp (by
      have : (-9223372036854775808 : Int) * 2 ^ n ≤ -9223372036854775808 * 1 := Int.mul_le_mul_of_nonpos_left (by omega) (by omega)
      omega)
    rw [shd_mul _ _ hp] at e1 e2
    omega

theorem refshift_loop (x : Int) (h0 : -9223372036854775808 ≤ x) (h1 : x ≤ 9223372036854775807) (n : Nat) (hn : n ≤ 62) : ∀ (d k i : Nat), i + d = n → d < k →
    pelotonref01_Shift.l0 k x n (2 ^ i) i = if n = 0 then pelotonref01_Shift.l0 k x n (2 ^ i) i else some (sh x n) := by
  intro d
  induction d with
  | zero =>
    intro k i hi hk
    by_cases hz : n = 0
    · rw [if_pos hz]
    rw [if_neg hz]
    obtain ⟨k, rfl⟩ : ∃ m, k = m + 1 := ⟨k - 1, by omega⟩
    obtain rfl : i = n := by omega
    have hp := pow_pos' i; have hq := pow_le62 i hn
    obtain ⟨q, r, hx, g0, g1, e1, e2⟩ := parts x (2 ^ i) hp
    obtain ⟨hh, he, hh0⟩ := pow_even i (by omega)
    have hqb : -9223372036854775808 ≤ 2 * q ∧ 2 * q ≤ 9223372036854775807 := by
      rw [he] at hx e1
      have hlo : -4611686018427387904 ≤ x / (2 * hh) := by
        apply Int.le_ediv_of_mul_le (by omega)
        have : (-4611686018427387904 : Int) * (2 * hh) ≤ -4611686018427387904 * 2 := Int.mul_le_mul_of_nonpos_left (by omega) (by omega)
        omega
      have hhi : x / (2 * hh) < 4611686018427387904 := by
        apply Int.ediv_lt_of_lt_mul (by omega)
        have : (4611686018427387904 : Int) * 2 ≤ 4611686018427387904 * (2 * hh) := Int.mul_le_mul_of_nonneg_left (by omega) (by omega)
        omega
      omega
    have ht := tdiv_parts x (2 ^ i) q r hx g0 g1
    simp only [pelotonref01_Shift.l0]
    rw [if_neg (by omega), if_neg (by omega)]
    unfold sh; rw [e1, e2]
    rw [he] at ht g1 ⊢
    by_cases hs : 0 ≤ x ∨ r = 0
    · obtain ⟨t1, t2⟩ := ht.1 hs
      rw [t1, t2]
      have w1 : wrap64 q = q := wrap64_wf _ (by omega) (by omega)
      have w2 : wrap64 (q + 1) = q + 1 := wrap64_wf _ (by omega) (by omega)
      have w3 : wrap64 (2 * hh - r) = 2 * hh - r := wrap64_wf _ (by omega) (by omega)
      rw [w1, w2, w3, if_neg (by omega)]
      have hm : Int.tmod q 2 = 0 ↔ q % 2 = 0 := by rw [Int.tmod_eq_emod]; split <;> omega
      by_cases c1 : r > 2 * hh - r
      · rw [if_pos c1, if_pos (by omega)]
      · rw [if_neg c1]
        by_cases c2 : r = 2 * hh - r
        · rw [if_pos c2]
          by_cases c3 : q % 2 = 0
          · rw [if_pos (hm.2 c3), if_neg (by omega)]
          · rw [if_neg (fun h => c3 (hm.1 h)), if_pos (by omega)]
        · rw [if_neg c2, if_neg (by omega)]
    · obtain ⟨t1, t2⟩ := ht.2 (by omega) (by omega)
      rw [t1, t2]
      have w1 : wrap64 (q + 1) = q + 1 := wrap64_wf _ (by omega) (by omega)
      have w4 : wrap64 (r - 2 * hh + 2 * hh) = r := by rw [show r - 2 * hh + 2 * hh = r by omega]; exact wrap64_wf _ (by omega) (by omega)
      have w5 : wrap64 (q + 1 - 1) = q := by rw [show q + 1 - 1 = q by omega]; exact wrap64_wf _ (by omega) (by omega)
      have w3 : wrap64 (2 * hh - r) = 2 * hh - r := wrap64_wf _ (by omega) (by omega)
      rw [w4, w1, w5, w1, w3, if_pos (by omega)]
      have hm : Int.tmod q 2 = 0 ↔ q % 2 = 0 := by rw [Int.tmod_eq_emod]; split <;> omega
      by_cases c1 : r > 2 * hh - r
      · rw [if_pos c1, if_pos (by omega)]
      · rw [if_neg c1]
        by_cases c2 : r = 2 * hh - r
        · rw [if_pos c2]
          by_cases c3 : q % 2 = 0
          · rw [if_pos (hm.2 c3), if_neg (by omega)]
          · rw [if_neg (fun h => c3 (hm.1 h)), if_pos (by omega)]
        · rw [if_neg c2, if_neg (by omega)]
  | succ d ih =>
    intro k i hi hk
    by_cases hz : n = 0
    · rw [if_pos hz]
    rw [if_neg hz]
    obtain ⟨k, rfl⟩ : ∃ m, k = m + 1 := ⟨k - 1, by omega⟩
    have hp := pow_pos' i; have hq := pow_le62 (i + 1) (by omega)
    simp only [pelotonref01_Shift.l0]
    rw [if_pos (by omega), show wrap64 (2 ^ i * 2) = 2 ^ (i + 1) by rw [Int.pow_succ] at hq ⊢; exact wrap64_wf _ (by omega) (by omega),
      show wrap64 ((i : Int) + 1) = ((i + 1 : Nat) : Int) by rw [wrap64_wf _ (by omega) (by omega)]; omega, ih k (i + 1) (by omega) (by omega), if_neg hz]
theorem refshift_eq (k : Nat) (hk : 70 ≤ k) (x n : Int) (h0 : -9223372036854775808 ≤ x) (h1 : x ≤ 9223372036854775807) : pelotonref01_Shift.f k x n = some (sh x (nn n)) := by
  obtain ⟨k, rfl⟩ : ∃ m, k = m + 1 := ⟨k - 1, by omega⟩
  have key : ∀ m : Int, m ≤ 62 → pelotonref01_Shift.j0 (k + 1) x m = some (sh x (nn m)) := by
    intro m hm
    simp only [pelotonref01_Shift.j0]
    by_cases hz : m ≤ 0
    · rw [if_pos hz, show nn m = 0 by unfold nn mn mx; (repeat' split) <;> omega, sh_zero]
    · rw [if_neg hz]
      have := refshift_loop x h0 h1 m.toNat (by omega) m.toNat k 0 (by omega) (by omega)
      rw [if_neg (by omega), show ((m.toNat : Nat) : Int) = m by omega] at this
      rw [nn_of m (by omega) hm]
      exact this
  unfold pelotonref01_Shift.f
  by_cases hc : n > 62
  · rw [if_pos hc, key 62 (by omega), show nn 62 = nn n by unfold nn mn mx; (repeat' split) <;> omega]
  · rw [if_neg hc, key n (by omega)]

theorem and_i64 (x : Int) (n : Nat) (hn : n ≤ 62) (m : Int) (hm : m = 2 ^ n - 1) : Go.bits .and .i64 x m = x % 2 ^ n := by
  subst hm
  have e : bits .and .i64 x (2 ^ n - 1) = IntKind.i64.wrap (((BitVec.ofInt 64 x &&& BitVec.ofInt 64 (2 ^ n - 1)).toNat : Nat) : Int) := rfl
  have hp := pow_pos' n
  have hq := pow_le62 n hn
  have e1 : (((2 : Int) ^ n - 1) % ((2 ^ 64 : Nat) : Int)).toNat = 2 ^ n - 1 := by
    have h2 : ((2 ^ n : Nat) : Int) = (2 : Int) ^ n := by simp
    have h3 : 0 < 2 ^ n := Nat.pow_pos (by decide)
    omega
  rw [e, BitVec.toNat_and, BitVec.toNat_ofInt, BitVec.toNat_ofInt, e1, Nat.and_two_pow_sub_one_eq_mod, Int.natCast_emod]
  have hd : ((2 : Int) ^ n) ∣ 18446744073709551616 := ⟨2 ^ (64 - n), by rw [← Int.pow_add]; rw [show n + (64 - n) = 64 by omega]; rfl⟩
  have h4 : (((x % ((2 ^ 64 : Nat) : Int)).toNat : Nat) : Int) = x % 18446744073709551616 := by omega
  have h5 : ((2 ^ n : Nat) : Int) = (2 : Int) ^ n := by simp
  rw [h4, h5, Int.emod_emod_of_dvd x hd, IntKind.wrap_i64]
  have h6 := Int.emod_nonneg x (show (2 : Int) ^ n ≠ 0 by omega)
  have h7 := Int.emod_lt_of_pos x hp
  omega
theorem and_65535 (x : Int) : Go.bits .and .i64 x 65535 = x % 65536 := by have := and_i64 x 16 (by omega) 65535 (by decide); simpa using this
theorem and_511 (x : Int) : Go.bits .and .i64 x 511 = x % 512 := by have := and_i64 x 9 (by omega) 511 (by decide); simpa using this
theorem and_1 (x : Int) : Go.bits .and .i64 x 1 = x % 2 := by have := and_i64 x 1 (by omega) 1 (by decide); simpa using this

def stp (i : Int) : Int := rd rope_step.tab i
theorem stp_all : ∀ i : Nat, i < 33 → 0 ≤ stp (i : Int) ∧ stp (i : Int) ≤ 16384 := by decide
theorem stp_b (i : Int) (h0 : 0 ≤ i) (h1 : i ≤ 32) : 0 ≤ stp i ∧ stp i ≤ 16384 := by
  have := stp_all i.toNat (by omega)
  rwa [show ((i.toNat : Nat) : Int) = i by omega] at this
def upI (i : Int) : Int := if i < 32 then i + 1 else 32
def sv (g : Int) : Int := stp (g / 512) + sh ((stp (upI (g / 512)) - stp (g / 512)) * (g % 512)) 9
theorem prod_b (a b c : Int) (h0 : 0 ≤ a) (h1 : a ≤ 16384) (h2 : 0 ≤ b) (h3 : b ≤ 16384) (h4 : 0 ≤ c) (h5 : c ≤ 511) : -8372224 ≤ (a - b) * c ∧ (a - b) * c ≤ 8372224 := by
  rw [Int.sub_mul]
  have p1 := Int.mul_nonneg h0 h4
  have p2 := Int.mul_nonneg h2 h4
  have p3 : a * c ≤ 16384 * 511 := Int.mul_le_mul h1 h5 h4 (by omega)
  have p4 : b * c ≤ 16384 * 511 := Int.mul_le_mul h3 h5 h4 (by omega)
  omega
theorem sv_b (g : Int) (h0 : 0 ≤ g) (h1 : g ≤ 16384) : -10000000 ≤ sv g ∧ sv g ≤ 10000000 := by
  have b1 := stp_b (g / 512) (by omega) (by omega)
  have b2 := stp_b (upI (g / 512)) (by unfold upI; split <;> omega) (by unfold upI; split <;> omega)
  have b3 := prod_b _ _ (g % 512) b2.1 b2.2 b1.1 b1.2 (by omega) (by omega)
  unfold sv
  rw [sh_shd]
  obtain ⟨r, hr, r1, r2⟩ := shd_bounds ((stp (upI (g / 512)) - stp (g / 512)) * (g % 512)) (2 ^ 9) (by decide)
  generalize (stp (upI (g / 512)) - stp (g / 512)) * (g % 512) = p at *
  generalize shd p (2 ^ 9) = q at *
  omega
def foldG (n : Int) : Int := if (n / 16384) % 2 = 1 then 16384 - n % 16384 else n % 16384
theorem foldG_b (n : Int) : 0 ≤ foldG n ∧ foldG n ≤ 16384 := by unfold foldG; split <;> omega
def sinN (n : Int) : Int := if n / 16384 ≥ 2 then - sv (foldG n) else sv (foldG n)
def sinI (a : Int) : Int := sinN (a % 65536)
def cosI (a : Int) : Int := sinI (a + 16384)
theorem sinN_b (n : Int) : -10000000 ≤ sinN n ∧ sinN n ≤ 10000000 := by
  have := sv_b (foldG n) (foldG_b n).1 (foldG_b n).2
  unfold sinN; split <;> omega
theorem sinI_b (a : Int) : -10000000 ≤ sinI a ∧ sinI a ≤ 10000000 := sinN_b _
theorem cosI_b (a : Int) : -10000000 ≤ cosI a ∧ cosI a ≤ 10000000 := sinN_b _
theorem sinI_mod (a : Int) : sinI (a % 65536) = sinI a := by unfold sinI; rw [show a % 65536 % 65536 = a % 65536 by omega]
theorem cosI_mod (a : Int) : sinI (a % 65536 + 16384) = cosI a := by unfold cosI sinI; rw [show (a % 65536 + 16384) % 65536 = (a + 16384) % 65536 by omega]

theorem step_eq (i : Int) (h0 : 0 ≤ i) : rope_step.f i = some (stp (mn i 32)) := by unfold rope_step.f stp; rw [if_pos h0]
theorem sin_j0 (k : Nat) (q g : Int) (h0 : 0 ≤ g) (h1 : g ≤ 16384) : rope_Sin.j0 (k + 1) q g = some (if q ≥ 2 then - sv g else sv g) := by
  have b1 := stp_b (g / 512) (by omega) (by omega)
  have b2 := stp_b (upI (g / 512)) (by unfold upI; split <;> omega) (by unfold upI; split <;> omega)
  have b3 := prod_b _ _ (g % 512) b2.1 b2.2 b1.1 b1.2 (by omega) (by omega)
  have b4 := sv_b g h0 h1
  have w1 : wrap64 (g / 512 + 1) = g / 512 + 1 := wrap64_wf _ (by omega) (by omega)
  have m1 : mn (g / 512) 32 = g / 512 := by unfold mn; split <;> omega
  have m2 : mn (g / 512 + 1) 32 = upI (g / 512) := by unfold mn upI; (repeat' split) <;> omega
  have w2 : wrap64 (stp (upI (g / 512)) - stp (g / 512)) = stp (upI (g / 512)) - stp (g / 512) := wrap64_wf _ (by omega) (by omega)
  simp only [rope_Sin.j0]
  rw [step_eq _ (by omega), w1, step_eq _ (by omega), m1, m2]
  simp only [Option.bind_some]
  rw [w2, and_511, wrap64_wf _ (by omega) (by omega), shift_eq _ _ (by omega) (by omega)]
  simp only [Option.bind_some]
  rw [show nn 9 = 9 from nn_of 9 (by omega) (by omega)]
  have e : stp (g / 512) + sh ((stp (upI (g / 512)) - stp (g / 512)) * (g % 512)) 9 = sv g := rfl
  rw [e]
  generalize sv g = v at *
  clear e b1 b2 b3 w1 m1 m2 w2
  split
  · rw [wrap64_wf v (by omega) (by omega), wrap64_wf (-v) (by omega) (by omega), wrap32_wf _ (by omega) (by omega)]
  · rw [wrap64_wf v (by omega) (by omega), wrap32_wf _ (by omega) (by omega)]
theorem sin_eq (k : Nat) (hk : 1 ≤ k) (a : Int) : rope_Sin.f k a = some (sinI a) := by
  obtain ⟨k, rfl⟩ : ∃ m, k = m + 1 := ⟨k - 1, by omega⟩
  unfold rope_Sin.f
  rw [and_65535]
  have hn : 0 ≤ a % 65536 ∧ a % 65536 < 65536 := by omega
  unfold sinI sinN
  generalize a % 65536 = n at *
  have t1 : Int.tdiv n 16384 = n / 16384 := by rw [Int.tdiv_eq_ediv_of_nonneg (by omega)]
  have t2 : Int.tmod n 16384 = n % 16384 := by rw [Int.tmod_eq_emod_of_nonneg (by omega)]
  rw [t1, t2, wrap64_wf (n / 16384) (by omega) (by omega), and_1, wrap64_wf (16384 - n % 16384) (by omega) (by omega)]
  unfold foldG
  by_cases hc : n / 16384 % 2 = 1
  · rw [if_pos hc, if_pos hc]
    exact sin_j0 k _ _ (by omega) (by omega)
  · rw [if_neg hc, if_neg hc]
    exact sin_j0 k _ _ (by omega) (by omega)
theorem cos_eq (k : Nat) (hk : 1 ≤ k) (a : Int) : rope_Cos.f k a = some (cosI a) := by
  unfold rope_Cos.f
  rw [and_65535, wrap64_wf _ (by omega) (by omega), sin_eq k hk, cosI_mod]; rfl

def angI (p i : Int) : Int := if p < 0 ∨ p > 1048576 ∨ i < 0 then 0 else (p * (8192 / 2 ^ (mn i 14).toNat)) % 65536
theorem angI_zero (p i : Int) (h : p < 0 ∨ p > 1048576 ∨ i < 0) : angI p i = 0 := by unfold angI; rw [if_pos h]
theorem angI_val (p i : Int) (h : ¬ (p < 0 ∨ p > 1048576 ∨ i < 0)) : angI p i = (p * (8192 / 2 ^ (mn i 14).toNat)) % 65536 := by unfold angI; rw [if_neg h]
theorem half_b (m : Nat) : (0 : Int) ≤ 8192 / 2 ^ m ∧ (8192 : Int) / 2 ^ m ≤ 8192 := by
  have hp := pow_pos' m
  constructor
  · exact Int.ediv_nonneg (by omega) (by omega)
  · apply Int.ediv_le_of_le_mul hp; omega
theorem angI_b (p i : Int) : 0 ≤ angI p i ∧ angI p i < 65536 := by unfold angI; split <;> omega
theorem mulp (p n : Int) (h0 : 0 ≤ p) (h1 : p ≤ 1048576) (g0 : 0 ≤ n) (g1 : n ≤ 8192) : 0 ≤ p * n ∧ p * n ≤ 8589934592 := by
  have p1 := Int.mul_nonneg h0 g0
  have p3 : p * n ≤ 1048576 * 8192 := Int.mul_le_mul h1 g1 g0 (by omega)
  omega

theorem angle_eq (p i : Int) (hi : i ≤ 9223372036854775807) : rope_Angle.f p i = some (angI p i) := by
  unfold rope_Angle.f
  by_cases h0 : p < 0
  · rw [if_pos h0, angI_zero p i (by omega)]
  rw [if_neg h0]
  by_cases h1 : p > 1048576
  · rw [if_pos h1, angI_zero p i (by omega)]
  rw [if_neg h1]
  by_cases h2 : i < 0
  · rw [if_pos h2, angI_zero p i (by omega)]
  have hw : ∀ y : Int, IntKind.u64.wrap y = y % 18446744073709551616 := by intro y; simp [IntKind.wrap, IntKind.bits, IntKind.signed]
  rw [if_neg h2, angI_val p i (by omega), hw, show i % 18446744073709551616 = i by omega, if_pos (by unfold mn; split <;> omega)]
  have hb := half_b (mn i 14).toNat
  have hm := mulp p _ (by omega) (by omega) hb.1 hb.2
  rw [wrap64_wf _ (by omega) (by omega), and_65535]

theorem refrest6_eq (a : Int) (h0 : -9223372036854775808 ≤ a) (h1 : a ≤ 9223372036854775807) : pelotonref06_rest.f a = some (a % 65536) := by
  have ht : Int.tmod a 65536 = a % 65536 ∧ 0 ≤ Int.tmod a 65536 ∨ Int.tmod a 65536 = a % 65536 - 65536 ∧ a % 65536 ≠ 0 := by
    by_cases hn : 0 ≤ a
    · rw [Int.tmod_eq_emod_of_nonneg hn]; omega
    · rw [Int.tmod_eq_emod]
      by_cases hz : a % 65536 = 0
      · rw [if_pos (Or.inr (Int.dvd_of_emod_eq_zero hz))]; omega
      · rw [if_neg (by
          intro hc
          rcases hc with hc | hc
          · omega
          · exact hz (Int.emod_eq_zero_of_dvd hc))]
        right; constructor <;> omega
  unfold pelotonref06_rest.f
  rcases ht with ⟨h, h2⟩ | ⟨h, h2⟩
  · rw [if_neg (by omega), h]
  · rw [if_pos (by omega), h, wrap64_wf _ (by omega) (by omega)]
    congr 1
    omega

theorem refangle_loop (p i : Int) (h0 : 0 ≤ p) (h1 : p ≤ 1048576) (hi : 0 ≤ i) : ∀ (d k j : Nat), j + d = 15 → d < k → (j : Int) ≤ i →
    pelotonref06_Angle.l0 k p i (8192 / 2 ^ j) j = some ((p * (8192 / 2 ^ (mn i 14).toNat)) % 65536) := by
  intro d
  induction d with
  | zero =>
    intro k j hj hk hji
    obtain ⟨k, rfl⟩ : ∃ m, k = m + 1 := ⟨k - 1, by omega⟩
    obtain rfl : j = 15 := by omega
    have hm : mn i 14 = 14 := by unfold mn; split <;> omega
    simp only [pelotonref06_Angle.l0]
    rw [hm, show ((8192 : Int) / 2 ^ 15) = 0 by decide, show ((8192 : Int) / 2 ^ (14 : Int).toNat) = 0 by decide, if_neg (show ¬ (0 : Int) > 0 by omega), Int.mul_zero, wrap64_wf 0 (by omega) (by omega), refrest6_eq 0 (by omega) (by omega)]
    split <;> rfl
  | succ d ih =>
    intro k j hj hk hji
    obtain ⟨k, rfl⟩ : ∃ m, k = m + 1 := ⟨k - 1, by omega⟩
    have hb := half_b j
    have hmul := mulp p _ h0 h1 hb.1 hb.2
    simp only [pelotonref06_Angle.l0]
    by_cases hc : (j : Int) < i
    · rw [if_pos hc]
      by_cases hz : (8192 : Int) / 2 ^ j > 0
      · have hs : wrap64 (Int.tdiv (8192 / 2 ^ j) 2) = 8192 / 2 ^ (j + 1) := by
          rw [Int.tdiv_eq_ediv_of_nonneg hb.1, wrap64_wf _ (by omega) (by omega), Int.pow_succ, Int.ediv_ediv_of_nonneg (by have := pow_pos' j; omega)]
        rw [if_pos hz, hs, show wrap64 ((j : Int) + 1) = ((j + 1 : Nat) : Int) by rw [wrap64_wf _ (by omega) (by omega)]; omega]
        exact ih k (j + 1) (by omega) (by omega) (by omega)
      · have hj14 : j = 14 := by
          by_cases hl : j ≤ 13
          · exfalso
            apply hz
            have : ∀ m : Nat, m < 14 → (8192 : Int) / 2 ^ m > 0 := by decide
            exact this j (by omega)
          · omega
        subst hj14
        have hm : mn i 14 = 14 := by unfold mn; split <;> omega
        rw [if_neg hz, hm, show ((8192 : Int) / 2 ^ 14) = 0 by decide, show ((8192 : Int) / 2 ^ (14 : Int).toNat) = 0 by decide, Int.mul_zero, wrap64_wf 0 (by omega) (by omega), refrest6_eq 0 (by omega) (by omega)]
        rfl
    · have hm : (mn i 14).toNat = j := by unfold mn; split <;> omega
      rw [if_neg hc, hm, wrap64_wf _ (by omega) (by omega), refrest6_eq _ (by omega) (by omega)]
      rfl
theorem refangle_eq (k : Nat) (hk : 20 ≤ k) (p i : Int) : pelotonref06_Angle.f k p i = some (angI p i) := by
  obtain ⟨k, rfl⟩ : ∃ m, k = m + 1 := ⟨k - 1, by omega⟩
  unfold pelotonref06_Angle.f
  simp only [pelotonref06_Angle.j0]
  by_cases h0 : p < 0
  · rw [if_pos h0, angI_zero p i (by omega)]; rfl
  rw [if_neg h0]
  by_cases h1 : p > 1048576
  · rw [if_pos h1, angI_zero p i (by omega)]; rfl
  rw [if_neg h1]
  by_cases h2 : i < 0
  · rw [decide_eq_true h2, if_pos rfl, angI_zero p i (by omega)]
  rw [decide_eq_false h2, if_neg (by simp), angI_val p i (by omega)]
  have := refangle_loop p i (by omega) (by omega) (by omega) 15 k 0 (by omega) (by omega) (by omega)
  simpa using this

theorem refS_eq (i : Int) (h0 : 0 ≤ i) (h1 : i ≤ 32) : pelotonref06_S.f i = some (stp i) := by
  unfold pelotonref06_S.f
  rw [Option.bind_some, if_pos h0, if_pos (by simp; omega)]
  rfl
theorem refsin_j1 (k : Nat) (hk : 70 ≤ k) (q g : Int) (hq : 0 ≤ q ∧ q ≤ 3) (h0 : 0 ≤ g) (h1 : g ≤ 16384) : pelotonref06_Sin.j1 (k + 1) q g = some (if q ≥ 2 then - sv g else sv g) := by
  have b1 := stp_b (g / 512) (by omega) (by omega)
  have b2 := stp_b (upI (g / 512)) (by unfold upI; split <;> omega) (by unfold upI; split <;> omega)
  have b3 := prod_b _ _ (g % 512) b2.1 b2.2 b1.1 b1.2 (by omega) (by omega)
  have b4 := sv_b g h0 h1
  have t1 : Int.tdiv g 512 = g / 512 := by rw [Int.tdiv_eq_ediv_of_nonneg (by omega)]
  have t2 : Int.tmod g 512 = g % 512 := by rw [Int.tmod_eq_emod_of_nonneg (by omega)]
  have w0 : wrap64 (g / 512) = g / 512 := wrap64_wf _ (by omega) (by omega)
  have w1 : wrap64 (g / 512 + 1) = g / 512 + 1 := wrap64_wf _ (by omega) (by omega)
  have w2 : wrap64 (stp (upI (g / 512)) - stp (g / 512)) = stp (upI (g / 512)) - stp (g / 512) := wrap64_wf _ (by omega) (by omega)
  have e : stp (g / 512) + sh ((stp (upI (g / 512)) - stp (g / 512)) * (g % 512)) 9 = sv g := rfl
  have hend : ∀ v : Int, -10000000 ≤ v → v ≤ 10000000 → (if q = 2 then some (wrap32 (wrap64 (-wrap64 v))) else if q = 3 then some (wrap32 (wrap64 (-wrap64 v))) else some (wrap32 (wrap64 v))) = some (if q ≥ 2 then -v else v) := by
    intro v v0 v1
    rw [wrap64_wf v (by omega) (by omega), wrap64_wf (-v) (by omega) (by omega), wrap32_wf (-v) (by omega) (by omega), wrap32_wf v (by omega) (by omega)]
    (repeat' split) <;> first | rfl | omega
  simp only [pelotonref06_Sin.j1]
  rw [t1, t2, w0, w1, refS_eq _ (by omega) (by omega)]
  simp only [Option.bind_some]
  by_cases hc : g / 512 < 32
  · rw [if_pos hc]
    have hu : g / 512 + 1 = upI (g / 512) := by unfold upI; rw [if_pos hc]
    rw [hu, refS_eq (upI (g / 512)) (by omega) (by omega)]
    simp only [Option.bind_some]
    rw [w2, wrap64_wf _ (by omega) (by omega), refshift_eq k hk _ _ (by omega) (by omega)]
    simp only [Option.bind_some]
    rw [show nn 9 = 9 from nn_of 9 (by omega) (by omega), e]
    exact hend _ b4.1 b4.2
  · rw [if_neg hc]
    have hg : g = 16384 := by omega
    have hs : stp (g / 512) = sv g := by subst hg; decide
    have hd := hend _ b4.1 b4.2
    rw [wrap64_wf (sv g) (by omega) (by omega)] at hd
    rw [hs]
    exact hd
theorem refsin_eq (k : Nat) (hk : 75 ≤ k) (a : Int) (h0 : -9223372036854775808 ≤ a) (h1 : a ≤ 9223372036854775807) : pelotonref06_Sin.f k a = some (sinI a) := by
  obtain ⟨k, rfl⟩ : ∃ m, k = m + 2 := ⟨k - 2, by omega⟩
  unfold pelotonref06_Sin.f
  rw [refrest6_eq a h0 h1, Option.bind_some]
  have hn : 0 ≤ a % 65536 ∧ a % 65536 < 65536 := by omega
  unfold sinI sinN
  generalize a % 65536 = n at *
  have t1 : Int.tdiv n 16384 = n / 16384 := by rw [Int.tdiv_eq_ediv_of_nonneg (by omega)]
  have t2 : Int.tmod n 16384 = n % 16384 := by rw [Int.tmod_eq_emod_of_nonneg (by omega)]
  rw [t1, t2, wrap64_wf (n / 16384) (by omega) (by omega)]
  simp only [pelotonref06_Sin.j0]
  unfold foldG
  have j := fun g g0 g1 => refsin_j1 k (by omega) (n / 16384) g (by omega) g0 g1
  by_cases hc : n / 16384 % 2 = 1
  · have : n / 16384 = 1 ∨ n / 16384 = 3 := by omega
    rw [if_pos hc, ← j _ (by omega) (by omega), wrap64_wf (16384 - n % 16384) (by omega) (by omega)]
    rcases this with h | h
    · rw [if_pos h]; simp
    · rw [if_neg (by omega), h]; rfl
  · rw [if_neg hc, ← j _ (by omega) (by omega), if_neg (by omega), show (n / 16384 == 3) = false from beq_eq_false_iff_ne.2 (by omega)]
    rfl
theorem refcos_eq (k : Nat) (hk : 75 ≤ k) (a : Int) (h0 : -9223372036854775808 ≤ a) (h1 : a ≤ 9223372036854775807) : pelotonref06_Cos.f k a = some (cosI a) := by
  unfold pelotonref06_Cos.f
  rw [refrest6_eq a h0 h1, Option.bind_some, wrap64_wf _ (by omega) (by omega), refsin_eq k hk _ (by omega) (by omega), cosI_mod]; rfl

theorem awake06_ok (k : Nat) (hk : 10 ≤ k) : pelotonlaw06_awake.f k = some true :=
  at_rounds pelotonlaw06_awake.mono hk (by decide +kernel)

theorem RopeTables : pelotonlaw06_RopeTables.Pure := by
  intro a0 a1 h0 h1
  refine ⟨200, ?_⟩
  unfold pelotonlaw06_RopeTables.f
  rw [awake06_ok 200 (by omega), Option.bind_some, if_pos rfl]
  by_cases h : a0 < 0 ∨ a1 < 0 ∨ a0 > 256 ∨ a1 > 256
  · rw [if_pos h]
  · have hall : ∀ q : Nat, q < a0.toNat → ∀ j : Nat, j < a1.toNat → pelotonlaw06_RopeTables.chk 200 q j = some true := by
      intro q hq j hj
      have hb := angI_b (q : Int) (j : Int)
      unfold pelotonlaw06_RopeTables.chk
      rw [angle_eq _ _ (by omega), Option.bind_some, cos_eq 200 (by omega), Option.bind_some, sin_eq 200 (by omega), Option.bind_some, refangle_eq 200 (by omega), Option.bind_some, refcos_eq 200 (by omega) _ (by omega) (by omega), Option.bind_some, refsin_eq 200 (by omega) _ (by omega) (by omega), Option.bind_some, if_pos ⟨rfl, rfl⟩]
    rw [if_neg h, if_pos hall]

end Go.Proofs.Ytplndicghohpbaa.Pure
