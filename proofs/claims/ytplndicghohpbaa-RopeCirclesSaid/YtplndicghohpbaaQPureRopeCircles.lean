/- RopeCircles: the law's plain part: what its functions compute answers true, for all arguments of its types. No condition beside the given bounds. -/
import Derived.Test.YtplndicghohpbaaQRopeCirclesx3
import Derived.Test.YtplndicghohpbaaMath
namespace Go.Proofs.Ytplndicghohpbaa.Pure
open Go.RowKit Go.Proofs.Ytplndicghohpbaa.QRopeCircles Go.Proofs.YtplndicghohpbaaW.PrintWords Go.Proofs.YtplndicghohpbaaW.PrintLast Go.Proofs.YtplndicghohpbaaW.PrintMore Go.PelMath
set_option linter.unusedVariables false
set_option linter.unusedSimpArgs false
theorem wf64 {x : Int} (h : (Lit.int .i64 x).wf = true) : -9223372036854775808 ≤ x ∧ x ≤ 9223372036854775807 := by
  simp [Lit.wf, IntKind.min, IntKind.max, IntKind.bits, IntKind.signed] at h; omega
theorem wf32 {x : Int} (h : (Lit.int .i32 x).wf = true) : -2147483648 ≤ x ∧ x ≤ 2147483647 := by
  simp [Lit.wf, IntKind.min, IntKind.max, IntKind.bits, IntKind.signed] at h; omega
theorem wf8 {x : Int} (h : (Lit.int .i8 x).wf = true) : -128 ≤ x ∧ x ≤ 127 := by
  simp [Lit.wf, IntKind.min, IntKind.max, IntKind.bits, IntKind.signed] at h; omega

def nn (n : Int) : Nat := (mn (mx n 0) 62).toNat
theorem nn_le (n : Int) : nn n ≤ 62 := by unfold nn mn mx; (repeat' split) <;> omega
theorem nn_of (n : Int) (h0 : 0 ≤ n) (h1 : n ≤ 62) : nn n = n.toNat := by unfold nn mn mx; (repeat' split) <;> omega

theorem and_mask (x : Int) (n : Nat) (h : n ≤ 62) : Go.bits .and .u64 (IntKind.u64.wrap x) (2 ^ n - 1) = x % 2 ^ n := by
  have hw : ∀ y : Int, IntKind.u64.wrap y = y % 18446744073709551616 := by intro y; simp [IntKind.wrap, IntKind.bits, IntKind.signed]
  rw [bits_mask .u64 64 (by decide) (by intro y h0 h1; rw [hw]; omega) n (by omega) _ (by rw [hw]; omega) (by rw [hw]; omega), hw]
  have hd : ((2 : Int) ^ n) ∣ 18446744073709551616 := ⟨2 ^ (64 - n), by rw [← Int.pow_add]; rw [show n + (64 - n) = 64 by omega]; rfl⟩
  exact Int.emod_emod_of_dvd x hd
theorem and_one (x : Int) (h0 : -9223372036854775808 ≤ x) (h1 : x ≤ 9223372036854775807) : Go.bits .and .i64 x 1 = x % 2 := by
  have e : bits .and .i64 x 1 = IntKind.i64.wrap (((BitVec.ofInt 64 x &&& BitVec.ofInt 64 1).toNat : Nat) : Int) := rfl
  rw [e, BitVec.toNat_and, BitVec.toNat_ofInt, BitVec.toNat_ofInt]
  have e1 : (((1 : Int) % ((2 ^ 64 : Nat) : Int)).toNat) = 1 := by decide
  rw [e1, Nat.and_one_is_mod, IntKind.wrap_i64]
  omega
theorem shift_eq (x n : Int) (h0 : -9223372036854775808 ≤ x) (h1 : x ≤ 9223372036854775807) : round_Shift.f x n = some (sh x (nn n)) := by
  have hn := nn_le n
  have hp := pow_pos' (nn n); have hq := pow_le62 (nn n) hn
  have hw : IntKind.u64.wrap (2 ^ nn n) = 2 ^ nn n := by
    have : ∀ y : Int, IntKind.u64.wrap y = y % 18446744073709551616 := by intro y; simp [IntKind.wrap, IntKind.bits, IntKind.signed]
    rw [this]; omega
  have hw1 : IntKind.u64.wrap (2 ^ nn n - 1) = 2 ^ nn n - 1 := by
    have : ∀ y : Int, IntKind.u64.wrap y = y % 18446744073709551616 := by intro y; simp [IntKind.wrap, IntKind.bits, IntKind.signed]
    rw [this]; omega
  unfold round_Shift.f
  simp only [show (mn (mx n 0) 62).toNat = nn n from rfl]
  have hm : mn (mx n 0) 62 = (nn n : Int) := by unfold nn mn mx; (repeat' split) <;> omega
  rw [hw]; try rw [hw1]
  rw [and_mask x _ hn, hm]
  have hpart := parts x (2 ^ nn n) hp
  obtain ⟨q, r, hx, g0, g1, e1, e2⟩ := hpart
  have hqb : -9223372036854775808 ≤ q ∧ q ≤ 9223372036854775807 ∧ (2 ≤ (2 : Int) ^ nn n → q < 9223372036854775807) := by
    have hlo : -9223372036854775808 ≤ x / 2 ^ nn n := by
      apply Int.le_ediv_of_mul_le hp
      have : (-9223372036854775808 : Int) * 2 ^ nn n ≤ -9223372036854775808 * 1 := Int.mul_le_mul_of_nonpos_left (by omega) (by omega)
      omega
    refine ⟨by omega, ?_, ?_⟩
    · rw [← e1]; apply Int.ediv_le_of_le_mul hp; 
      have : (9223372036854775807 : Int) * 1 ≤ 9223372036854775807 * 2 ^ nn n := Int.mul_le_mul_of_nonneg_left (by omega) (by omega)
      omega
    · intro h2
      rw [← e1]; apply Int.ediv_lt_of_lt_mul hp
      have : (9223372036854775807 : Int) * 2 ≤ 9223372036854775807 * 2 ^ nn n := Int.mul_le_mul_of_nonneg_left (by omega) (by omega)
      omega
  unfold sh; rw [e1, e2, and_one q (by omega) (by omega)]
  by_cases hz : nn n = 0
  · rw [hz] at g1 ⊢
    simp only [Int.pow_zero] at g1 ⊢
    have : r = 0 := by omega
    subst this; simp
  · obtain ⟨hh, he, hh0⟩ := pow_even (nn n) (by omega)
    rw [he] at g1 hqb ⊢
    have h2 := hqb.2.2 (by omega)
    have hwr : wrap64 (q + 1) = q + 1 := wrap64_wf _ (by omega) (by omega)
    rw [hwr, show (2 * hh) / 2 = hh by omega]
    have hnz : ((nn n : Nat) : Int) > 0 := by omega
    by_cases c1 : r > hh
    · rw [if_pos c1, if_pos (by omega)]
    · rw [if_neg c1]
      by_cases c2 : r = hh
      · rw [if_pos c2, if_pos hnz]
        by_cases c3 : q % 2 = 1
        · rw [if_pos c3, if_pos (by omega)]
        · rw [if_neg c3, if_neg (by omega)]
      · rw [if_neg c2, if_neg (by omega)]
theorem sh_range (x : Int) (n : Nat) (h0 : -9223372036854775808 ≤ x) (h1 : x ≤ 9223372036854775807) : -9223372036854775808 ≤ sh x n ∧ sh x n ≤ 9223372036854775807 := by
  by_cases hz : n = 0
  · rw [hz, sh_zero]; omega
  · have hp := pow_pos' n
    obtain ⟨hh, he, hh0⟩ := pow_even n (by omega)
    rw [sh_shd]
    have hm1 := shd_mono x 9223372036854775807 (2 ^ n) hp h1
    have hm2 := shd_mono (-9223372036854775808) x (2 ^ n) hp h0
    have e1 := shd_mono 9223372036854775807 (9223372036854775807 * 2 ^ n) (2 ^ n) hp (by
      have : (9223372036854775807 : Int) * 1 ≤ 9223372036854775807 * 2 ^ n := Int.mul_le_mul_of_nonneg_left (by omega) (by omega)
      omega)
    have e2 := shd_mono (-9223372036854775808 * 2 ^ n) (-9223372036854775808) (2 ^ n) hp (by
      have : (-9223372036854775808 : Int) * 2 ^ n ≤ -9223372036854775808 * 1 := Int.mul_le_mul_of_nonpos_left (by omega) (by omega)
      omega)
    rw [shd_mul _ _ hp] at e1 e2
    omega

def clamp (x a b : Int) : Int := if x < a then a else if b < x then b else x
theorem clamp_range (x a b : Int) (h : a ≤ b) : a ≤ clamp x a b ∧ clamp x a b ≤ b := by unfold clamp; (repeat' split) <;> omega
theorem clamp_mono (x y a b : Int) (h : a ≤ b) (hxy : x ≤ y) : clamp x a b ≤ clamp y a b := by unfold clamp; (repeat' split) <;> omega
theorem clamp_id (x a b : Int) (h0 : a ≤ x) (h1 : x ≤ b) : clamp x a b = x := by unfold clamp; (repeat' split) <;> omega

theorem sat8_eq (x : Int) : round_Sat8.f x = some (clamp x (-128) 127) := by
  unfold round_Sat8.f round_near_int8.f mn mx clamp
  simp only [Option.bind_some, Option.some.injEq]
  have hw : ∀ y : Int, -128 ≤ y → y ≤ 127 → IntKind.i8.wrap y = y := by
    intro y a b; simp [IntKind.wrap, IntKind.bits, IntKind.signed]; split <;> omega
  (repeat' split) <;> first | rfl | omega | (exact hw _ (by omega) (by omega)) | (rw [hw _ (by omega) (by omega)]; omega)

theorem mul32 (x y : Int) (hx : -2147483648 ≤ x ∧ x ≤ 2147483647) (hy : -2147483648 ≤ y ∧ y ≤ 2147483647) : -4611686018427387904 ≤ x * y ∧ x * y ≤ 4611686018427387904 := by
  have h := Int.natAbs_mul x y
  have h1 : x.natAbs ≤ 2147483648 := by omega
  have h2 : y.natAbs ≤ 2147483648 := by omega
  have h3 : x.natAbs * y.natAbs ≤ 2147483648 * 2147483648 := Nat.mul_le_mul h1 h2
  omega

theorem wrap32_range (x : Int) : -2147483648 ≤ wrap32 x ∧ wrap32 x ≤ 2147483647 := by unfold wrap32; omega
theorem wrap32_0 : wrap32 0 = 0 := by unfold wrap32; omega
theorem rd_nat (l : List Int) (i : Nat) (h : i < l.length) : rd l (i : Int) = l[i] := by
  unfold rd; simp [List.getD, h]
theorem drop_cons (l : List Int) (i : Nat) (h : i < l.length) : l.drop i = rd l (i : Int) :: l.drop (i + 1) := by
  rw [rd_nat l i h, List.drop_eq_getElem_cons h]
theorem rd_mem (l : List Int) (i : Nat) (h : i < l.length) : rd l (i : Int) ∈ l := by rw [rd_nat l i h]; exact List.getElem_mem h
theorem next (i n : Nat) (h : i < n) (hn : n ≤ 9223372036854775807) : wrap64 ((i : Int) + 1) = ((i + 1 : Nat) : Int) := by
  rw [wrap64_wf _ (by omega) (by omega)]; omega

def dotI : List Int → List Int → Int
  | x :: a, y :: b => x * y + dotI a b
  | _, _ => 0
def prods : List Int → List Int → List Int
  | x :: a, y :: b => x * y :: prods a b
  | _, _ => []
theorem dotI_nil (a : List Int) : dotI a [] = 0 := by cases a <;> rfl
theorem tot_prods (a : List Int) : ∀ b, tot (prods a b) = dotI a b := by
  induction a with
  | nil => intro b; rfl
  | cons x a ih => intro b; cases b with
    | nil => rfl
    | cons y b => simp only [prods, tot, dotI, ih]
theorem prods_length (a : List Int) : ∀ b, (prods a b).length ≤ a.length := by
  induction a with
  | nil => intro b; simp [prods]
  | cons x a ih => intro b; cases b with
    | nil => simp [prods]
    | cons y b => simp only [prods, List.length_cons]; have := ih b; omega

theorem dotI_split (a : List Int) : ∀ (b : List Int) (k n : Nat), k ≤ n → n = min a.length b.length →
    dotI a b = dotI (a.take k) (b.take k) + dotI ((a.take n).drop k) ((b.take n).drop k) := by
  induction a with
  | nil => intro b k n h hn; simp [dotI]
  | cons x a ih =>
    intro b k n h hn
    cases b with
    | nil => simp [dotI_nil]
    | cons y b =>
      simp only [List.length_cons] at hn
      obtain ⟨n, rfl⟩ : ∃ m, n = m + 1 := ⟨n - 1, by omega⟩
      cases k with
      | zero =>
        have := ih b 0 n (by omega) (by omega)
        simp only [List.take_zero, List.drop_zero, dotI, Int.zero_add, List.take_succ_cons] at this ⊢
        rw [this]
      | succ k =>
        have := ih b k n (by omega) (by omega)
        simp only [List.take_succ_cons, List.drop_succ_cons, dotI]
        rw [this]; omega

theorem rest9 (n : Int) (h : -9223372036854775808 ≤ n ∧ n ≤ 9223372036854775807) : ∃ m : Nat, Int.tmod (wrap64 (Int.tmod n 9 + 9)) 9 = m ∧ m ≤ 8 := by
  have h1 := Int.tmod_lt_of_pos n (show (0 : Int) < 9 by omega)
  have h2 := Int.lt_tmod_of_pos n (show (0 : Int) < 9 by omega)
  rw [wrap64_wf _ (by omega) (by omega), Int.tmod_eq_emod_of_nonneg (by omega)]
  exact ⟨((Int.tmod n 9 + 9) % 9).toNat, by omega, by omega⟩

theorem rest31 (n : Int) (h : -9223372036854775808 ≤ n ∧ n ≤ 9223372036854775807) : ∃ m : Nat, Int.tmod (wrap64 (Int.tmod n 31 + 31)) 31 = m ∧ m ≤ 30 := by
  have h1 := Int.tmod_lt_of_pos n (show (0 : Int) < 31 by omega)
  have h2 := Int.lt_tmod_of_pos n (show (0 : Int) < 31 by omega)
  rw [wrap64_wf _ (by omega) (by omega), Int.tmod_eq_emod_of_nonneg (by omega)]
  exact ⟨((Int.tmod n 31 + 31) % 31).toNat, by omega, by omega⟩

theorem and_i64 (x : Int) (n : Nat) (hn : n ≤ 62) (m : Int) (hm : m = 2 ^ n - 1) : Go.bits .and .i64 x m = x % 2 ^ n := by
  subst hm
  have e : bits .and .i64 x (2 ^ n - 1) = IntKind.i64.wrap (((BitVec.ofInt 64 x &&& BitVec.ofInt 64 (2 ^ n - 1)).toNat : Nat) : Int) := rfl
  have hp := pow_pos' n
  have hq := pow_le62 n hn
  have e1 : (((2 : Int) ^ n - 1) % ((2 ^ 64 : Nat) : Int)).toNat = 2 ^ n - 1 := by
    have h2 : ((2 ^ n : Nat) : Int) = (2 : Int) ^ n := by simp
    have h3 : 0 < 2 ^ n := Nat.pow_pos (by decide)
    omega
  rw [e, BitVec.toNat_and, BitVec.toNat_ofInt, BitVec.toNat_ofInt, e1, Nat.and_two_pow_sub_one_eq_mod, Int.natCast_emod]
  have hd : ((2 : Int) ^ n) ∣ 18446744073709551616 := ⟨2 ^ (64 - n), by rw [← Int.pow_add]; rw [show n + (64 - n) = 64 by omega]; rfl⟩
  have h4 : (((x % ((2 ^ 64 : Nat) : Int)).toNat : Nat) : Int) = x % 18446744073709551616 := by omega
  have h5 : ((2 ^ n : Nat) : Int) = (2 : Int) ^ n := by simp
  rw [h4, h5, Int.emod_emod_of_dvd x hd, IntKind.wrap_i64]
  have h6 := Int.emod_nonneg x (show (2 : Int) ^ n ≠ 0 by omega)
  have h7 := Int.emod_lt_of_pos x hp
  omega
theorem and_65535 (x : Int) : Go.bits .and .i64 x 65535 = x % 65536 := by have := and_i64 x 16 (by omega) 65535 (by decide); simpa using this
theorem and_511 (x : Int) : Go.bits .and .i64 x 511 = x % 512 := by have := and_i64 x 9 (by omega) 511 (by decide); simpa using this
theorem and_1 (x : Int) : Go.bits .and .i64 x 1 = x % 2 := by have := and_i64 x 1 (by omega) 1 (by decide); simpa using this

def stp (i : Int) : Int := rd rope_step.tab i
theorem stp_all : ∀ i : Nat, i < 33 → 0 ≤ stp (i : Int) ∧ stp (i : Int) ≤ 16384 := by decide
theorem stp_b (i : Int) (h0 : 0 ≤ i) (h1 : i ≤ 32) : 0 ≤ stp i ∧ stp i ≤ 16384 := by
  have := stp_all i.toNat (by omega)
  rwa [show ((i.toNat : Nat) : Int) = i by omega] at this
def upI (i : Int) : Int := if i < 32 then i + 1 else 32
def sv (g : Int) : Int := stp (g / 512) + sh ((stp (upI (g / 512)) - stp (g / 512)) * (g % 512)) 9
theorem prod_b (a b c : Int) (h0 : 0 ≤ a) (h1 : a ≤ 16384) (h2 : 0 ≤ b) (h3 : b ≤ 16384) (h4 : 0 ≤ c) (h5 : c ≤ 511) : -8372224 ≤ (a - b) * c ∧ (a - b) * c ≤ 8372224 := by
  rw [Int.sub_mul]
  have p1 := Int.mul_nonneg h0 h4
  have p2 := Int.mul_nonneg h2 h4
  have p3 : a * c ≤ 16384 * 511 := Int.mul_le_mul h1 h5 h4 (by omega)
  have p4 : b * c ≤ 16384 * 511 := Int.mul_le_mul h3 h5 h4 (by omega)
  omega
theorem sv_b (g : Int) (h0 : 0 ≤ g) (h1 : g ≤ 16384) : -10000000 ≤ sv g ∧ sv g ≤ 10000000 := by
  have b1 := stp_b (g / 512) (by omega) (by omega)
  have b2 := stp_b (upI (g / 512)) (by unfold upI; split <;> omega) (by unfold upI; split <;> omega)
  have b3 := prod_b _ _ (g % 512) b2.1 b2.2 b1.1 b1.2 (by omega) (by omega)
  unfold sv
  rw [sh_shd]
  obtain ⟨r, hr, r1, r2⟩ := shd_bounds ((stp (upI (g / 512)) - stp (g / 512)) * (g % 512)) (2 ^ 9) (by decide)
  generalize (stp (upI (g / 512)) - stp (g / 512)) * (g % 512) = p at *
  generalize shd p (2 ^ 9) = q at *
  omega
def foldG (n : Int) : Int := if (n / 16384) % 2 = 1 then 16384 - n % 16384 else n % 16384
theorem foldG_b (n : Int) : 0 ≤ foldG n ∧ foldG n ≤ 16384 := by unfold foldG; split <;> omega
def sinN (n : Int) : Int := if n / 16384 ≥ 2 then - sv (foldG n) else sv (foldG n)
def sinI (a : Int) : Int := sinN (a % 65536)
def cosI (a : Int) : Int := sinI (a + 16384)
theorem sinN_b (n : Int) : -10000000 ≤ sinN n ∧ sinN n ≤ 10000000 := by
  have := sv_b (foldG n) (foldG_b n).1 (foldG_b n).2
  unfold sinN; split <;> omega
theorem sinI_b (a : Int) : -10000000 ≤ sinI a ∧ sinI a ≤ 10000000 := sinN_b _
theorem cosI_b (a : Int) : -10000000 ≤ cosI a ∧ cosI a ≤ 10000000 := sinN_b _
theorem sinI_mod (a : Int) : sinI (a % 65536) = sinI a := by unfold sinI; rw [show a % 65536 % 65536 = a % 65536 by omega]
theorem cosI_mod (a : Int) : sinI (a % 65536 + 16384) = cosI a := by unfold cosI sinI; rw [show (a % 65536 + 16384) % 65536 = (a + 16384) % 65536 by omega]

theorem step_eq (i : Int) (h0 : 0 ≤ i) : rope_step.f i = some (stp (mn i 32)) := by unfold rope_step.f stp; rw [if_pos h0]
theorem sin_j0 (k : Nat) (q g : Int) (h0 : 0 ≤ g) (h1 : g ≤ 16384) : rope_Sin.j0 (k + 1) q g = some (if q ≥ 2 then - sv g else sv g) := by
  have b1 := stp_b (g / 512) (by omega) (by omega)
  have b2 := stp_b (upI (g / 512)) (by unfold upI; split <;> omega) (by unfold upI; split <;> omega)
  have b3 := prod_b _ _ (g % 512) b2.1 b2.2 b1.1 b1.2 (by omega) (by omega)
  have b4 := sv_b g h0 h1
  have w1 : wrap64 (g / 512 + 1) = g / 512 + 1 := wrap64_wf _ (by omega) (by omega)
  have m1 : mn (g / 512) 32 = g / 512 := by unfold mn; split <;> omega
  have m2 : mn (g / 512 + 1) 32 = upI (g / 512) := by unfold mn upI; (repeat' split) <;> omega
  have w2 : wrap64 (stp (upI (g / 512)) - stp (g / 512)) = stp (upI (g / 512)) - stp (g / 512) := wrap64_wf _ (by omega) (by omega)
  simp only [rope_Sin.j0]
  rw [step_eq _ (by omega), w1, step_eq _ (by omega), m1, m2]
  simp only [Option.bind_some]
  rw [w2, and_511, wrap64_wf _ (by omega) (by omega), shift_eq _ _ (by omega) (by omega)]
  simp only [Option.bind_some]
  rw [show nn 9 = 9 from nn_of 9 (by omega) (by omega)]
  have e : stp (g / 512) + sh ((stp (upI (g / 512)) - stp (g / 512)) * (g % 512)) 9 = sv g := rfl
  rw [e]
  generalize sv g = v at *
  clear e b1 b2 b3 w1 m1 m2 w2
  split
  · rw [wrap64_wf v (by omega) (by omega), wrap64_wf (-v) (by omega) (by omega), wrap32_wf _ (by omega) (by omega)]
  · rw [wrap64_wf v (by omega) (by omega), wrap32_wf _ (by omega) (by omega)]
theorem sin_eq (k : Nat) (hk : 1 ≤ k) (a : Int) : rope_Sin.f k a = some (sinI a) := by
  obtain ⟨k, rfl⟩ : ∃ m, k = m + 1 := ⟨k - 1, by omega⟩
  unfold rope_Sin.f
  rw [and_65535]
  have hn : 0 ≤ a % 65536 ∧ a % 65536 < 65536 := by omega
  unfold sinI sinN
  generalize a % 65536 = n at *
  have t1 : Int.tdiv n 16384 = n / 16384 := by rw [Int.tdiv_eq_ediv_of_nonneg (by omega)]
  have t2 : Int.tmod n 16384 = n % 16384 := by rw [Int.tmod_eq_emod_of_nonneg (by omega)]
  rw [t1, t2, wrap64_wf (n / 16384) (by omega) (by omega), and_1, wrap64_wf (16384 - n % 16384) (by omega) (by omega)]
  unfold foldG
  by_cases hc : n / 16384 % 2 = 1
  · rw [if_pos hc, if_pos hc]
    exact sin_j0 k _ _ (by omega) (by omega)
  · rw [if_neg hc, if_neg hc]
    exact sin_j0 k _ _ (by omega) (by omega)
theorem cos_eq (k : Nat) (hk : 1 ≤ k) (a : Int) : rope_Cos.f k a = some (cosI a) := by
  unfold rope_Cos.f
  rw [and_65535, wrap64_wf _ (by omega) (by omega), sin_eq k hk, cosI_mod]; rfl

def angI (p i : Int) : Int := if p < 0 ∨ p > 1048576 ∨ i < 0 then 0 else (p * (8192 / 2 ^ (mn i 14).toNat)) % 65536
theorem angI_zero (p i : Int) (h : p < 0 ∨ p > 1048576 ∨ i < 0) : angI p i = 0 := by unfold angI; rw [if_pos h]
theorem angI_val (p i : Int) (h : ¬ (p < 0 ∨ p > 1048576 ∨ i < 0)) : angI p i = (p * (8192 / 2 ^ (mn i 14).toNat)) % 65536 := by unfold angI; rw [if_neg h]
theorem half_b (m : Nat) : (0 : Int) ≤ 8192 / 2 ^ m ∧ (8192 : Int) / 2 ^ m ≤ 8192 := by
  have hp := pow_pos' m
  constructor
  · exact Int.ediv_nonneg (by omega) (by omega)
  · apply Int.ediv_le_of_le_mul hp; omega
theorem angI_b (p i : Int) : 0 ≤ angI p i ∧ angI p i < 65536 := by unfold angI; split <;> omega
theorem mulp (p n : Int) (h0 : 0 ≤ p) (h1 : p ≤ 1048576) (g0 : 0 ≤ n) (g1 : n ≤ 8192) : 0 ≤ p * n ∧ p * n ≤ 8589934592 := by
  have p1 := Int.mul_nonneg h0 g0
  have p3 : p * n ≤ 1048576 * 8192 := Int.mul_le_mul h1 g1 g0 (by omega)
  omega

theorem angle_eq (p i : Int) (hi : i ≤ 9223372036854775807) : rope_Angle.f p i = some (angI p i) := by
  unfold rope_Angle.f
  by_cases h0 : p < 0
  · rw [if_pos h0, angI_zero p i (by omega)]
  rw [if_neg h0]
  by_cases h1 : p > 1048576
  · rw [if_pos h1, angI_zero p i (by omega)]
  rw [if_neg h1]
  by_cases h2 : i < 0
  · rw [if_pos h2, angI_zero p i (by omega)]
  have hw : ∀ y : Int, IntKind.u64.wrap y = y % 18446744073709551616 := by intro y; simp [IntKind.wrap, IntKind.bits, IntKind.signed]
  rw [if_neg h2, angI_val p i (by omega), hw, show i % 18446744073709551616 = i by omega, if_pos (by unfold mn; split <;> omega)]
  have hb := half_b (mn i 14).toNat
  have hm := mulp p _ (by omega) (by omega) hb.1 hb.2
  rw [wrap64_wf _ (by omega) (by omega), and_65535]

theorem awake06_ok (k : Nat) (hk : 10 ≤ k) : pelotonlaw06_awake.f k = some true :=
  at_rounds pelotonlaw06_awake.mono hk (by decide +kernel)

def tA (p i x y : Int) : Int := clamp (sh (x * cosI (angI p i) - y * sinI (angI p i)) 14) (-128) 127
def tB (p i x y : Int) : Int := clamp (sh (x * sinI (angI p i) + y * cosI (angI p i)) 14) (-128) 127
def turnL (p : Int) : Nat → List Int → List Int
  | i, x :: y :: l => tA p ((i / 2 : Nat) : Int) x y :: tB p ((i / 2 : Nat) : Int) x y :: turnL p (i + 2) l
  | _, _ => []
theorem turnL_length (p : Int) : ∀ (n i : Nat) (l : List Int), l.length = 2 * n → (turnL p i l).length = 2 * n := by
  intro n
  induction n with
  | zero => intro i l h; match l, h with | [], _ => rfl
  | succ n ih =>
    intro i l h
    match l, h with
    | x :: y :: l, h =>
      simp only [turnL, List.length_cons]
      rw [ih (i + 2) l (by simp only [List.length_cons] at h; omega)]
      omega
theorem mul8 (x c : Int) (hx : -128 ≤ x ∧ x ≤ 127) (hc : -10000000 ≤ c ∧ c ≤ 10000000) : -1280000000 ≤ x * c ∧ x * c ≤ 1280000000 := by
  have h := Int.natAbs_mul x c
  have h1 : x.natAbs ≤ 128 := by omega
  have h2 : c.natAbs ≤ 10000000 := by omega
  have h3 : x.natAbs * c.natAbs ≤ 128 * 10000000 := Nat.mul_le_mul h1 h2
  omega
theorem nx1 (i : Nat) (h : i ≤ 9223372036854775000) : wrap64 ((i : Int) + 1) = ((i + 1 : Nat) : Int) := by rw [wrap64_wf _ (by omega) (by omega)]; omega
theorem nx2 (i : Nat) (h : i ≤ 9223372036854775000) : wrap64 ((i : Int) + 2) = ((i + 2 : Nat) : Int) := by rw [wrap64_wf _ (by omega) (by omega)]; omega
theorem hf2 (i : Nat) (h : i ≤ 9223372036854775000) : wrap64 (Int.tdiv (i : Int) 2) = ((i / 2 : Nat) : Int) := w_div i 2 (by omega)
theorem drop2 (l : List Int) (i : Nat) (h : i + 1 < l.length) : l.drop i = rd l (i : Int) :: rd l ((i + 1 : Nat) : Int) :: l.drop (i + 2) := by
  rw [drop_cons l i (by omega), drop_cons l (i + 1) h]

theorem pairof_eq (p i x y : Int) (hx : -128 ≤ x ∧ x ≤ 127) (hy : -128 ≤ y ∧ y ≤ 127) : rope_pairOf.f x y (cosI (angI p i)) (sinI (angI p i)) = some (tA p i x y, tB p i x y) := by
  have hc := cosI_b (angI p i); have hs := sinI_b (angI p i)
  unfold tA tB
  generalize cosI (angI p i) = c at *
  generalize sinI (angI p i) = s at *
  have m1 := mul8 x c hx hc; have m2 := mul8 y s hy hs; have m3 := mul8 x s hx hs; have m4 := mul8 y c hy hc
  unfold rope_pairOf.f
  rw [wrap64_wf x (by omega) (by omega), wrap64_wf y (by omega) (by omega), wrap64_wf c (by omega) (by omega), wrap64_wf s (by omega) (by omega),
    wrap64_wf (x * c) (by omega) (by omega), wrap64_wf (y * s) (by omega) (by omega), wrap64_wf (x * s) (by omega) (by omega), wrap64_wf (y * c) (by omega) (by omega),
    wrap64_wf (x * c - y * s) (by omega) (by omega), wrap64_wf (x * s + y * c) (by omega) (by omega), shift_eq _ _ (by omega) (by omega)]
  simp only [Option.bind_some]
  rw [sat8_eq, Option.bind_some, shift_eq _ _ (by omega) (by omega), Option.bind_some, sat8_eq, Option.bind_some, show nn 14 = 14 from nn_of 14 (by omega) (by omega)]

theorem turn_loop (p : Int) (xs : List Int) (hl : xs.length ≤ 1000) (hx : ∀ x ∈ xs, -128 ≤ x ∧ x ≤ 127) : ∀ (d k i : Nat) (o : List Int), i + 2 * d = xs.length → d + 5 < k → o.length = xs.length → i % 2 = 0 →
    rope_Turn.l0 k p xs o i = some (o.take i ++ turnL p i (xs.drop i), 0) := by
  intro d
  induction d with
  | zero =>
    intro k i o hi hk ho he
    obtain ⟨k, rfl⟩ : ∃ m, k = m + 1 := ⟨k - 1, by omega⟩
    simp only [rope_Turn.l0]
    rw [if_neg (by omega), List.drop_of_length_le (by omega), List.take_of_length_le (by omega)]; simp [turnL]
  | succ d ih =>
    intro k i o hi hk ho he
    obtain ⟨k, rfl⟩ : ∃ m, k = m + 1 := ⟨k - 1, by omega⟩
    have b1 := hx _ (rd_mem xs i (by omega))
    have b2 := hx _ (rd_mem xs (i + 1) (by omega))
    simp only [rope_Turn.l0]
    rw [if_pos (by omega), hf2 i (by omega), nx1 i (by omega), nx2 i (by omega), angle_eq _ _ (by omega), Option.bind_some, if_pos (by omega), if_pos (by omega), if_pos (by omega), cos_eq _ (by omega), Option.bind_some, sin_eq _ (by omega), Option.bind_some,
      pairof_eq _ _ _ _ b1 b2, Option.bind_some, if_pos (by omega), if_pos (by omega), ih k (i + 2) _ (by omega) (by omega) (by simp [ho]) (by omega), drop2 xs i (by omega)]
    simp only [turnL, Int.toNat_natCast]
    generalize tA p ((i / 2 : Nat) : Int) (rd xs (i : Int)) (rd xs ((i + 1 : Nat) : Int)) = u
    generalize tB p ((i / 2 : Nat) : Int) (rd xs (i : Int)) (rd xs ((i + 1 : Nat) : Int)) = v
    rw [show i + 2 = (i + 1) + 1 from rfl, List.take_add_one, List.getElem?_set_self (by simp; omega), List.take_set_of_le (Nat.le_refl _), List.take_add_one, List.getElem?_set_self (by omega), List.take_set_of_le (Nat.le_refl _)]
    simp
theorem turn_eq (p : Int) (xs : List Int) (hl : xs.length ≤ 1000) (hx : ∀ x ∈ xs, -128 ≤ x ∧ x ≤ 127) (k : Nat) (hk : 1100 < k) :
    rope_Turn.f k p xs = some (if xs.length % 2 = 0 then (if p < 0 ∨ p > 1048576 then ([], 2) else (turnL p 0 xs, 0)) else ([], 30)) := by
  unfold rope_Turn.f
  by_cases h2 : xs.length % 2 = 0
  · rw [if_pos (by omega), if_pos h2]
    by_cases c1 : p < 0
    · rw [if_pos c1, if_pos (by omega)]
    rw [if_neg c1]
    by_cases c2 : p > 1048576
    · rw [if_pos c2, if_pos (by omega)]
    rw [if_neg c2, if_neg (show ¬ (p < 0 ∨ p > 1048576) by omega), if_pos (by omega), if_pos (by omega)]
    have := turn_loop p xs (by omega) hx (xs.length / 2) k 0 (List.replicate xs.length 0) (by omega) (by omega) (by simp) rfl
    simpa using this
  · rw [if_neg (by omega), if_neg h2]

theorem bytes_loop (a b : List Int) (ha : a.length ≤ 9223372036854775807) (hab : a.length = b.length) : ∀ (d k i : Nat), i + d = a.length → d < k →
    pelotonref04_Bytes.l0 k a b i = some (decide (a.drop i = b.drop i)) := by
  intro d
  induction d with
  | zero =>
    intro k i hi hk
    obtain ⟨k, rfl⟩ : ∃ m, k = m + 1 := ⟨k - 1, by omega⟩
    simp only [pelotonref04_Bytes.l0]
    rw [if_neg (by omega), List.drop_of_length_le (by omega), List.drop_of_length_le (by omega)]; simp
  | succ d ih =>
    intro k i hi hk
    obtain ⟨k, rfl⟩ : ∃ m, k = m + 1 := ⟨k - 1, by omega⟩
    simp only [pelotonref04_Bytes.l0]
    rw [if_pos (by omega), if_pos (by omega), if_pos (by omega), next i _ (show i < a.length by omega) ha, ih k (i + 1) (by omega) (by omega), drop_cons a i (by omega), drop_cons b i (by omega)]
    by_cases hc : rd a (i : Int) = rd b (i : Int)
    · rw [if_pos hc]; simp [hc]
    · rw [if_neg hc]; simp [hc]
theorem bytes_eq (a b : List Int) (ha : a.length ≤ 9223372036854775807) (k : Nat) (hk : a.length < k) : pelotonref04_Bytes.f k a b = some (decide (a = b)) := by
  unfold pelotonref04_Bytes.f
  by_cases h : (a.length : Int) = b.length
  · rw [if_pos h]
    have := bytes_loop a b ha (by omega) a.length k 0 (by omega) hk
    simpa using this
  · rw [if_neg h, decide_eq_false (fun e => h (by rw [e]))]

def sq (f : Nat) : Int := sv (f : Int) * sv (f : Int) + sv ((16384 - f : Nat) : Int) * sv ((16384 - f : Nat) : Int) - 268435456
def sqOk (f : Nat) : Bool := decide (sq f < 1048576) && decide (-1048576 < sq f)
/-- all numbers from a on, 2 ^ n of them -/
def allOk (p : Nat → Bool) : Nat → Nat → Bool
  | 0, a => p a
  | n + 1, a => allOk p n a && allOk p n (a + 2 ^ n)
theorem allOk_of (p : Nat → Bool) : ∀ (n a i : Nat), allOk p n a = true → a ≤ i → i < a + 2 ^ n → p i = true := by
  intro n
  induction n with
  | zero => intro a i h h0 h1; simp only [allOk] at h; obtain rfl : i = a := by simp at h1; omega
            exact h
  | succ n ih =>
    intro a i h h0 h1
    simp only [allOk, Bool.and_eq_true] at h
    by_cases hc : i < a + 2 ^ n
    · exact ih a i h.1 h0 hc
    · exact ih (a + 2 ^ n) i h.2 (by omega) (by rw [Nat.pow_succ] at h1; omega)
theorem sq_half : allOk sqOk 13 0 = true := by decide +kernel
theorem sq_mid : sqOk 8192 = true := by decide +kernel
theorem sq_all (f : Nat) (h : f ≤ 16384) : sqOk f = true := by
  have half : ∀ g : Nat, g ≤ 8192 → sqOk g = true := by
    intro g hg
    by_cases he : g = 8192
    · subst he; exact sq_mid
    · exact allOk_of sqOk 13 0 g sq_half (by omega) (by omega)
  by_cases hc : f ≤ 8192
  · exact half f hc
  · have := half (16384 - f) (by omega)
    unfold sqOk sq at this ⊢
    rw [show 16384 - (16384 - f) = f by omega] at this
    rw [show sv (f : Int) * sv (f : Int) + sv ((16384 - f : Nat) : Int) * sv ((16384 - f : Nat) : Int) = sv ((16384 - f : Nat) : Int) * sv ((16384 - f : Nat) : Int) + sv (f : Int) * sv (f : Int) from Int.add_comm _ _]
    exact this
theorem sinN_sq (n : Int) : sinN n * sinN n = sv (foldG n) * sv (foldG n) := by
  unfold sinN; split
  · rw [Int.neg_mul_neg]
  · rfl
theorem foldG_next (n : Int) (h0 : 0 ≤ n) (h1 : n < 65536) : foldG ((n + 16384) % 65536) = 16384 - foldG n := by
  unfold foldG; (repeat' split) <;> omega
theorem near_circle (a : Int) : sinI a * sinI a + cosI a * cosI a - 268435456 < 1048576 ∧ -1048576 < sinI a * sinI a + cosI a * cosI a - 268435456 := by
  unfold cosI sinI
  rw [show (a + 16384) % 65536 = (a % 65536 + 16384) % 65536 by omega]
  have hn : 0 ≤ a % 65536 ∧ a % 65536 < 65536 := by omega
  generalize a % 65536 = n at *
  rw [sinN_sq, sinN_sq, foldG_next n hn.1 hn.2]
  have hf := foldG_b n
  generalize foldG n = g at *
  have := sq_all g.toNat (by omega)
  unfold sqOk sq at this
  rw [show ((g.toNat : Nat) : Int) = g by omega, show ((16384 - g.toNat : Nat) : Int) = 16384 - g by omega] at this
  simp only [Bool.and_eq_true, decide_eq_true_eq] at this
  exact this
theorem sv_0 : sv 0 = 0 := by decide +kernel
theorem sinI_turn (a : Int) : sinI (a + 65536) = sinI a := by unfold sinI; rw [show (a + 65536) % 65536 = a % 65536 by omega]
theorem sinI_neg (a : Int) : sinI (-a) = - sinI a := by
  unfold sinI
  rw [show (-a) % 65536 = (65536 - a % 65536) % 65536 by omega]
  have hn : 0 ≤ a % 65536 ∧ a % 65536 < 65536 := by omega
  generalize a % 65536 = n at *
  by_cases hz : n = 0 ∨ n = 32768
  · have e1 : foldG n = 0 := by unfold foldG; split <;> omega
    have e2 : foldG ((65536 - n) % 65536) = 0 := by unfold foldG; split <;> omega
    unfold sinN; rw [e1, e2, sv_0]; simp
  · have e : foldG ((65536 - n) % 65536) = foldG n := by unfold foldG; (repeat' split) <;> omega
    unfold sinN; rw [e]
    split <;> split <;> omega
theorem cosI_neg (a : Int) : cosI (-a) = cosI a := by
  unfold cosI sinI
  rw [show (-a + 16384) % 65536 = (81920 - a % 65536) % 65536 by omega, show (a + 16384) % 65536 = (a % 65536 + 16384) % 65536 by omega]
  have hn : 0 ≤ a % 65536 ∧ a % 65536 < 65536 := by omega
  generalize a % 65536 = n at *
  have e : foldG ((81920 - n) % 65536) = foldG ((n + 16384) % 65536) := by unfold foldG; (repeat' split) <;> omega
  by_cases hz : n = 16384 ∨ n = 49152
  · have e1 : foldG ((n + 16384) % 65536) = 0 := by unfold foldG; split <;> omega
    unfold sinN; rw [e, e1, sv_0]; simp
  · unfold sinN; rw [e]
    split <;> split <;> omega
theorem sqn (z : Int) : 0 ≤ z * z := by rw [← Int.natAbs_mul_self]; exact Int.natCast_nonneg _

theorem sin_0 : sinI 0 = 0 := by decide +kernel
theorem cos_0 : cosI 0 = 16384 := by decide +kernel
theorem turn0 : ∀ (n i : Nat) (l : List Int), l.length = 2 * n → (∀ x ∈ l, -128 ≤ x ∧ x ≤ 127) → turnL 0 i l = l := by
  intro n
  induction n with
  | zero => intro i l h _; match l, h with | [], _ => rfl
  | succ n ih =>
    intro i l h hx
    match l, h, hx with
    | x :: y :: l, h, hx =>
      have hz : ∀ j : Int, angI 0 j = 0 := by intro j; unfold angI; split <;> simp
      have b1 := hx x (by simp); have b2 := hx y (by simp)
      simp only [turnL]
      rw [ih (i + 2) l (by simp only [List.length_cons] at h; omega) (fun z hz => hx z (by simp [hz]))]
      unfold tA tB
      rw [hz, sin_0, cos_0, sh_shd, sh_shd, show x * 16384 - y * 0 = x * 2 ^ 14 by omega, show x * 0 + y * 16384 = y * 2 ^ 14 by omega, shd_mul _ _ (by decide), shd_mul _ _ (by decide), clamp_id _ _ _ b1.1 b1.2, clamp_id _ _ _ b2.1 b2.2]

theorem RopeCircles : pelotonlaw06_RopeCircles.Pure := by
  intro a xs h0 h1
  obtain ⟨hm, hw⟩ := h1
  have hx : ∀ x ∈ xs, -128 ≤ x ∧ x ≤ 127 := fun x hx => wf8 (hw x hx)
  refine ⟨2002, ?_⟩
  have hA : pelotonlaw06_RopeCircles.j0 2002 a xs true = some true := by
    simp only [pelotonlaw06_RopeCircles.j0, if_true]
    rw [awake06_ok 2001 (by omega)]; rfl
  unfold pelotonlaw06_RopeCircles.f
  rw [awake06_ok 2002 (by omega)]
  simp only [Option.bind_some, if_true]
  by_cases hl : (xs.length : Int) > 300
  · rw [if_pos hl]; exact hA
  rw [if_neg hl]
  by_cases h2 : (xs.length : Int) % 2 = 0
  · rw [h2]
    simp only [bne_self_eq_false, pelotonlaw06_RopeCircles.j0, Bool.false_eq_true, if_false]
    have hb : -1000000 < Int.tmod a 1000000 ∧ Int.tmod a 1000000 < 1000000 := by
      rw [Int.tmod_eq_emod]; split <;> omega
    generalize Int.tmod a 1000000 = b at *
    rw [sin_eq _ (by omega), Option.bind_some, cos_eq _ (by omega), Option.bind_some, turn_eq 0 xs (by omega) hx 2001 (by omega), Option.bind_some]
    rw [if_pos (show xs.length % 2 = 0 by omega), if_neg (show ¬ ((0 : Int) < 0 ∨ (0 : Int) > 1048576) by omega), turn0 (xs.length / 2) 0 xs (by omega) hx]
    have hc := near_circle b
    have hs1 := sinI_b b
    have hs2 := cosI_b b
    have m1 : 0 ≤ sinI b * sinI b ∧ sinI b * sinI b ≤ 100000000000000 := by
      have h := Int.natAbs_mul (sinI b) (sinI b)
      have h1 : (sinI b).natAbs ≤ 10000000 := by omega
      have h3 : (sinI b).natAbs * (sinI b).natAbs ≤ 10000000 * 10000000 := Nat.mul_le_mul h1 h1
      have h4 : 0 ≤ sinI b * sinI b := sqn _
      omega
    have m2 : 0 ≤ cosI b * cosI b ∧ cosI b * cosI b ≤ 100000000000000 := by
      have h := Int.natAbs_mul (cosI b) (cosI b)
      have h1 : (cosI b).natAbs ≤ 10000000 := by omega
      have h3 : (cosI b).natAbs * (cosI b).natAbs ≤ 10000000 * 10000000 := Nat.mul_le_mul h1 h1
      have h4 : 0 ≤ cosI b * cosI b := sqn _
      omega
    rw [wrap64_wf (sinI b) (by omega) (by omega), wrap64_wf (cosI b) (by omega) (by omega), wrap64_wf (sinI b * sinI b) (by omega) (by omega), wrap64_wf (cosI b * cosI b) (by omega) (by omega),
      wrap64_wf (sinI b * sinI b + cosI b * cosI b) (by omega) (by omega), wrap64_wf (sinI b * sinI b + cosI b * cosI b - 268435456) (by omega) (by omega), if_pos hc.1, if_pos hc.2,
      wrap64_wf (b + 65536) (by omega) (by omega), wrap64_wf (-b) (by omega) (by omega), sin_eq _ (by omega), Option.bind_some, sinI_turn, wrap32_wf (sinI b) (by omega) (by omega), if_pos rfl, sin_eq _ (by omega), Option.bind_some,
      sinI_neg, wrap64_wf (-sinI b) (by omega) (by omega), wrap32_wf (-sinI b) (by omega) (by omega), if_pos rfl, cos_eq _ (by omega), Option.bind_some, cosI_neg, wrap32_wf (cosI b) (by omega) (by omega), if_pos rfl, if_pos rfl]
    dsimp only
    rw [bytes_eq xs xs (by omega) 2001 (by omega)]
    simp
  · rw [bne_iff_ne.2 h2]; exact hA

theorem turnL_rd (p : Int) : ∀ (n i j : Nat) (l : List Int), l.length = 2 * n → j < n →
    rd (turnL p i l) ((2 * j : Nat) : Int) = tA p (((i + 2 * j) / 2 : Nat) : Int) (rd l ((2 * j : Nat) : Int)) (rd l ((2 * j + 1 : Nat) : Int)) ∧
    rd (turnL p i l) ((2 * j + 1 : Nat) : Int) = tB p (((i + 2 * j) / 2 : Nat) : Int) (rd l ((2 * j : Nat) : Int)) (rd l ((2 * j + 1 : Nat) : Int)) := by
  intro n
  induction n with
  | zero => intro i j l h hj; omega
  | succ n ih =>
    intro i j l h hj
    match l, h with
    | x :: y :: l, h =>
      have hl : l.length = 2 * n := by simp only [List.length_cons] at h; omega
      simp only [turnL]
      cases j with
      | zero => exact ⟨rfl, rfl⟩
      | succ j =>
        have := ih (i + 2) j l hl (by omega)
        have e : ∀ (u v : Int) (m : List Int) (q : Nat), rd (u :: v :: m) ((q + 2 : Nat) : Int) = rd m ((q : Nat) : Int) := fun u v m q => by unfold rd; rw [Int.toNat_natCast, Int.toNat_natCast]; rfl
        rw [show 2 * (j + 1) = 2 * j + 2 by omega, show 2 * j + 2 + 1 = (2 * j + 1) + 2 by omega, e, e, e, e, show i + (2 * j + 2) = i + 2 + 2 * j by omega]
        exact this

end Go.Proofs.Ytplndicghohpbaa.Pure
