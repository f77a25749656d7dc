/- MatmulNarrows: the law's plain part: what its functions compute answers true, for all arguments of its types. No condition beside the given bounds. -/
import Derived.Test.YtananmepljeldaaQMatmulNarrowsx5
import Derived.Test.YtananmepljeldaaMath
namespace Go.Proofs.Ytananmepljeldaa.Pure
open Go.RowKit Go.Proofs.Ytananmepljeldaa.QMatmulNarrows Go.Proofs.YtananmepljeldaaW.PrintWords Go.Proofs.YtananmepljeldaaW.PrintLast Go.Proofs.YtananmepljeldaaW.PrintMore Go.PelMath
set_option linter.unusedVariables false
set_option linter.unusedSimpArgs false
theorem wf64 {x : Int} (h : (Lit.int .i64 x).wf = true) : -9223372036854775808 ≤ x ∧ x ≤ 9223372036854775807 := by
  simp [Lit.wf, IntKind.min, IntKind.max, IntKind.bits, IntKind.signed] at h; omega
theorem wf32 {x : Int} (h : (Lit.int .i32 x).wf = true) : -2147483648 ≤ x ∧ x ≤ 2147483647 := by
  simp [Lit.wf, IntKind.min, IntKind.max, IntKind.bits, IntKind.signed] at h; omega
theorem wf8 {x : Int} (h : (Lit.int .i8 x).wf = true) : -128 ≤ x ∧ x ≤ 127 := by
  simp [Lit.wf, IntKind.min, IntKind.max, IntKind.bits, IntKind.signed] at h; omega

def nn (n : Int) : Nat := (mn (mx n 0) 62).toNat
theorem nn_le (n : Int) : nn n ≤ 62 := by unfold nn mn mx; (repeat' split) <;> omega
theorem nn_of (n : Int) (h0 : 0 ≤ n) (h1 : n ≤ 62) : nn n = n.toNat := by unfold nn mn mx; (repeat' split) <;> omega

theorem and_mask (x : Int) (n : Nat) (h : n ≤ 62) : Go.bits .and .u64 (IntKind.u64.wrap x) (2 ^ n - 1) = x % 2 ^ n := by
  have hw : ∀ y : Int, IntKind.u64.wrap y = y % 18446744073709551616 := by intro y; simp [IntKind.wrap, IntKind.bits, IntKind.signed]
  rw [bits_mask .u64 64 (by decide) (by intro y h0 h1; rw [hw]; omega) n (by omega) _ (by rw [hw]; omega) (by rw [hw]; omega), hw]
  have hd : ((2 : Int) ^ n) ∣ 18446744073709551616 := ⟨2 ^ (64 - n), by rw [← Int.pow_add]; rw [show n + (64 - n) = 64 by omega]; rfl⟩
  exact Int.emod_emod_of_dvd x hd
theorem and_one (x : Int) (h0 : -9223372036854775808 ≤ x) (h1 : x ≤ 9223372036854775807) : Go.bits .and .i64 x 1 = x % 2 := by
  have e : bits .and .i64 x 1 = IntKind.i64.wrap (((BitVec.ofInt 64 x &&& BitVec.ofInt 64 1).toNat : Nat) : Int) := rfl
  rw [e, BitVec.toNat_and, BitVec.toNat_ofInt, BitVec.toNat_ofInt]
  have e1 : (((1 : Int) % ((2 ^ 64 : Nat) : Int)).toNat) = 1 := by decide
  rw [e1, Nat.and_one_is_mod, IntKind.wrap_i64]
  omega
theorem shift_eq (x n : Int) (h0 : -9223372036854775808 ≤ x) (h1 : x ≤ 9223372036854775807) : round_Shift.f x n = some (sh x (nn n)) := by
  have hn := nn_le n
  have hp := pow_pos' (nn n); have hq := pow_le62 (nn n) hn
  have hw : IntKind.u64.wrap (2 ^ nn n) = 2 ^ nn n := by
    have : ∀ y : Int, IntKind.u64.wrap y = y % 18446744073709551616 := by intro y; simp [IntKind.wrap, IntKind.bits, IntKind.signed]
    rw [this]; omega
  have hw1 : IntKind.u64.wrap (2 ^ nn n - 1) = 2 ^ nn n - 1 := by
    have : ∀ y : Int, IntKind.u64.wrap y = y % 18446744073709551616 := by intro y; simp [IntKind.wrap, IntKind.bits, IntKind.signed]
    rw [this]; omega
  unfold round_Shift.f
  simp only [show (mn (mx n 0) 62).toNat = nn n from rfl]
  have hm : mn (mx n 0) 62 = (nn n : Int) := by unfold nn mn mx; (repeat' split) <;> omega
  rw [hw]; try rw [hw1]
  rw [and_mask x _ hn, hm]
  have hpart := parts x (2 ^ nn n) hp
  obtain ⟨q, r, hx, g0, g1, e1, e2⟩ := hpart
  have hqb : -9223372036854775808 ≤ q ∧ q ≤ 9223372036854775807 ∧ (2 ≤ (2 : Int) ^ nn n → q < 9223372036854775807) := by
    have hlo : -9223372036854775808 ≤ x / 2 ^ nn n := by
      apply Int.le_ediv_of_mul_le hp
      have : (-9223372036854775808 : Int) * 2 ^ nn n ≤ -9223372036854775808 * 1 := Int.mul_le_mul_of_nonpos_left (by omega) (by omega)
      omega
    refine ⟨by omega, ?_, ?_⟩
    · rw [← e1]; apply Int.ediv_le_of_le_mul hp; 
      have : (9223372036854775807 : Int) * 1 ≤ 9223372036854775807 * 2 ^ nn n := Int.mul_le_mul_of_nonneg_left (by omega) (by omega)
      omega
    · intro h2
      rw [← e1]; apply Int.ediv_lt_of_lt_mul hp
      have : (9223372036854775807 : Int) * 2 ≤ 9223372036854775807 * 2 ^ nn n := Int.mul_le_mul_of_nonneg_left (by omega) (by omega)
      omega
  unfold sh; rw [e1, e2, and_one q (by omega) (by omega)]
  by_cases hz : nn n = 0
  · rw [hz] at g1 ⊢
    simp only [Int.pow_zero] at g1 ⊢
    have : r = 0 := by omega
    subst this; simp
  · obtain ⟨hh, he, hh0⟩ := pow_even (nn n) (by omega)
    rw [he] at g1 hqb ⊢
    have h2 := hqb.2.2 (by omega)
    have hwr : wrap64 (q + 1) = q + 1 := wrap64_wf _ (by omega) (by omega)
    rw [hwr, show (2 * hh) / 2 = hh by omega]
    have hnz : ((nn n : Nat) : Int) > 0 := by omega
    by_cases c1 : r > hh
    · rw [if_pos c1, if_pos (by omega)]
    · rw [if_neg c1]
      by_cases c2 : r = hh
      · rw [if_pos c2, if_pos hnz]
        by_cases c3 : q % 2 = 1
        · rw [if_pos c3, if_pos (by omega)]
        · rw [if_neg c3, if_neg (by omega)]
      · rw [if_neg c2, if_neg (by omega)]
theorem sh_range (x : Int) (n : Nat) (h0 : -9223372036854775808 ≤ x) (h1 : x ≤ 9223372036854775807) : -9223372036854775808 ≤ sh x n ∧ sh x n ≤ 9223372036854775807 := by
  by_cases hz : n = 0
  · rw [hz, sh_zero]; omega
  · have hp := pow_pos' n
    obtain ⟨hh, he, hh0⟩ := pow_even n (by omega)
    rw [sh_shd]
    have hm1 := shd_mono x 9223372036854775807 (2 ^ n) hp h1
    have hm2 := shd_mono (-9223372036854775808) x (2 ^ n) hp h0
    have e1 := shd_mono 9223372036854775807 (9223372036854775807 * 2 ^ n) (2 ^ n) hp (by
      have : (9223372036854775807 : Int) * 1 ≤ 9223372036854775807 * 2 ^ n := Int.mul_le_mul_of_nonneg_left (by omega) (by omega)
      omega)
    have e2 := shd_mono (-9223372036854775808 * 2 ^ n) (-9223372036854775808) (2 ^ n) hp (by
      have : (-9223372036854775808 : Int) * 2 ^ n ≤ -9223372036854775808 * 1 := Int.mul_le_mul_of_nonpos_left (by omega) (by omega)
      omega)
    rw [shd_mul _ _ hp] at e1 e2
    omega

theorem refshift_loop (x : Int) (h0 : -9223372036854775808 ≤ x) (h1 : x ≤ 9223372036854775807) (n : Nat) (hn : n ≤ 62) : ∀ (d k i : Nat), i + d = n → d < k →
    pelotonref01_Shift.l0 k x n (2 ^ i) i = if n = 0 then pelotonref01_Shift.l0 k x n (2 ^ i) i else some (sh x n) := by
  intro d
  induction d with
  | zero =>
    intro k i hi hk
    by_cases hz : n = 0
    · rw [if_pos hz]
    rw [if_neg hz]
    obtain ⟨k, rfl⟩ : ∃ m, k = m + 1 := ⟨k - 1, by omega⟩
    obtain rfl : i = n := by omega
    have hp := pow_pos' i; have hq := pow_le62 i hn
    obtain ⟨q, r, hx, g0, g1, e1, e2⟩ := parts x (2 ^ i) hp
    obtain ⟨hh, he, hh0⟩ := pow_even i (by omega)
    have hqb : -9223372036854775808 ≤ 2 * q ∧ 2 * q ≤ 9223372036854775807 := by
      rw [he] at hx e1
      have hlo : -4611686018427387904 ≤ x / (2 * hh) := by
        apply Int.le_ediv_of_mul_le (by omega)
        have : (-4611686018427387904 : Int) * (2 * hh) ≤ -4611686018427387904 * 2 := Int.mul_le_mul_of_nonpos_left (by omega) (by omega)
        omega
      have hhi : x / (2 * hh) < 4611686018427387904 := by
        apply Int.ediv_lt_of_lt_mul (by omega)
        have : (4611686018427387904 : Int) * 2 ≤ 4611686018427387904 * (2 * hh) := Int.mul_le_mul_of_nonneg_left (by omega) (by omega)
        omega
      omega
    have ht := tdiv_parts x (2 ^ i) q r hx g0 g1
    simp only [pelotonref01_Shift.l0]
    rw [if_neg (by omega), if_neg (by omega)]
    unfold sh; rw [e1, e2]
    rw [he] at ht g1 ⊢
    by_cases hs : 0 ≤ x ∨ r = 0
    · obtain ⟨t1, t2⟩ := ht.1 hs
      rw [t1, t2]
      have w1 : wrap64 q = q := wrap64_wf _ (by omega) (by omega)
      have w2 : wrap64 (q + 1) = q + 1 := wrap64_wf _ (by omega) (by omega)
      have w3 : wrap64 (2 * hh - r) = 2 * hh - r := wrap64_wf _ (by omega) (by omega)
      rw [w1, w2, w3, if_neg (by omega)]
      have hm : Int.tmod q 2 = 0 ↔ q % 2 = 0 := by rw [Int.tmod_eq_emod]; split <;> omega
      by_cases c1 : r > 2 * hh - r
      · rw [if_pos c1, if_pos (by omega)]
      · rw [if_neg c1]
        by_cases c2 : r = 2 * hh - r
        · rw [if_pos c2]
          by_cases c3 : q % 2 = 0
          · rw [if_pos (hm.2 c3), if_neg (by omega)]
          · rw [if_neg (fun h => c3 (hm.1 h)), if_pos (by omega)]
        · rw [if_neg c2, if_neg (by omega)]
    · obtain ⟨t1, t2⟩ := ht.2 (by omega) (by omega)
      rw [t1, t2]
      have w1 : wrap64 (q + 1) = q + 1 := wrap64_wf _ (by omega) (by omega)
      have w4 : wrap64 (r - 2 * hh + 2 * hh) = r := by rw [show r - 2 * hh + 2 * hh = r by omega]; exact wrap64_wf _ (by omega) (by omega)
      have w5 : wrap64 (q + 1 - 1) = q := by rw [show q + 1 - 1 = q by omega]; exact wrap64_wf _ (by omega) (by omega)
      have w3 : wrap64 (2 * hh - r) = 2 * hh - r := wrap64_wf _ (by omega) (by omega)
      rw [w4, w1, w5, w1, w3, if_pos (by omega)]
      have hm : Int.tmod q 2 = 0 ↔ q % 2 = 0 := by rw [Int.tmod_eq_emod]; split <;> omega
      by_cases c1 : r > 2 * hh - r
      · rw [if_pos c1, if_pos (by omega)]
      · rw [if_neg c1]
        by_cases c2 : r = 2 * hh - r
        · rw [if_pos c2]
          by_cases c3 : q % 2 = 0
          · rw [if_pos (hm.2 c3), if_neg (by omega)]
          · rw [if_neg (fun h => c3 (hm.1 h)), if_pos (by omega)]
        · rw [if_neg c2, if_neg (by omega)]
  | succ d ih =>
    intro k i hi hk
    by_cases hz : n = 0
    · rw [if_pos hz]
    rw [if_neg hz]
    obtain ⟨k, rfl⟩ : ∃ m, k = m + 1 := ⟨k - 1, by omega⟩
    have hp := pow_pos' i; have hq := pow_le62 (i + 1) (by omega)
    simp only [pelotonref01_Shift.l0]
    rw [if_pos (by omega), show wrap64 (2 ^ i * 2) = 2 ^ (i + 1) by rw [Int.pow_succ] at hq ⊢; exact wrap64_wf _ (by omega) (by omega),
      show wrap64 ((i : Int) + 1) = ((i + 1 : Nat) : Int) by rw [wrap64_wf _ (by omega) (by omega)]; omega, ih k (i + 1) (by omega) (by omega), if_neg hz]
theorem refshift_eq (k : Nat) (hk : 70 ≤ k) (x n : Int) (h0 : -9223372036854775808 ≤ x) (h1 : x ≤ 9223372036854775807) : pelotonref01_Shift.f k x n = some (sh x (nn n)) := by
  obtain ⟨k, rfl⟩ : ∃ m, k = m + 1 := ⟨k - 1, by omega⟩
  have key : ∀ m : Int, m ≤ 62 → pelotonref01_Shift.j0 (k + 1) x m = some (sh x (nn m)) := by
    intro m hm
    simp only [pelotonref01_Shift.j0]
    by_cases hz : m ≤ 0
    · rw [if_pos hz, show nn m = 0 by unfold nn mn mx; (repeat' split) <;> omega, sh_zero]
    · rw [if_neg hz]
      have := refshift_loop x h0 h1 m.toNat (by omega) m.toNat k 0 (by omega) (by omega)
      rw [if_neg (by omega), show ((m.toNat : Nat) : Int) = m by omega] at this
      rw [nn_of m (by omega) hm]
      exact this
  unfold pelotonref01_Shift.f
  by_cases hc : n > 62
  · rw [if_pos hc, key 62 (by omega), show nn 62 = nn n by unfold nn mn mx; (repeat' split) <;> omega]
  · rw [if_neg hc, key n (by omega)]

def clamp (x a b : Int) : Int := if x < a then a else if b < x then b else x
theorem clamp_range (x a b : Int) (h : a ≤ b) : a ≤ clamp x a b ∧ clamp x a b ≤ b := by unfold clamp; (repeat' split) <;> omega
theorem clamp_mono (x y a b : Int) (h : a ≤ b) (hxy : x ≤ y) : clamp x a b ≤ clamp y a b := by unfold clamp; (repeat' split) <;> omega
theorem clamp_id (x a b : Int) (h0 : a ≤ x) (h1 : x ≤ b) : clamp x a b = x := by unfold clamp; (repeat' split) <;> omega

theorem near_eq (x a b : Int) : pelotonref01_Near.f x a b = some (clamp x a b) := by
  unfold pelotonref01_Near.f clamp; (repeat' split) <;> first | rfl | omega

theorem sat8_eq (x : Int) : round_Sat8.f x = some (clamp x (-128) 127) := by
  unfold round_Sat8.f round_near_int8.f mn mx clamp
  simp only [Option.bind_some, Option.some.injEq]
  have hw : ∀ y : Int, -128 ≤ y → y ≤ 127 → IntKind.i8.wrap y = y := by
    intro y a b; simp [IntKind.wrap, IntKind.bits, IntKind.signed]; split <;> omega
  (repeat' split) <;> first | rfl | omega | (exact hw _ (by omega) (by omega)) | (rw [hw _ (by omega) (by omega)]; omega)

theorem mul32 (x y : Int) (hx : -2147483648 ≤ x ∧ x ≤ 2147483647) (hy : -2147483648 ≤ y ∧ y ≤ 2147483647) : -4611686018427387904 ≤ x * y ∧ x * y ≤ 4611686018427387904 := by
  have h := Int.natAbs_mul x y
  have h1 : x.natAbs ≤ 2147483648 := by omega
  have h2 : y.natAbs ≤ 2147483648 := by omega
  have h3 : x.natAbs * y.natAbs ≤ 2147483648 * 2147483648 := Nat.mul_le_mul h1 h2
  omega

theorem wrap32_range (x : Int) : -2147483648 ≤ wrap32 x ∧ wrap32 x ≤ 2147483647 := by unfold wrap32; omega
theorem wrap32_0 : wrap32 0 = 0 := by unfold wrap32; omega
theorem rd_nat (l : List Int) (i : Nat) (h : i < l.length) : rd l (i : Int) = l[i] := by
  unfold rd; simp [List.getD, h]
theorem drop_cons (l : List Int) (i : Nat) (h : i < l.length) : l.drop i = rd l (i : Int) :: l.drop (i + 1) := by
  rw [rd_nat l i h, List.drop_eq_getElem_cons h]
theorem rd_mem (l : List Int) (i : Nat) (h : i < l.length) : rd l (i : Int) ∈ l := by rw [rd_nat l i h]; exact List.getElem_mem h
theorem next (i n : Nat) (h : i < n) (hn : n ≤ 9223372036854775807) : wrap64 ((i : Int) + 1) = ((i + 1 : Nat) : Int) := by
  rw [wrap64_wf _ (by omega) (by omega)]; omega

def dotI : List Int → List Int → Int
  | x :: a, y :: b => x * y + dotI a b
  | _, _ => 0
def prods : List Int → List Int → List Int
  | x :: a, y :: b => x * y :: prods a b
  | _, _ => []
theorem dotI_nil (a : List Int) : dotI a [] = 0 := by cases a <;> rfl
theorem tot_prods (a : List Int) : ∀ b, tot (prods a b) = dotI a b := by
  induction a with
  | nil => intro b; rfl
  | cons x a ih => intro b; cases b with
    | nil => rfl
    | cons y b => simp only [prods, tot, dotI, ih]
theorem prods_length (a : List Int) : ∀ b, (prods a b).length ≤ a.length := by
  induction a with
  | nil => intro b; simp [prods]
  | cons x a ih => intro b; cases b with
    | nil => simp [prods]
    | cons y b => simp only [prods, List.length_cons]; have := ih b; omega

theorem dotI_split (a : List Int) : ∀ (b : List Int) (k n : Nat), k ≤ n → n = min a.length b.length →
    dotI a b = dotI (a.take k) (b.take k) + dotI ((a.take n).drop k) ((b.take n).drop k) := by
  induction a with
  | nil => intro b k n h hn; simp [dotI]
  | cons x a ih =>
    intro b k n h hn
    cases b with
    | nil => simp [dotI_nil]
    | cons y b =>
      simp only [List.length_cons] at hn
      obtain ⟨n, rfl⟩ : ∃ m, n = m + 1 := ⟨n - 1, by omega⟩
      cases k with
      | zero =>
        have := ih b 0 n (by omega) (by omega)
        simp only [List.take_zero, List.drop_zero, dotI, Int.zero_add, List.take_succ_cons] at this ⊢
        rw [this]
      | succ k =>
        have := ih b k n (by omega) (by omega)
        simp only [List.take_succ_cons, List.drop_succ_cons, dotI]
        rw [this]; omega

theorem rest9 (n : Int) (h : -9223372036854775808 ≤ n ∧ n ≤ 9223372036854775807) : ∃ m : Nat, Int.tmod (wrap64 (Int.tmod n 9 + 9)) 9 = m ∧ m ≤ 8 := by
  have h1 := Int.tmod_lt_of_pos n (show (0 : Int) < 9 by omega)
  have h2 := Int.lt_tmod_of_pos n (show (0 : Int) < 9 by omega)
  rw [wrap64_wf _ (by omega) (by omega), Int.tmod_eq_emod_of_nonneg (by omega)]
  exact ⟨((Int.tmod n 9 + 9) % 9).toNat, by omega, by omega⟩

theorem dot_loop (a b : List Int) (ha : a.length ≤ 9223372036854775807) (hw : ∀ x ∈ a, -128 ≤ x ∧ x ≤ 127) (hv : ∀ x ∈ b, -128 ≤ x ∧ x ≤ 127) : ∀ (d k i : Nat) (s : Int), i + d = min a.length b.length → d < k →
    round_Dot.l0 k a b (wrap32 s) (min a.length b.length : Nat) i = some (wrap32 (s + dotI (a.drop i) (b.drop i))) := by
  intro d
  induction d with
  | zero =>
    intro k i s hi hk
    obtain ⟨k, rfl⟩ : ∃ m, k = m + 1 := ⟨k - 1, by omega⟩
    simp only [round_Dot.l0]
    rw [if_neg (by omega)]
    by_cases hc : i < a.length
    · rw [List.drop_of_length_le (l := b) (by omega), dotI_nil]; simp
    · rw [List.drop_of_length_le (l := a) (by omega)]; simp [dotI]
  | succ d ih =>
    intro k i s hi hk
    obtain ⟨k, rfl⟩ : ∃ m, k = m + 1 := ⟨k - 1, by omega⟩
    have hr := hw _ (rd_mem a i (by omega)); have hq := hv _ (rd_mem b i (by omega))
    simp only [round_Dot.l0]
    rw [if_pos (by omega), if_pos (by omega), if_pos (by omega), if_pos (by omega), next i _ (show i < a.length by omega) ha,
      wrap32_wf (rd a (i : Int)) (by omega) (by omega), wrap32_wf (rd b (i : Int)) (by omega) (by omega), wrap32_add_left, wrap32_add_right, ih k (i + 1) _ (by omega) (by omega), drop_cons a i (by omega), drop_cons b i (by omega)]
    simp only [dotI]
    rw [Int.add_assoc]
theorem dot_eq (a b : List Int) (ha : a.length ≤ 9223372036854775807) (hw : ∀ x ∈ a, -128 ≤ x ∧ x ≤ 127) (hv : ∀ x ∈ b, -128 ≤ x ∧ x ≤ 127) (k : Nat) (hk : a.length < k) : round_Dot.f k a b = some (wrap32 (dotI a b)) := by
  unfold round_Dot.f
  rw [show mn (a.length : Int) (b.length : Int) = ((min a.length b.length : Nat) : Int) by unfold mn; split <;> omega]
  have := dot_loop a b ha hw hv (min a.length b.length) k 0 0 (by omega) (by omega)
  rw [wrap32_0] at this; simpa using this

theorem quant_eq (x y n : Int) (hx : -2147483648 ≤ x ∧ x ≤ 2147483647) (hy : -2147483648 ≤ y ∧ y ≤ 2147483647) : round_Quant.f x y n = some (clamp (sh (x * y) (nn n)) (-128) 127) := by
  have hp := mul32 x y hx hy
  unfold round_Quant.f
  rw [wrap64_wf x (by omega) (by omega), wrap64_wf y (by omega) (by omega), wrap64_wf (x * y) (by omega) (by omega), shift_eq _ n (by omega) (by omega), Option.bind_some, sat8_eq, Option.bind_some]

theorem refscale_eq (k : Nat) (hk : 70 ≤ k) (x y n a b : Int) (hx : -2147483648 ≤ x ∧ x ≤ 2147483647) (hy : -2147483648 ≤ y ∧ y ≤ 2147483647) : pelotonref01_Scale.f k x y n a b = some (clamp (sh (x * y) (nn n)) a b) := by
  have hp := mul32 x y hx hy
  unfold pelotonref01_Scale.f
  rw [wrap64_wf x (by omega) (by omega), wrap64_wf y (by omega) (by omega), wrap64_wf (x * y) (by omega) (by omega), refshift_eq k hk _ n (by omega) (by omega), Option.bind_some, near_eq, Option.bind_some]

theorem quants_loop (y n : Int) (hy : -2147483648 ≤ y ∧ y ≤ 2147483647) (l : List Int) (hl : l.length ≤ 9223372036854775807) (hw : ∀ x ∈ l, -2147483648 ≤ x ∧ x ≤ 2147483647) : ∀ (d k i : Nat) (o : List Int), i + d = l.length → d < k → o.length = l.length →
    round_Quants.l0 k y n o l l.length i = some (o.take i ++ (l.drop i).map fun x => clamp (sh (x * y) (nn n)) (-128) 127) := by
  intro d
  induction d with
  | zero =>
    intro k i o hi hk ho
    obtain ⟨k, rfl⟩ : ∃ m, k = m + 1 := ⟨k - 1, by omega⟩
    simp only [round_Quants.l0]
    rw [if_neg (by omega), List.drop_of_length_le (by omega), List.take_of_length_le (by omega)]; simp
  | succ d ih =>
    intro k i o hi hk ho
    obtain ⟨k, rfl⟩ : ∃ m, k = m + 1 := ⟨k - 1, by omega⟩
    have hr := hw _ (rd_mem l i (by omega))
    simp only [round_Quants.l0]
    rw [if_pos (by omega), if_pos (by omega), if_pos (by omega), quant_eq _ _ _ hr hy, Option.bind_some, if_pos (by omega), next i _ (show i < l.length by omega) hl, ih k (i + 1) _ (by omega) (by omega) (by simp [ho]), drop_cons l i (by omega)]
    simp only [List.map_cons, Int.toNat_natCast]
    rw [List.take_add_one, List.getElem?_set_self (by omega), List.take_set_of_le (Nat.le_refl _)]
    simp
theorem quants_eq (y n : Int) (hy : -2147483648 ≤ y ∧ y ≤ 2147483647) (l : List Int) (hl : l.length ≤ 281474976710656) (hw : ∀ x ∈ l, -2147483648 ≤ x ∧ x ≤ 2147483647) (k : Nat) (hk : l.length < k) :
    round_Quants.f k y n l = some (l.map fun x => clamp (sh (x * y) (nn n)) (-128) 127) := by
  unfold round_Quants.f
  rw [if_pos (by omega), if_pos (by omega)]
  have := quants_loop y n hy l (by omega) hw l.length k 0 (List.replicate l.length 0) (by omega) hk (by simp)
  simpa using this

theorem rest31 (n : Int) (h : -9223372036854775808 ≤ n ∧ n ≤ 9223372036854775807) : ∃ m : Nat, Int.tmod (wrap64 (Int.tmod n 31 + 31)) 31 = m ∧ m ≤ 30 := by
  have h1 := Int.tmod_lt_of_pos n (show (0 : Int) < 31 by omega)
  have h2 := Int.lt_tmod_of_pos n (show (0 : Int) < 31 by omega)
  rw [wrap64_wf _ (by omega) (by omega), Int.tmod_eq_emod_of_nonneg (by omega)]
  exact ⟨((Int.tmod n 31 + 31) % 31).toNat, by omega, by omega⟩

theorem mulb {a b A B : Int} (h0 : 0 ≤ a) (h1 : a ≤ A) (h2 : 0 ≤ b) (h3 : b ≤ B) : 0 ≤ a * b ∧ a * b ≤ A * B :=
  ⟨Int.mul_nonneg h0 h2, Int.mul_le_mul h1 h3 h2 (Int.le_trans h0 h1)⟩

def RightM (r c : Int) (n : Nat) : Prop := 0 ≤ r ∧ r ≤ 4096 ∧ 0 ≤ c ∧ c ≤ 4096 ∧ (n : Int) = r * c ∧ n ≤ 1048576
instance (r c : Int) (n : Nat) : Decidable (RightM r c n) := by unfold RightM; infer_instance

theorem side_eq (n : Int) : matmul_side.f n = some (decide (0 ≤ n ∧ n ≤ 4096)) := by
  unfold matmul_side.f
  by_cases h : 0 ≤ n
  · rw [if_pos h]; simp [h]
  · rw [if_neg h]; simp [h]
theorem wrong_eq (r c : Int) (v : List Int) : matmul_wrong.f r c v = some (!decide (RightM r c v.length)) := by
  unfold matmul_wrong.f
  rw [side_eq, side_eq]
  simp only [Option.bind_some, decide_eq_true_eq]
  by_cases h1 : 0 ≤ r ∧ r ≤ 4096
  · rw [if_pos h1]
    by_cases h2 : 0 ≤ c ∧ c ≤ 4096
    · rw [if_pos h2]
      have hb := mulb h1.1 h1.2 h2.1 h2.2
      rw [wrap64_wf _ (by omega) (by omega)]
      by_cases h3 : (v.length : Int) = r * c
      · rw [if_pos h3]
        by_cases h4 : (v.length : Int) > 1048576
        · rw [decide_eq_true h4, decide_eq_false (fun h => by obtain ⟨_, _, _, _, _, _⟩ := h; omega)]; rfl
        · have hm : RightM r c v.length := ⟨h1.1, h1.2, h2.1, h2.2, h3, by omega⟩
          rw [decide_eq_false h4, decide_eq_true hm]; rfl
      · rw [if_neg h3, decide_eq_false (fun h => h3 h.2.2.2.2.1)]; rfl
    · rw [if_neg h2, decide_eq_false (fun h => h2 ⟨h.2.2.1, h.2.2.2.1⟩)]; rfl
  · rw [if_neg h1, decide_eq_false (fun h => h1 ⟨h.1, h.2.1⟩)]; rfl

def rowOf (v : List Int) (c i : Nat) : List Int := (v.take ((i + 1) * c)).drop (i * c)
def applyS (r c : Nat) (v x : List Int) : List Int := (List.range r).map fun i => wrap32 (dotI (rowOf v c i) x)
theorem applyS_length (r c : Nat) (v x : List Int) : (applyS r c v x).length = r := by simp [applyS]
theorem row_in (v : List Int) (r c i : Nat) (h : v.length = r * c) (hi : i < r) : i * c + c ≤ v.length := by
  have := Nat.mul_le_mul_right c (show i + 1 ≤ r by omega)
  rw [Nat.add_mul] at this; omega
theorem rowOf_length (v : List Int) (r c i : Nat) (h : v.length = r * c) (hi : i < r) : (rowOf v c i).length = c := by
  have := row_in v r c i h hi
  simp only [rowOf, List.length_drop, List.length_take, Nat.add_mul]; omega
theorem rowOf_mem {v : List Int} {c i : Nat} {x : Int} (h : x ∈ rowOf v c i) : x ∈ v := List.mem_of_mem_take (List.mem_of_mem_drop h)
theorem rowOf_rd (v : List Int) (r c i j : Nat) (h : v.length = r * c) (hi : i < r) (hj : j < c) : rd (rowOf v c i) (j : Int) = rd v ((i * c + j : Nat) : Int) := by
  have h1 := row_in v r c i h hi
  have h2 := rowOf_length v r c i h hi
  rw [rd_nat _ j (by omega), rd_nat v _ (by omega)]
  simp only [rowOf, List.getElem_drop, List.getElem_take]
theorem map_range_drop (n i : Nat) (f : Nat → Int) (h : i < n) : ((List.range n).map f).drop i = f i :: ((List.range n).map f).drop (i + 1) := by
  rw [List.drop_eq_getElem_cons (by simpa using h)]; simp
theorem applyS_drop (r c i : Nat) (v x : List Int) (h : i < r) : (applyS r c v x).drop i = wrap32 (dotI (rowOf v c i) x) :: (applyS r c v x).drop (i + 1) := map_range_drop r i _ h
theorem applyS_rd (r c i : Nat) (v x : List Int) (h : i < r) : rd (applyS r c v x) (i : Int) = wrap32 (dotI (rowOf v c i) x) := by
  rw [rd_nat _ i (by rw [applyS_length]; exact h)]; simp [applyS]
theorem applyS_congr (r c : Nat) (v x : List Int) (f : Nat → Int) (h : ∀ i, i < r → wrap32 (dotI (rowOf v c i) x) = f i) : applyS r c v x = (List.range r).map f := by
  apply List.map_congr_left; intro i hi; exact h i (List.mem_range.1 hi)
theorem rowOf_eq (v : List Int) (c i : Nat) : (v.take ((i + 1) * c)).drop (i * c) = rowOf v c i := rfl
attribute [irreducible] rowOf applyS

theorem apply_loop (r c : Nat) (v x : List Int) (hr : r ≤ 4096) (hc : c ≤ 4096) (hv : v.length = r * c) (hvl : v.length ≤ 1048576) (hw : ∀ y ∈ v, -128 ≤ y ∧ y ≤ 127) (hx : ∀ y ∈ x, -128 ≤ y ∧ y ≤ 127) : ∀ (d k i : Nat) (o : List Int), i + d = r → d + 4100 < k → o.length = r →
    matmul_Apply.l0 k x o (r : Int) i r c v = some (o.take i ++ (applyS r c v x).drop i, 0) := by
  intro d
  induction d with
  | zero =>
    intro k i o hi hk ho
    obtain ⟨k, rfl⟩ : ∃ m, k = m + 1 := ⟨k - 1, by omega⟩
    simp only [matmul_Apply.l0]
    rw [if_neg (by omega), List.drop_of_length_le (by rw [applyS_length]; omega), List.take_of_length_le (by omega)]; simp
  | succ d ih =>
    intro k i o hi hk ho
    obtain ⟨k, rfl⟩ : ∃ m, k = m + 1 := ⟨k - 1, by omega⟩
    have hin := row_in v r c i hv (by omega)
    have e3 : (i + 1) * c = i * c + c := by rw [Nat.add_mul, Nat.one_mul]
    simp only [matmul_Apply.l0]
    rw [next i r (by omega) (by omega), w_mul i c (by omega), w_mul (i + 1) c (by omega), if_pos (by omega), if_pos (by omega), if_pos (by omega), if_pos (by omega)]
    simp only [Int.toNat_natCast]
    rw [rowOf_eq, dot_eq _ _ (by rw [rowOf_length v r c i hv (by omega)]; omega) (fun y hy => hw y (rowOf_mem hy)) hx k (by rw [rowOf_length v r c i hv (by omega)]; omega), Option.bind_some, if_pos (by omega), if_pos (by omega), ih k (i + 1) _ (by omega) (by omega) (by simp [ho])]
    rw [applyS_drop r c i v x (by omega)]
    rw [List.take_add_one, List.getElem?_set_self (by omega), List.take_set_of_le (Nat.le_refl _)]
    simp
theorem apply_eq (r c : Nat) (v x : List Int) (hm : RightM r c v.length) (hxl : x.length = c) (hw : ∀ y ∈ v, -128 ≤ y ∧ y ≤ 127) (hx : ∀ y ∈ x, -128 ≤ y ∧ y ≤ 127) (k : Nat) (hk : 9000 < k) :
    matmul_Apply.f k r c v x = some (applyS r c v x, 0) := by
  obtain ⟨k, rfl⟩ : ∃ m, k = m + 1 := ⟨k - 1, by omega⟩
  obtain ⟨m1, m2, m3, m4, m5, m6⟩ := id hm
  have hv : v.length = r * c := by exact_mod_cast m5
  unfold matmul_Apply.f
  rw [wrong_eq, decide_eq_true hm]
  simp only [Option.bind_some, Bool.not_true, Bool.false_eq_true, if_false, hxl, bne_self_eq_false]
  simp only [matmul_Apply.j0]
  rw [if_neg (by simp), if_pos (by omega), if_pos (by omega), Option.bind_some]
  simp only [Int.toNat_natCast, List.length_replicate]
  rw [show (0 : Int) = ((0 : Nat) : Int) from rfl]
  rw [apply_loop r c v x (by omega) (by omega) hv m6 hw hx r k 0 (List.replicate r ((0 : Nat) : Int)) (by omega) (by omega) (by simp)]
  simp
theorem apply_bad (r c : Int) (v x : List Int) (h : ¬ (RightM r c v.length ∧ (x.length : Int) = c)) (k : Nat) (hk : 2 < k) : matmul_Apply.f k r c v x = some ([], 30) := by
  obtain ⟨k, rfl⟩ : ∃ m, k = m + 1 := ⟨k - 1, by omega⟩
  unfold matmul_Apply.f
  rw [wrong_eq]
  by_cases hm : RightM r c v.length
  · have hne : (x.length : Int) ≠ c := fun e => h ⟨hm, e⟩
    rw [decide_eq_true hm]
    simp only [Option.bind_some, Bool.not_true, Bool.false_eq_true, if_false]
    rw [bne_iff_ne.2 hne]
    simp [matmul_Apply.j0]
  · rw [decide_eq_false hm]
    simp [matmul_Apply.j0]

theorem ints_loop (a b : List Int) (ha : a.length ≤ 9223372036854775807) (hab : a.length = b.length) : ∀ (d k i : Nat), i + d = a.length → d < k →
    pelotonref04_Ints.l0 k a b i = some (decide (a.drop i = b.drop i)) := by
  intro d
  induction d with
  | zero =>
    intro k i hi hk
    obtain ⟨k, rfl⟩ : ∃ m, k = m + 1 := ⟨k - 1, by omega⟩
    simp only [pelotonref04_Ints.l0]
    rw [if_neg (by omega), List.drop_of_length_le (by omega), List.drop_of_length_le (by omega)]; simp
  | succ d ih =>
    intro k i hi hk
    obtain ⟨k, rfl⟩ : ∃ m, k = m + 1 := ⟨k - 1, by omega⟩
    simp only [pelotonref04_Ints.l0]
    rw [if_pos (by omega), if_pos (by omega), if_pos (by omega), next i _ (show i < a.length by omega) ha, ih k (i + 1) (by omega) (by omega), drop_cons a i (by omega), drop_cons b i (by omega)]
    by_cases hc : rd a (i : Int) = rd b (i : Int)
    · rw [if_pos hc]; simp [hc]
    · rw [if_neg hc]; simp [hc]
theorem ints_eq (a b : List Int) (ha : a.length ≤ 9223372036854775807) (k : Nat) (hk : a.length < k) : pelotonref04_Ints.f k a b = some (decide (a = b)) := by
  unfold pelotonref04_Ints.f
  by_cases h : (a.length : Int) = b.length
  · rw [if_pos h]
    have := ints_loop a b ha (by omega) a.length k 0 (by omega) hk
    simpa using this
  · rw [if_neg h, decide_eq_false (fun e => h (by rw [e]))]

def spansS (n parts : Nat) : List Int := (List.range (parts + 1)).map fun i => ((i * n / parts : Nat) : Int)
theorem spansS_length (n parts : Nat) : (spansS n parts).length = parts + 1 := by simp [spansS]
theorem spansS_rd (n parts i : Nat) (h : i ≤ parts) : rd (spansS n parts) (i : Int) = ((i * n / parts : Nat) : Int) := by
  rw [rd_nat _ i (by rw [spansS_length]; omega)]; simp [spansS]
theorem spansS_drop (n parts i : Nat) (h : i < parts + 1) : (spansS n parts).drop i = ((i * n / parts : Nat) : Int) :: (spansS n parts).drop (i + 1) := map_range_drop (parts + 1) i _ h
attribute [irreducible] spansS
theorem spans_loop (n parts : Nat) (hn : n ≤ 1099511627776) (hp0 : 1 ≤ parts) (hp : parts ≤ 4096) : ∀ (d k i : Nat) (o : List Int), i + d = parts + 1 → d < k → o.length = parts + 1 →
    matmul_Spans.l0 k n parts o ((parts + 1 : Nat) : Int) i = some (o.take i ++ (spansS n parts).drop i, 0) := by
  intro d
  induction d with
  | zero =>
    intro k i o hi hk ho
    obtain ⟨k, rfl⟩ : ∃ m, k = m + 1 := ⟨k - 1, by omega⟩
    simp only [matmul_Spans.l0]
    rw [if_neg (by omega), List.drop_of_length_le (by rw [spansS_length]; omega), List.take_of_length_le (by omega)]; simp
  | succ d ih =>
    intro k i o hi hk ho
    obtain ⟨k, rfl⟩ : ∃ m, k = m + 1 := ⟨k - 1, by omega⟩
    have hb : i * n ≤ 4096 * 1099511627776 := Nat.mul_le_mul (by omega) hn
    simp only [matmul_Spans.l0]
    rw [if_pos (by omega), if_neg (by omega), if_pos (by omega), if_pos (by omega), next i (parts + 1) (by omega) (by omega), w_mul i n (by omega), w_div (i * n) parts (by omega), ih k (i + 1) _ (by omega) (by omega) (by simp [ho])]
    rw [spansS_drop n parts i (by omega)]
    simp only [Int.toNat_natCast]
    rw [List.take_add_one, List.getElem?_set_self (by omega), List.take_set_of_le (Nat.le_refl _)]
    simp
theorem spans_eq (n parts : Nat) (hn : n ≤ 1099511627776) (hp0 : 1 ≤ parts) (hp : parts ≤ 4096) (k : Nat) (hk : 5000 < k) : matmul_Spans.f k n parts = some (spansS n parts, 0) := by
  obtain ⟨k, rfl⟩ : ∃ m, k = m + 1 := ⟨k - 1, by omega⟩
  unfold matmul_Spans.f
  rw [if_neg (by omega), if_neg (by omega), if_neg (by omega), decide_eq_false (by omega)]
  simp only [matmul_Spans.j0]
  rw [show wrap64 ((parts : Int) + 1) = ((parts + 1 : Nat) : Int) from w_add parts 1 (by omega), if_neg (by simp), if_pos (by omega), if_pos (by omega), Option.bind_some]
  simp only [Int.toNat_natCast, List.length_replicate]
  rw [show (0 : Int) = ((0 : Nat) : Int) from rfl]
  rw [spans_loop n parts hn hp0 hp (parts + 1) k 0 (List.replicate (parts + 1) ((0 : Nat) : Int)) (by omega) (by omega) (by simp)]
  simp
theorem spans_bad (n parts : Int) (h : n < 0 ∨ n > 1099511627776 ∨ parts < 1 ∨ parts > 4096) (k : Nat) (hk : 2 < k) : matmul_Spans.f k n parts = some ([], 2) := by
  obtain ⟨k, rfl⟩ : ∃ m, k = m + 1 := ⟨k - 1, by omega⟩
  have hj : matmul_Spans.j0 (k + 1) n parts true = some ([], 2) := by simp [matmul_Spans.j0]
  unfold matmul_Spans.f
  rw [hj]
  by_cases h1 : n < 0
  · rw [if_pos h1]
  · rw [if_neg h1]
    by_cases h2 : n > 1099511627776
    · rw [if_pos h2]
    · rw [if_neg h2]
      by_cases h3 : parts < 1
      · rw [if_pos h3]
      · rw [if_neg h3, decide_eq_true (by omega), hj]

def partS (v : List Int) (c lo hi : Nat) : Nat → Nat → List Int
  | 0, _ => []
  | d + 1, i => (v.take (i * c + hi)).drop (i * c + lo) ++ partS v c lo hi d (i + 1)
theorem seg_length (v : List Int) (a b : Nat) (h : b ≤ v.length) : ((v.take b).drop a).length = b - a := by
  simp only [List.length_drop, List.length_take]; omega
theorem seg_mem {v : List Int} {a b : Nat} {x : Int} (h : x ∈ (v.take b).drop a) : x ∈ v := List.mem_of_mem_take (List.mem_of_mem_drop h)
theorem seg_join (v : List Int) (a m b : Nat) (h0 : a ≤ m) (h1 : m ≤ b) (h2 : b ≤ v.length) : (v.take m).drop a ++ (v.take b).drop m = (v.take b).drop a := by
  have e : v.take m = (v.take b).take m := by rw [List.take_take, Nat.min_eq_left h1]
  have hl : (v.take b).length = b := by rw [List.length_take]; omega
  generalize v.take b = w at *
  rw [e]
  conv => rhs; rw [← List.take_append_drop m w]
  rw [List.drop_append, List.length_take]
  rw [show a - min m w.length = 0 by omega]; rfl
theorem seg_full (v : List Int) (b : Nat) : (v.take b).drop b = [] := by
  apply List.drop_eq_nil_of_le; rw [List.length_take]; omega
theorem seg_cons (v : List Int) (a b : Nat) (h0 : a < b) (h1 : b ≤ v.length) : (v.take b).drop a = rd v (a : Int) :: (v.take b).drop (a + 1) := by
  rw [List.drop_eq_getElem_cons (by rw [List.length_take]; omega), List.getElem_take, rd_nat v a (by omega)]
theorem row_end (v : List Int) (r c i : Nat) (h : v.length = r * c) (hi : i < r) : i * c + c ≤ v.length := by
  have := Nat.mul_le_mul_right c (show i + 1 ≤ r by omega)
  rw [Nat.add_mul] at this; omega
theorem partS_mem (v : List Int) (c lo hi : Nat) : ∀ d i x, x ∈ partS v c lo hi d i → x ∈ v := by
  intro d
  induction d with
  | zero => intro i x h; simp [partS] at h
  | succ d ih =>
    intro i x h
    rw [partS, List.mem_append] at h
    rcases h with h | h
    · exact seg_mem h
    · exact ih _ _ h
theorem partS_length (v : List Int) (r c lo hi : Nat) (hv : v.length = r * c) (h0 : lo ≤ hi) (h1 : hi ≤ c) : ∀ d i, i + d ≤ r → (partS v c lo hi d i).length = d * (hi - lo) := by
  intro d
  induction d with
  | zero => intro i h; simp [partS]
  | succ d ih =>
    intro i h
    have := row_end v r c i hv (by omega)
    rw [partS, List.length_append, ih (i + 1) (by omega), seg_length _ _ _ (by omega), Nat.add_mul]; omega
theorem partS_rows (v : List Int) (r c : Nat) (hv : v.length = r * c) : ∀ d i, i + d ≤ r → partS v c 0 c d i = (v.take ((i + d) * c)).drop (i * c) := by
  intro d
  induction d with
  | zero => intro i h; rw [partS, Nat.add_zero, seg_full]
  | succ d ih =>
    intro i h
    have h1 := row_end v r c i hv (by omega)
    have h2 : (i + (d + 1)) * c ≤ v.length := by rw [hv]; exact Nat.mul_le_mul_right c h
    have h3 : (i + 1) * c = i * c + c := by rw [Nat.add_mul, Nat.one_mul]
    have h4 : (i + 1) * c ≤ (i + (d + 1)) * c := Nat.mul_le_mul_right c (by omega)
    rw [partS, ih (i + 1) (by omega), h3, show i + 1 + d = i + (d + 1) by omega, Nat.add_zero]
    exact seg_join v _ _ _ (by omega) (by omega) h2
attribute [irreducible] partS

theorem same_loop (r c r' c' : Int) (a b : List Int) (ha : a.length ≤ 9223372036854775807) (hab : a.length = b.length) : ∀ (d k i : Nat), i + d = a.length → d < k →
    pelotonref04_Same.l0 k i r c a r' c' b = some (decide (a.drop i = b.drop i)) := by
  intro d
  induction d with
  | zero =>
    intro k i hi hk
    obtain ⟨k, rfl⟩ : ∃ m, k = m + 1 := ⟨k - 1, by omega⟩
    simp only [pelotonref04_Same.l0]
    rw [if_neg (by omega), List.drop_of_length_le (by omega), List.drop_of_length_le (by omega)]; simp
  | succ d ih =>
    intro k i hi hk
    obtain ⟨k, rfl⟩ : ∃ m, k = m + 1 := ⟨k - 1, by omega⟩
    simp only [pelotonref04_Same.l0]
    rw [if_pos (by omega), if_pos (by omega), if_pos (by omega), next i _ (show i < a.length by omega) ha, ih k (i + 1) (by omega) (by omega), drop_cons a i (by omega), drop_cons b i (by omega)]
    by_cases hc : rd a (i : Int) = rd b (i : Int)
    · rw [if_pos hc]; simp [hc]
    · rw [if_neg hc]; simp [hc]
theorem same_self (r c : Int) (a : List Int) (ha : a.length ≤ 1048576) (k : Nat) (hk : 1048579 < k) : pelotonref04_Same.f k r c a r c a = some true := by
  obtain ⟨k, rfl⟩ : ∃ m, k = m + 1 := ⟨k - 1, by omega⟩
  unfold pelotonref04_Same.f
  rw [if_pos rfl, if_pos rfl]
  simp only [bne_self_eq_false, pelotonref04_Same.j0]
  rw [if_neg (by simp)]
  have := same_loop r c r c a a (by omega) rfl a.length k 0 (by omega) (by omega)
  simpa using this

def Right3 (r c : Int) (n : Nat) : Prop := 0 ≤ r ∧ r ≤ 4096 ∧ 0 ≤ c ∧ c ≤ 4096 ∧ (n : Int) = r * c
instance (r c : Int) (n : Nat) : Decidable (Right3 r c n) := by unfold Right3; infer_instance
theorem right3_m (r c : Int) (n : Nat) : RightM r c n ↔ Right3 r c n ∧ n ≤ 1048576 := by
  unfold RightM Right3
  constructor
  · rintro ⟨a, b, c, d, e, f⟩; exact ⟨⟨a, b, c, d, e⟩, f⟩
  · rintro ⟨⟨a, b, c, d, e⟩, f⟩; exact ⟨a, b, c, d, e, f⟩

theorem gside_eq (n : Int) : grid_side.f n = some (decide (0 ≤ n ∧ n ≤ 4096)) := by
  unfold grid_side.f
  by_cases h : 0 ≤ n
  · rw [if_pos h]; simp [h]
  · rw [if_neg h]; simp [h]

theorem gright1_eq (r c : Int) (v : List Int) : grid_Right_1.f r c v = some (!decide (Right3 r c v.length)) := by
  unfold grid_Right_1.f
  rw [gside_eq, gside_eq]
  simp only [Option.bind_some, decide_eq_true_eq]
  by_cases h1 : 0 ≤ r ∧ r ≤ 4096
  · rw [if_pos h1]
    by_cases h2 : 0 ≤ c ∧ c ≤ 4096
    · rw [if_pos h2]
      have hb := mulb h1.1 h1.2 h2.1 h2.2
      rw [wrap64_wf _ (by omega) (by omega)]
      by_cases h3 : (v.length : Int) = r * c
      · have hm : Right3 r c v.length := ⟨h1.1, h1.2, h2.1, h2.2, h3⟩
        rw [decide_eq_true hm, bne_eq_false_iff_eq.2 h3]; rfl
      · rw [decide_eq_false (fun h : Right3 r c v.length => h3 h.2.2.2.2), bne_iff_ne.2 h3]; rfl
    · rw [if_neg h2, decide_eq_false (fun h => h2 ⟨h.2.2.1, h.2.2.2.1⟩)]; rfl
  · rw [if_neg h1, decide_eq_false (fun h => h1 ⟨h.1, h.2.1⟩)]; rfl

theorem gright_eq (k : Nat) (hk : 3 < k) (r c : Int) (v : List Int) : grid_Right.f k [⟨r, c, v⟩] = some (decide (Right3 r c v.length)) := by
  obtain ⟨k, rfl⟩ : ∃ m, k = m + 2 := ⟨k - 2, by omega⟩
  unfold grid_Right.f api_Grid_44_at_grid_Right_1.f api_Grid_48_at_grid_Right_1.f
  have e : rd_T51 [⟨r, c, v⟩] 0 = ⟨r, c, v⟩ := rfl
  simp only [api_Grid_48_at_grid_Right_1.l0, List.length_singleton]
  rw [if_pos (by omega), if_pos (by omega), if_pos (by omega), e]
  simp only [gright1_eq, Option.bind_some]
  by_cases h : Right3 r c v.length
  · rw [decide_eq_true h]; simp [wrap64]
  · rw [decide_eq_false h]; simp
theorem narrow_bad (k : Nat) (hk : 3 < k) (r c : Int) (v : List Int) (y n : Int) (h : ¬ RightM r c v.length) : matmul_Narrow.f k r c v y n = some (0, 0, [], 30) := by
  unfold matmul_Narrow.f
  rw [gright_eq k hk, Option.bind_some]
  by_cases g : Right3 r c v.length
  · have : ¬ v.length ≤ 1048576 := fun e => h ((right3_m r c v.length).2 ⟨g, e⟩)
    rw [decide_eq_true g, if_pos rfl, if_pos (by omega)]
  · rw [decide_eq_false g, if_neg (by simp)]
theorem narrow_eq (k : Nat) (hk : 1048580 < k) (r c : Int) (v : List Int) (y n : Int) (h : RightM r c v.length) (hy : -2147483648 ≤ y ∧ y ≤ 2147483647) (hw : ∀ x ∈ v, -2147483648 ≤ x ∧ x ≤ 2147483647) : matmul_Narrow.f k r c v y n = some (r, c, v.map (fun x => clamp (sh (x * y) (nn n)) (-128) 127), 0) := by
  have g := (right3_m r c v.length).1 h
  unfold matmul_Narrow.f
  rw [gright_eq k (by omega), Option.bind_some, decide_eq_true g.1, if_pos rfl, if_neg (by omega), quants_eq y n hy v (by omega) hw k (by omega), Option.bind_some]

theorem right03_eq (r c : Int) (v : List Int) : pelotonref03_Right.f r c v = some (decide (Right3 r c v.length)) := by
  unfold pelotonref03_Right.f
  by_cases h1 : r ≥ 0
  · by_cases h2 : c ≥ 0
    · by_cases h3 : r ≤ 4096
      · by_cases h4 : c ≤ 4096
        · have hb := mulb h1 h3 h2 h4
          rw [if_pos h1, if_pos h2, if_pos h3, if_pos h4, wrap64_wf _ (by omega) (by omega)]
          by_cases h5 : (v.length : Int) = r * c
          · have hm : Right3 r c v.length := ⟨h1, h3, h2, h4, h5⟩
            rw [beq_iff_eq.2 h5, decide_eq_true hm]
          · rw [beq_eq_false_iff_ne.2 h5, decide_eq_false (fun h => h5 h.2.2.2.2)]
        · rw [if_pos h1, if_pos h2, if_pos h3, if_neg h4, decide_eq_false (fun h => h4 h.2.2.2.1)]
      · rw [if_pos h1, if_pos h2, if_neg h3, decide_eq_false (fun h => h3 h.2.1)]
    · rw [if_pos h1, if_neg h2, decide_eq_false (fun h => h2 h.2.2.1)]
  · rw [if_neg h1, decide_eq_false (fun h => h1 h.1)]
theorem fit03_eq (r c : Int) (v : List Int) : pelotonref03_Fit.f r c v = some (decide (RightM r c v.length)) := by
  unfold pelotonref03_Fit.f
  rw [right03_eq, Option.bind_some]
  by_cases h : Right3 r c v.length
  · rw [decide_eq_true h, if_pos rfl]
    by_cases g : (v.length : Int) ≤ 1048576
    · rw [decide_eq_true g, decide_eq_true ((right3_m r c v.length).2 ⟨h, by omega⟩)]
    · rw [decide_eq_false g, decide_eq_false (fun e => g (by have := ((right3_m r c v.length).1 e).2; omega))]
  · rw [decide_eq_false h, if_neg (by simp), decide_eq_false (fun e => h ((right3_m r c v.length).1 e).1)]

theorem awake04_ok (k : Nat) (hk : 30 ≤ k) : pelotonlaw04_awake.f k = some true :=
  at_rounds pelotonlaw04_awake.mono hk (by decide +kernel)

theorem dotI_zero (a : List Int) : ∀ n, dotI a (List.replicate n 0) = 0 := by
  induction a with
  | nil => intro n; rfl
  | cons x a ih => intro n; cases n with
    | zero => rfl
    | succ n => simp only [List.replicate_succ, dotI, ih]; omega
theorem dotI_unit (a : List Int) : ∀ (n i : Nat), i < n → i < a.length → dotI a ((List.replicate n 0).set i 1) = rd a (i : Int) := by
  induction a with
  | nil => intro n i h1 h2; simp at h2
  | cons x a ih => intro n i h1 h2; cases n with
    | zero => omega
    | succ n => cases i with
      | zero => simp only [List.replicate_succ, List.set_cons_zero, dotI, dotI_zero]; rw [rd_nat _ 0 (by simp)]; simp
      | succ i =>
        simp only [List.length_cons] at h2
        simp only [List.replicate_succ, List.set_cons_succ, dotI]
        rw [ih n i (by omega) (by omega), rd_nat _ (i + 1) (by simp; omega), rd_nat a i (by omega)]; simp
theorem restp (x n : Int) (h0 : 0 < n) (h1 : n ≤ 4611686018427387904) : ∃ m : Nat, Int.tmod (wrap64 (Int.tmod x n + n)) n = m ∧ (m : Int) < n := by
  have g1 := Int.tmod_lt_of_pos x h0
  have g2 := Int.lt_tmod_of_pos x h0
  rw [wrap64_wf _ (by omega) (by omega), Int.tmod_eq_emod_of_nonneg (by omega)]
  have e1 := Int.emod_nonneg (Int.tmod x n + n) (show n ≠ 0 by omega)
  have e2 := Int.emod_lt_of_pos (Int.tmod x n + n) h0
  exact ⟨((Int.tmod x n + n) % n).toNat, by omega, by omega⟩

theorem MatmulNarrows_l0 (r c : Int) (v : List Int) (hvl : v.length ≤ 600) (hw : ∀ y ∈ v, -2147483648 ≤ y ∧ y ≤ 2147483647) (y n : Int) (hy : -2147483648 ≤ y ∧ y ≤ 2147483647) : ∀ (d k i : Nat), i + d = v.length → d + 100 < k →
    pelotonlaw04_MatmulNarrows.l0 k y n i r c v r c (v.map (fun x => clamp (sh (x * y) (nn n)) (-128) 127)) = some true := by
  intro d
  induction d with
  | zero =>
    intro k i hi' hk
    obtain ⟨k, rfl⟩ : ∃ m, k = m + 1 := ⟨k - 1, by omega⟩
    simp only [pelotonlaw04_MatmulNarrows.l0]
    rw [if_neg (by rw [List.length_map]; omega)]
  | succ d ih =>
    intro k i hi' hk
    obtain ⟨k, rfl⟩ : ∃ m, k = m + 1 := ⟨k - 1, by omega⟩
    have e : rd (v.map (fun x => clamp (sh (x * y) (nn n)) (-128) 127)) (i : Int) = clamp (sh (rd v (i : Int) * y) (nn n)) (-128) 127 := by
      rw [rd_nat _ i (by rw [List.length_map]; omega), List.getElem_map, rd_nat v i (by omega)]
    simp only [pelotonlaw04_MatmulNarrows.l0]
    have hcl := clamp_range (sh (rd v (i : Int) * y) (nn n)) (-128) 127 (by omega)
    rw [if_pos (by rw [List.length_map]; omega), if_pos (by omega), if_pos (by omega), refscale_eq k (by omega) _ y n (-128) 127 (hw _ (rd_mem v i (by omega))) hy, Option.bind_some, e]
    generalize clamp (sh (rd v (i : Int) * y) (nn n)) (-128) 127 = q at *
    clear e
    rw [if_pos (wrap64_wf _ (by omega) (by omega)), next i v.length (by omega) (by omega)]
    exact ih k (i + 1) (by omega) (by omega)
theorem MatmulNarrows : pelotonlaw04_MatmulNarrows.Pure := by
  intro r c v y n ⟨hr, hc, hvm, hw⟩ hy hn
  refine ⟨1100000, ?_⟩
  have hw8 : ∀ y ∈ v, -2147483648 ≤ y ∧ y ≤ 2147483647 := fun y hy => wf32 (hw y hy)
  have hy8 := wf32 hy
  have ht : pelotonlaw04_MatmulNarrows.j0 1100000 y n true r c v = some true := by
    simp only [pelotonlaw04_MatmulNarrows.j0]; simp [awake04_ok 1099999 (by omega)]
  unfold pelotonlaw04_MatmulNarrows.f
  rw [awake04_ok 1100000 (by omega)]
  simp only [Option.bind_some, if_true]
  by_cases hs : (v.length : Int) > 600
  · rw [decide_eq_true hs]; exact ht
  · rw [decide_eq_false hs]
    simp only [pelotonlaw04_MatmulNarrows.j0]
    rw [if_neg (by simp), fit03_eq]
    by_cases hm : RightM r c v.length
    · rw [narrow_eq 1099999 (by omega) r c v y n hm hy8 hw8, decide_eq_true hm]
      simp only [Option.bind_some]
      rw [if_pos trivial, if_pos trivial, if_pos trivial, if_pos trivial, List.length_map]
      simp only [bne_self_eq_false, pelotonlaw04_MatmulNarrows.j1]
      rw [if_neg (by simp)]
      exact MatmulNarrows_l0 r c v (by omega) hw8 y n hy8 v.length 1099998 0 (by omega) (by omega)
    · rw [narrow_bad 1099999 (by omega) r c v y n hm, decide_eq_false hm]
      simp only [Option.bind_some]
      rw [if_neg (by simp), if_pos trivial, same_self _ _ _ (by simp) 1099999 (by omega)]; rfl

end Go.Proofs.Ytananmepljeldaa.Pure
