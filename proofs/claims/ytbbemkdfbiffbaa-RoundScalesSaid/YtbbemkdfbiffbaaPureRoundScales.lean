/- RoundScales: the law's plain part: what its printed functions compute answers true, for all arguments of its types. No condition beside the given bounds. -/
import Derived.Test.YtbbemkdfbiffbaaPRoundScalesx2
import Derived.Test.YtbbemkdfbiffbaaMath
import Derived.Test.YtbbemkdfbiffbaaNames
namespace Go.Proofs.Ytbbemkdfbiffbaa.Pure
open Go.RowKit Go.Proofs.Ytbbemkdfbiffbaa.PRoundScales Go.Proofs.YtbbemkdfbiffbaaW.PrintWords Go.Proofs.YtbbemkdfbiffbaaW.PrintLast Go.Proofs.YtbbemkdfbiffbaaW.PrintMore Go.PelMath
set_option linter.unusedVariables false
set_option linter.unusedSimpArgs false
theorem wf64 {x : Int} (h : (Lit.int .i64 x).wf = true) : -9223372036854775808 ≤ x ∧ x ≤ 9223372036854775807 := by
  simp [Lit.wf, IntKind.min, IntKind.max, IntKind.bits, IntKind.signed] at h; omega
theorem wf32 {x : Int} (h : (Lit.int .i32 x).wf = true) : -2147483648 ≤ x ∧ x ≤ 2147483647 := by
  simp [Lit.wf, IntKind.min, IntKind.max, IntKind.bits, IntKind.signed] at h; omega
theorem wf8 {x : Int} (h : (Lit.int .i8 x).wf = true) : -128 ≤ x ∧ x ≤ 127 := by
  simp [Lit.wf, IntKind.min, IntKind.max, IntKind.bits, IntKind.signed] at h; omega

def nn (n : Int) : Nat := (mn (mx n 0) 62).toNat
theorem nn_le (n : Int) : nn n ≤ 62 := by unfold nn mn mx; (repeat' split) <;> omega
theorem nn_of (n : Int) (h0 : 0 ≤ n) (h1 : n ≤ 62) : nn n = n.toNat := by unfold nn mn mx; (repeat' split) <;> omega

theorem and_mask (x : Int) (n : Nat) (h : n ≤ 62) : Go.bits .and .u64 (IntKind.u64.wrap x) (2 ^ n - 1) = x % 2 ^ n := by
  have hw : ∀ y : Int, IntKind.u64.wrap y = y % 18446744073709551616 := by intro y; simp [IntKind.wrap, IntKind.bits, IntKind.signed]
  rw [bits_mask .u64 64 (by decide) (by intro y h0 h1; rw [hw]; omega) n (by omega) _ (by rw [hw]; omega) (by rw [hw]; omega), hw]
  have hd : ((2 : Int) ^ n) ∣ 18446744073709551616 := ⟨2 ^ (64 - n), by rw [← Int.pow_add]; rw [show n + (64 - n) = 64 by omega]; rfl⟩
  exact Int.emod_emod_of_dvd x hd
theorem and_one (x : Int) (h0 : -9223372036854775808 ≤ x) (h1 : x ≤ 9223372036854775807) : Go.bits .and .i64 x 1 = x % 2 := by
  have e : bits .and .i64 x 1 = IntKind.i64.wrap (((BitVec.ofInt 64 x &&& BitVec.ofInt 64 1).toNat : Nat) : Int) := rfl
  rw [e, BitVec.toNat_and, BitVec.toNat_ofInt, BitVec.toNat_ofInt]
  have e1 : (((1 : Int) % ((2 ^ 64 : Nat) : Int)).toNat) = 1 := by decide
  rw [e1, Nat.and_one_is_mod, IntKind.wrap_i64]
  omega
theorem shift_eq (x n : Int) (h0 : -9223372036854775808 ≤ x) (h1 : x ≤ 9223372036854775807) : round_Shift.f x n = some (sh x (nn n)) := by
  have hn := nn_le n
  have hp := pow_pos' (nn n); have hq := pow_le62 (nn n) hn
  have hw : IntKind.u64.wrap (2 ^ nn n) = 2 ^ nn n := by
    have : ∀ y : Int, IntKind.u64.wrap y = y % 18446744073709551616 := by intro y; simp [IntKind.wrap, IntKind.bits, IntKind.signed]
    rw [this]; omega
  have hw1 : IntKind.u64.wrap (2 ^ nn n - 1) = 2 ^ nn n - 1 := by
    have : ∀ y : Int, IntKind.u64.wrap y = y % 18446744073709551616 := by intro y; simp [IntKind.wrap, IntKind.bits, IntKind.signed]
    rw [this]; omega
  unfold round_Shift.f
  simp only [show (mn (mx n 0) 62).toNat = nn n from rfl]
  have hm : mn (mx n 0) 62 = (nn n : Int) := by unfold nn mn mx; (repeat' split) <;> omega
  rw [hw]; try rw [hw1]
  rw [and_mask x _ hn, hm]
  have hpart := parts x (2 ^ nn n) hp
  obtain ⟨q, r, hx, g0, g1, e1, e2⟩ := hpart
  have hqb : -9223372036854775808 ≤ q ∧ q ≤ 9223372036854775807 ∧ (2 ≤ (2 : Int) ^ nn n → q < 9223372036854775807) := by
    have hlo : -9223372036854775808 ≤ x / 2 ^ nn n := by
      apply Int.le_ediv_of_mul_le hp
      have : (-9223372036854775808 : Int) * 2 ^ nn n ≤ -9223372036854775808 * 1 := Int.mul_le_mul_of_nonpos_left (by omega) (by omega)
      omega
    refine ⟨by omega, ?_, ?_⟩
    · rw [← e1]; apply Int.ediv_le_of_le_mul hp; 
      have : (9223372036854775807 : Int) * 1 ≤ 9223372036854775807 * 2 ^ nn n := Int.mul_le_mul_of_nonneg_left (by omega) (by omega)
      omega
    · intro h2
      rw [← e1]; apply Int.ediv_lt_of_lt_mul hp
      have : (9223372036854775807 : Int) * 2 ≤ 9223372036854775807 * 2 ^ nn n := Int.mul_le_mul_of_nonneg_left (by omega) (by omega)
      omega
  unfold sh; rw [e1, e2, and_one q (by omega) (by omega)]
  by_cases hz : nn n = 0
  · rw [hz] at g1 ⊢
    simp only [Int.pow_zero] at g1 ⊢
    have : r = 0 := by omega
    subst this; simp
  · obtain ⟨hh, he, hh0⟩ := pow_even (nn n) (by omega)
    rw [he] at g1 hqb ⊢
    have h2 := hqb.2.2 (by omega)
    have hwr : wrap64 (q + 1) = q + 1 := wrap64_wf _ (by omega) (by omega)
    rw [hwr, show (2 * hh) / 2 = hh by omega]
    have hnz : ((nn n : Nat) : Int) > 0 := by omega
    by_cases c1 : r > hh
    · rw [if_pos c1, if_pos (by omega)]
    · rw [if_neg c1]
      by_cases c2 : r = hh
      · rw [if_pos c2, if_pos hnz]
        by_cases c3 : q % 2 = 1
        · rw [if_pos c3, if_pos (by omega)]
        · rw [if_neg c3, if_neg (by omega)]
      · rw [if_neg c2, if_neg (by omega)]
theorem sh_range (x : Int) (n : Nat) (h0 : -9223372036854775808 ≤ x) (h1 : x ≤ 9223372036854775807) : -9223372036854775808 ≤ sh x n ∧ sh x n ≤ 9223372036854775807 := by
  by_cases hz : n = 0
  · rw [hz, sh_zero]; omega
  · have hp := pow_pos' n
    obtain ⟨hh, he, hh0⟩ := pow_even n (by omega)
    rw [sh_shd]
    have hm1 := shd_mono x 9223372036854775807 (2 ^ n) hp h1
    have hm2 := shd_mono (-9223372036854775808) x (2 ^ n) hp h0
    have e1 := shd_mono 9223372036854775807 (9223372036854775807 * 2 ^ n) (2 ^ n) hp (by
      have : (9223372036854775807 : Int) * 1 ≤ 9223372036854775807 * 2 ^ n := Int.mul_le_mul_of_nonneg_left (by omega) (by omega)
      omega)
    have e2 := shd_mono (-9223372036854775808 * 2 ^ n) (-9223372036854775808) (2 ^ n) hp (by
      have : (-9223372036854775808 : Int) * 2 ^ n ≤ -9223372036854775808 * 1 := Int.mul_le_mul_of_nonpos_left (by omega) (by omega)
      omega)
    rw [shd_mul _ _ hp] at e1 e2
    omega

theorem refshift_loop (x : Int) (h0 : -9223372036854775808 ≤ x) (h1 : x ≤ 9223372036854775807) (n : Nat) (hn : n ≤ 62) : ∀ (d k i : Nat), i + d = n → d < k →
    pelotonref01_Shift.l0 k x n (2 ^ i) i = if n = 0 then pelotonref01_Shift.l0 k x n (2 ^ i) i else some (sh x n) := by
  intro d
  induction d with
  | zero =>
    intro k i hi hk
    by_cases hz : n = 0
    · rw [if_pos hz]
    rw [if_neg hz]
    obtain ⟨k, rfl⟩ : ∃ m, k = m + 1 := ⟨k - 1, by omega⟩
    obtain rfl : i = n := by omega
    have hp := pow_pos' i; have hq := pow_le62 i hn
    obtain ⟨q, r, hx, g0, g1, e1, e2⟩ := parts x (2 ^ i) hp
    obtain ⟨hh, he, hh0⟩ := pow_even i (by omega)
    have hqb : -9223372036854775808 ≤ 2 * q ∧ 2 * q ≤ 9223372036854775807 := by
      rw [he] at hx e1
      have hlo : -4611686018427387904 ≤ x / (2 * hh) := by
        apply Int.le_ediv_of_mul_le (by omega)
        have : (-4611686018427387904 : Int) * (2 * hh) ≤ -4611686018427387904 * 2 := Int.mul_le_mul_of_nonpos_left (by omega) (by omega)
        omega
      have hhi : x / (2 * hh) < 4611686018427387904 := by
        apply Int.ediv_lt_of_lt_mul (by omega)
        have : (4611686018427387904 : Int) * 2 ≤ 4611686018427387904 * (2 * hh) := Int.mul_le_mul_of_nonneg_left (by omega) (by omega)
        omega
      omega
    have ht := tdiv_parts x (2 ^ i) q r hx g0 g1
    simp only [pelotonref01_Shift.l0]
    rw [if_neg (by omega), if_neg (by omega)]
    unfold sh; rw [e1, e2]
    rw [he] at ht g1 ⊢
    by_cases hs : 0 ≤ x ∨ r = 0
    · obtain ⟨t1, t2⟩ := ht.1 hs
      rw [t1, t2]
      have w1 : wrap64 q = q := wrap64_wf _ (by omega) (by omega)
      have w2 : wrap64 (q + 1) = q + 1 := wrap64_wf _ (by omega) (by omega)
      have w3 : wrap64 (2 * hh - r) = 2 * hh - r := wrap64_wf _ (by omega) (by omega)
      rw [w1, w2, w3, if_neg (by omega)]
      have hm : Int.tmod q 2 = 0 ↔ q % 2 = 0 := by rw [Int.tmod_eq_emod]; split <;> omega
      by_cases c1 : r > 2 * hh - r
      · rw [if_pos c1, if_pos (by omega)]
      · rw [if_neg c1]
        by_cases c2 : r = 2 * hh - r
        · rw [if_pos c2]
          by_cases c3 : q % 2 = 0
          · rw [if_pos (hm.2 c3), if_neg (by omega)]
          · rw [if_neg (fun h => c3 (hm.1 h)), if_pos (by omega)]
        · rw [if_neg c2, if_neg (by omega)]
    · obtain ⟨t1, t2⟩ := ht.2 (by omega) (by omega)
      rw [t1, t2]
      have w1 : wrap64 (q + 1) = q + 1 := wrap64_wf _ (by omega) (by omega)
      have w4 : wrap64 (r - 2 * hh + 2 * hh) = r := by rw [show r - 2 * hh + 2 * hh = r by omega]; exact wrap64_wf _ (by omega) (by omega)
      have w5 : wrap64 (q + 1 - 1) = q := by rw [show q + 1 - 1 = q by omega]; exact wrap64_wf _ (by omega) (by omega)
      have w3 : wrap64 (2 * hh - r) = 2 * hh - r := wrap64_wf _ (by omega) (by omega)
      rw [w4, w1, w5, w1, w3, if_pos (by omega)]
      have hm : Int.tmod q 2 = 0 ↔ q % 2 = 0 := by rw [Int.tmod_eq_emod]; split <;> omega
      by_cases c1 : r > 2 * hh - r
      · rw [if_pos c1, if_pos (by omega)]
      · rw [if_neg c1]
        by_cases c2 : r = 2 * hh - r
        · rw [if_pos c2]
          by_cases c3 : q % 2 = 0
          · rw [if_pos (hm.2 c3), if_neg (by omega)]
          · rw [if_neg (fun h => c3 (hm.1 h)), if_pos (by omega)]
        · rw [if_neg c2, if_neg (by omega)]
  | succ d ih =>
    intro k i hi hk
    by_cases hz : n = 0
    · rw [if_pos hz]
    rw [if_neg hz]
    obtain ⟨k, rfl⟩ : ∃ m, k = m + 1 := ⟨k - 1, by omega⟩
    have hp := pow_pos' i; have hq := pow_le62 (i + 1) (by omega)
    simp only [pelotonref01_Shift.l0]
    rw [if_pos (by omega), show wrap64 (2 ^ i * 2) = 2 ^ (i + 1) by rw [Int.pow_succ] at hq ⊢; exact wrap64_wf _ (by omega) (by omega),
      show wrap64 ((i : Int) + 1) = ((i + 1 : Nat) : Int) by rw [wrap64_wf _ (by omega) (by omega)]; omega, ih k (i + 1) (by omega) (by omega), if_neg hz]
theorem refshift_eq (k : Nat) (hk : 70 ≤ k) (x n : Int) (h0 : -9223372036854775808 ≤ x) (h1 : x ≤ 9223372036854775807) : pelotonref01_Shift.f k x n = some (sh x (nn n)) := by
  obtain ⟨k, rfl⟩ : ∃ m, k = m + 1 := ⟨k - 1, by omega⟩
  have key : ∀ m : Int, m ≤ 62 → pelotonref01_Shift.j0 (k + 1) x m = some (sh x (nn m)) := by
    intro m hm
    simp only [pelotonref01_Shift.j0]
    by_cases hz : m ≤ 0
    · rw [if_pos hz, show nn m = 0 by unfold nn mn mx; (repeat' split) <;> omega, sh_zero]
    · rw [if_neg hz]
      have := refshift_loop x h0 h1 m.toNat (by omega) m.toNat k 0 (by omega) (by omega)
      rw [if_neg (by omega), show ((m.toNat : Nat) : Int) = m by omega] at this
      rw [nn_of m (by omega) hm]
      exact this
  unfold pelotonref01_Shift.f
  by_cases hc : n > 62
  · rw [if_pos hc, key 62 (by omega), show nn 62 = nn n by unfold nn mn mx; (repeat' split) <;> omega]
  · rw [if_neg hc, key n (by omega)]

def clamp (x a b : Int) : Int := if x < a then a else if b < x then b else x
theorem clamp_range (x a b : Int) (h : a ≤ b) : a ≤ clamp x a b ∧ clamp x a b ≤ b := by unfold clamp; (repeat' split) <;> omega
theorem clamp_mono (x y a b : Int) (h : a ≤ b) (hxy : x ≤ y) : clamp x a b ≤ clamp y a b := by unfold clamp; (repeat' split) <;> omega
theorem clamp_id (x a b : Int) (h0 : a ≤ x) (h1 : x ≤ b) : clamp x a b = x := by unfold clamp; (repeat' split) <;> omega

theorem near_eq (x a b : Int) : pelotonref01_Near.f x a b = some (clamp x a b) := by
  unfold pelotonref01_Near.f clamp; (repeat' split) <;> first | rfl | omega

theorem sat8_eq (x : Int) : round_Sat8.f x = some (clamp x (-128) 127) := by
  unfold round_Sat8.f round_near_int8.f mn mx clamp
  simp only [Option.bind_some, Option.some.injEq]
  have hw : ∀ y : Int, -128 ≤ y → y ≤ 127 → IntKind.i8.wrap y = y := by
    intro y a b; simp [IntKind.wrap, IntKind.bits, IntKind.signed]; split <;> omega
  (repeat' split) <;> first | rfl | omega | (exact hw _ (by omega) (by omega)) | (rw [hw _ (by omega) (by omega)]; omega)

theorem sat32_eq (x : Int) : round_Sat32.f x = some (clamp x (-2147483648) 2147483647) := by
  unfold round_Sat32.f round_near_int32.f mn mx clamp wrap32
  simp only [Option.bind_some, Option.some.injEq]
  (repeat' split) <;> omega

theorem mul32 (x y : Int) (hx : -2147483648 ≤ x ∧ x ≤ 2147483647) (hy : -2147483648 ≤ y ∧ y ≤ 2147483647) : -4611686018427387904 ≤ x * y ∧ x * y ≤ 4611686018427387904 := by
  have h := Int.natAbs_mul x y
  have h1 : x.natAbs ≤ 2147483648 := by omega
  have h2 : y.natAbs ≤ 2147483648 := by omega
  have h3 : x.natAbs * y.natAbs ≤ 2147483648 * 2147483648 := Nat.mul_le_mul h1 h2
  omega

theorem wrap32_range (x : Int) : -2147483648 ≤ wrap32 x ∧ wrap32 x ≤ 2147483647 := by unfold wrap32; omega
theorem wrap32_0 : wrap32 0 = 0 := by unfold wrap32; omega
theorem rd_nat (l : List Int) (i : Nat) (h : i < l.length) : rd l (i : Int) = l[i] := by
  unfold rd; simp [List.getD, h]
theorem drop_cons (l : List Int) (i : Nat) (h : i < l.length) : l.drop i = rd l (i : Int) :: l.drop (i + 1) := by
  rw [rd_nat l i h, List.drop_eq_getElem_cons h]
theorem rd_mem (l : List Int) (i : Nat) (h : i < l.length) : rd l (i : Int) ∈ l := by rw [rd_nat l i h]; exact List.getElem_mem h
theorem next (i n : Nat) (h : i < n) (hn : n ≤ 9223372036854775807) : wrap64 ((i : Int) + 1) = ((i + 1 : Nat) : Int) := by
  rw [wrap64_wf _ (by omega) (by omega)]; omega

theorem wrapsum_loop (l : List Int) (hl : l.length ≤ 9223372036854775807) : ∀ (d k i : Nat) (s : Int), i + d = l.length → d < k →
    round_Wrap.l0 k s l l.length i = some (wrap32 (s + tot (l.drop i))) := by
  intro d
  induction d with
  | zero =>
    intro k i s hi hk
    obtain ⟨k, rfl⟩ : ∃ m, k = m + 1 := ⟨k - 1, by omega⟩
    simp only [round_Wrap.l0]
    rw [if_neg (by omega), List.drop_of_length_le (by omega)]; simp [tot]
  | succ d ih =>
    intro k i s hi hk
    obtain ⟨k, rfl⟩ : ∃ m, k = m + 1 := ⟨k - 1, by omega⟩
    simp only [round_Wrap.l0]
    rw [if_pos (by omega), if_pos (by omega), if_pos (by omega), next i _ (by omega) hl, ih k (i + 1) _ (by omega) (by omega), drop_cons l i (by omega)]
    simp only [tot]
    rw [show ∀ a b c : Int, wrap32 (wrap64 (a + b) + c) = wrap32 (a + (b + c)) from fun a b c => by unfold wrap32 wrap64; omega]
theorem wrapsum_eq (l : List Int) (hl : l.length ≤ 9223372036854775807) (k : Nat) (hk : l.length < k) : round_Wrap.f k l = some (wrap32 (tot l)) := by
  unfold round_Wrap.f
  have := wrapsum_loop l hl l.length k 0 0 (by omega) hk
  simpa using this

def dotI : List Int → List Int → Int
  | x :: a, y :: b => x * y + dotI a b
  | _, _ => 0
def prods : List Int → List Int → List Int
  | x :: a, y :: b => x * y :: prods a b
  | _, _ => []
theorem dotI_nil (a : List Int) : dotI a [] = 0 := by cases a <;> rfl
theorem tot_prods (a : List Int) : ∀ b, tot (prods a b) = dotI a b := by
  induction a with
  | nil => intro b; rfl
  | cons x a ih => intro b; cases b with
    | nil => rfl
    | cons y b => simp only [prods, tot, dotI, ih]
theorem prods_length (a : List Int) : ∀ b, (prods a b).length ≤ a.length := by
  induction a with
  | nil => intro b; simp [prods]
  | cons x a ih => intro b; cases b with
    | nil => simp [prods]
    | cons y b => simp only [prods, List.length_cons]; have := ih b; omega

def IsArg (l : List Int) (r : Int) : Prop := (l = [] ∧ r = -1) ∨ (0 ≤ r ∧ r < l.length ∧ ∀ j : Int, 0 ≤ j → j < l.length → rd l j ≤ rd l r ∧ (j < r → rd l j < rd l r))
theorem IsArg.same {l : List Int} {r q : Int} (h : IsArg l r) (g : IsArg l q) : r = q := by
  rcases h with ⟨h1, h2⟩ | ⟨h1, h2, h3⟩
  · rcases g with ⟨g1, g2⟩ | ⟨g1, g2, g3⟩
    · omega
    · rw [h1] at g2; simp at g2; omega
  · rcases g with ⟨g1, g2⟩ | ⟨g1, g2, g3⟩
    · rw [g1] at h2; simp at h2; omega
    · have a1 := h3 q g1 g2; have a2 := g3 r h1 h2
      rcases Int.lt_trichotomy r q with hc | hc | hc
      · have := a2.2 hc; omega
      · exact hc
      · have := a1.2 hc; omega
theorem argmax_loop (l : List Int) (hl : l.length ≤ 9223372036854775807) : ∀ (d k i : Nat) (b : Int), i + d = l.length → d < k →
    ((i = 0 ∧ b = -1) ∨ (0 ≤ b ∧ b < i ∧ ∀ j : Int, 0 ≤ j → j < i → rd l j ≤ rd l b ∧ (j < b → rd l j < rd l b))) →
    ∃ r, round_Argmax.l0 k l b l l.length i = some r ∧ IsArg l r := by
  intro d
  induction d with
  | zero =>
    intro k i b hi hk hb
    obtain ⟨k, rfl⟩ : ∃ m, k = m + 1 := ⟨k - 1, by omega⟩
    simp only [round_Argmax.l0]
    rw [if_neg (by omega)]
    refine ⟨b, rfl, ?_⟩
    have hi' : i = l.length := by omega
    subst hi'
    rcases hb with ⟨h1, h2⟩ | h
    · exact Or.inl ⟨List.length_eq_zero_iff.1 h1, h2⟩
    · exact Or.inr h
  | succ d ih =>
    intro k i b hi hk hb
    obtain ⟨k, rfl⟩ : ∃ m, k = m + 1 := ⟨k - 1, by omega⟩
    simp only [round_Argmax.l0]
    rw [if_pos (by omega), if_pos (by omega), if_pos (by omega), next i _ (show i < l.length by omega) hl]
    rcases hb with ⟨h1, h2⟩ | ⟨h1, h2, h3⟩
    · rw [if_pos (by omega)]
      refine ih k (i + 1) i (by omega) (by omega) (Or.inr ⟨by omega, by omega, ?_⟩)
      intro j j0 j1
      obtain rfl : j = (i : Int) := by omega
      exact ⟨Int.le_refl _, fun h => by omega⟩
    · rw [if_neg (by omega), if_pos h1, if_pos (by omega)]
      by_cases hc : rd l (i : Int) > rd l b
      · rw [if_pos hc]
        refine ih k (i + 1) i (by omega) (by omega) (Or.inr ⟨by omega, by omega, ?_⟩)
        intro j j0 j1
        by_cases hj : j < i
        · have := h3 j j0 hj; exact ⟨by omega, fun _ => by omega⟩
        · obtain rfl : j = (i : Int) := by omega
          exact ⟨Int.le_refl _, fun h => by omega⟩
      · rw [if_neg hc]
        refine ih k (i + 1) b (by omega) (by omega) (Or.inr ⟨by omega, by omega, ?_⟩)
        intro j j0 j1
        by_cases hj : j < i
        · exact h3 j j0 hj
        · obtain rfl : j = (i : Int) := by omega
          exact ⟨by omega, fun h => by omega⟩
theorem argmax_is (l : List Int) (hl : l.length ≤ 9223372036854775807) (k : Nat) (hk : l.length < k) : ∃ r, round_Argmax.f k l = some r ∧ IsArg l r := by
  unfold round_Argmax.f
  exact argmax_loop l hl l.length k 0 (-1) (by omega) hk (Or.inl ⟨rfl, rfl⟩)

theorem quant_eq (x y n : Int) (hx : -2147483648 ≤ x ∧ x ≤ 2147483647) (hy : -2147483648 ≤ y ∧ y ≤ 2147483647) : round_Quant.f x y n = some (clamp (sh (x * y) (nn n)) (-128) 127) := by
  have hp := mul32 x y hx hy
  unfold round_Quant.f
  rw [wrap64_wf x (by omega) (by omega), wrap64_wf y (by omega) (by omega), wrap64_wf (x * y) (by omega) (by omega), shift_eq _ n (by omega) (by omega), Option.bind_some, sat8_eq, Option.bind_some]

theorem scale_eq (x y n : Int) (hx : -2147483648 ≤ x ∧ x ≤ 2147483647) (hy : -2147483648 ≤ y ∧ y ≤ 2147483647) : round_Scale.f x y n = some (clamp (sh (x * y) (nn n)) (-2147483648) 2147483647) := by
  have hp := mul32 x y hx hy
  unfold round_Scale.f
  rw [wrap64_wf x (by omega) (by omega), wrap64_wf y (by omega) (by omega), wrap64_wf (x * y) (by omega) (by omega), shift_eq _ n (by omega) (by omega), Option.bind_some, sat32_eq, Option.bind_some]

theorem refscale_eq (k : Nat) (hk : 70 ≤ k) (x y n a b : Int) (hx : -2147483648 ≤ x ∧ x ≤ 2147483647) (hy : -2147483648 ≤ y ∧ y ≤ 2147483647) : pelotonref01_Scale.f k x y n a b = some (clamp (sh (x * y) (nn n)) a b) := by
  have hp := mul32 x y hx hy
  unfold pelotonref01_Scale.f
  rw [wrap64_wf x (by omega) (by omega), wrap64_wf y (by omega) (by omega), wrap64_wf (x * y) (by omega) (by omega), refshift_eq k hk _ n (by omega) (by omega), Option.bind_some, near_eq, Option.bind_some]

theorem quants_loop (y n : Int) (hy : -2147483648 ≤ y ∧ y ≤ 2147483647) (l : List Int) (hl : l.length ≤ 9223372036854775807) (hw : ∀ x ∈ l, -2147483648 ≤ x ∧ x ≤ 2147483647) : ∀ (d k i : Nat) (o : List Int), i + d = l.length → d < k → o.length = l.length →
    round_Quants.l0 k y n o l l.length i = some (o.take i ++ (l.drop i).map fun x => clamp (sh (x * y) (nn n)) (-128) 127) := by
  intro d
  induction d with
  | zero =>
    intro k i o hi hk ho
    obtain ⟨k, rfl⟩ : ∃ m, k = m + 1 := ⟨k - 1, by omega⟩
    simp only [round_Quants.l0]
    rw [if_neg (by omega), List.drop_of_length_le (by omega), List.take_of_length_le (by omega)]; simp
  | succ d ih =>
    intro k i o hi hk ho
    obtain ⟨k, rfl⟩ : ∃ m, k = m + 1 := ⟨k - 1, by omega⟩
    have hr := hw _ (rd_mem l i (by omega))
    simp only [round_Quants.l0]
    rw [if_pos (by omega), if_pos (by omega), if_pos (by omega), quant_eq _ _ _ hr hy, Option.bind_some, if_pos (by omega), next i _ (show i < l.length by omega) hl, ih k (i + 1) _ (by omega) (by omega) (by simp [ho]), drop_cons l i (by omega)]
    simp only [List.map_cons, Int.toNat_natCast]
    rw [List.take_add_one, List.getElem?_set_self (by omega), List.take_set_of_le (Nat.le_refl _)]
    simp
theorem quants_eq (y n : Int) (hy : -2147483648 ≤ y ∧ y ≤ 2147483647) (l : List Int) (hl : l.length ≤ 281474976710656) (hw : ∀ x ∈ l, -2147483648 ≤ x ∧ x ≤ 2147483647) (k : Nat) (hk : l.length < k) :
    round_Quants.f k y n l = some (l.map fun x => clamp (sh (x * y) (nn n)) (-128) 127) := by
  unfold round_Quants.f
  rw [if_pos (by omega), if_pos (by omega)]
  have := quants_loop y n hy l (by omega) hw l.length k 0 (List.replicate l.length 0) (by omega) hk (by simp)
  simpa using this

theorem rest31 (n : Int) (h : -9223372036854775808 ≤ n ∧ n ≤ 9223372036854775807) : ∃ m : Nat, Int.tmod (wrap64 (Int.tmod n 31 + 31)) 31 = m ∧ m ≤ 30 := by
  have h1 := Int.tmod_lt_of_pos n (show (0 : Int) < 31 by omega)
  have h2 := Int.lt_tmod_of_pos n (show (0 : Int) < 31 by omega)
  rw [wrap64_wf _ (by omega) (by omega), Int.tmod_eq_emod_of_nonneg (by omega)]
  exact ⟨((Int.tmod n 31 + 31) % 31).toNat, by omega, by omega⟩

theorem awake_ok (k : Nat) (hk : 10 ≤ k) : pelotonlaw01_awake.f k = some true :=
  at_rounds pelotonlaw01_awake.mono hk (by decide +kernel)

theorem RoundScales_l0 (l : List Int) (y n : Int) (hl : l.length ≤ 200) (hw : ∀ x ∈ l, -2147483648 ≤ x ∧ x ≤ 2147483647) (hy : -2147483648 ≤ y ∧ y ≤ 2147483647) : ∀ (d k i : Nat), i + d = l.length → d + 100 < k →
    pelotonlaw01_RoundScales.l0 k l y n (l.map fun x => clamp (sh (x * y) (nn n)) (-128) 127) i = some true := by
  intro d
  induction d with
  | zero =>
    intro k i hi hk
    obtain ⟨k, rfl⟩ : ∃ m, k = m + 1 := ⟨k - 1, by omega⟩
    simp only [pelotonlaw01_RoundScales.l0]
    rw [if_neg (by omega)]
  | succ d ih =>
    intro k i hi hk
    obtain ⟨k, rfl⟩ : ∃ m, k = m + 1 := ⟨k - 1, by omega⟩
    have hr := hw _ (rd_mem l i (by omega))
    simp only [pelotonlaw01_RoundScales.l0]
    rw [if_pos (by omega), if_pos (by omega), refscale_eq k (by omega) _ _ _ _ _ hr hy, refscale_eq k (by omega) _ _ _ _ _ hr hy, Option.bind_some, Option.bind_some, if_pos (by simp; omega), quant_eq _ _ _ hr hy, scale_eq _ _ _ hr hy, Option.bind_some, Option.bind_some]
    have c1 := clamp_range (sh (rd l (i : Int) * y) (nn n)) (-128) 127 (by omega); have c2 := clamp_range (sh (rd l (i : Int) * y) (nn n)) (-2147483648) 2147483647 (by omega)
    have hm : rd (l.map fun x => clamp (sh (x * y) (nn n)) (-128) 127) (i : Int) = clamp (sh (rd l (i : Int) * y) (nn n)) (-128) 127 := by
      rw [rd_nat _ i (by simp; omega), rd_nat l i (by omega), List.getElem_map]
    rw [hm, wrap64_wf (clamp _ (-128) 127) (by omega) (by omega), wrap64_wf (clamp _ _ _) (by omega) (by omega), if_pos rfl, if_pos rfl, if_pos rfl, next i _ (show i < l.length by omega) (by omega)]
    exact ih k (i + 1) (by omega) (by omega)
theorem RoundScales : pelotonlaw01_RoundScales.Pure := by
  intro l0 a1 a2 m0 n0 h0 h1 h2
  refine ⟨1001, ?_⟩
  unfold pelotonlaw01_RoundScales.f
  have ht : pelotonlaw01_RoundScales.j0 1001 l0 a1 a2 true = some true := by
    simp only [pelotonlaw01_RoundScales.j0]; simp [awake_ok 1000 (by omega)]
  rw [awake_ok 1001 (by omega)]
  simp only [Option.bind_some, if_true]
  by_cases c0 : (l0.length : Int) > 200
  · rw [decide_eq_true c0, ht]
  rw [decide_eq_false c0]
  simp only [pelotonlaw01_RoundScales.j0]
  rw [quants_eq a1 a2 (wf32 h1) l0 (by omega) (fun x hx => wf32 (h0 x hx)) 1000 (by omega)]
  have := RoundScales_l0 l0 a1 a2 (by omega) (fun x hx => wf32 (h0 x hx)) (wf32 h1) l0.length 1000 0 (by omega) (by omega)
  simpa using this

end Go.Proofs.Ytbbemkdfbiffbaa.Pure
