/- MatmulGrids: the law's plain part: what its functions compute answers true, for all arguments of its types. No condition beside the given bounds. -/
import Derived.Test.YtananmepljeldaaQMatmulGridsx6
import Derived.Test.YtananmepljeldaaMath
namespace Go.Proofs.Ytananmepljeldaa.Pure
open Go.RowKit Go.Proofs.Ytananmepljeldaa.QMatmulGrids Go.Proofs.YtananmepljeldaaW.PrintWords Go.Proofs.YtananmepljeldaaW.PrintLast Go.Proofs.YtananmepljeldaaW.PrintMore Go.PelMath
set_option linter.unusedVariables false
set_option linter.unusedSimpArgs false
theorem wf64 {x : Int} (h : (Lit.int .i64 x).wf = true) : -9223372036854775808 ≤ x ∧ x ≤ 9223372036854775807 := by
  simp [Lit.wf, IntKind.min, IntKind.max, IntKind.bits, IntKind.signed] at h; omega
theorem wf32 {x : Int} (h : (Lit.int .i32 x).wf = true) : -2147483648 ≤ x ∧ x ≤ 2147483647 := by
  simp [Lit.wf, IntKind.min, IntKind.max, IntKind.bits, IntKind.signed] at h; omega
theorem wf8 {x : Int} (h : (Lit.int .i8 x).wf = true) : -128 ≤ x ∧ x ≤ 127 := by
  simp [Lit.wf, IntKind.min, IntKind.max, IntKind.bits, IntKind.signed] at h; omega

def nn (n : Int) : Nat := (mn (mx n 0) 62).toNat
theorem nn_le (n : Int) : nn n ≤ 62 := by unfold nn mn mx; (repeat' split) <;> omega
theorem nn_of (n : Int) (h0 : 0 ≤ n) (h1 : n ≤ 62) : nn n = n.toNat := by unfold nn mn mx; (repeat' split) <;> omega

theorem and_mask (x : Int) (n : Nat) (h : n ≤ 62) : Go.bits .and .u64 (IntKind.u64.wrap x) (2 ^ n - 1) = x % 2 ^ n := by
  have hw : ∀ y : Int, IntKind.u64.wrap y = y % 18446744073709551616 := by intro y; simp [IntKind.wrap, IntKind.bits, IntKind.signed]
  rw [bits_mask .u64 64 (by decide) (by intro y h0 h1; rw [hw]; omega) n (by omega) _ (by rw [hw]; omega) (by rw [hw]; omega), hw]
  have hd : ((2 : Int) ^ n) ∣ 18446744073709551616 := ⟨2 ^ (64 - n), by rw [← Int.pow_add]; rw [show n + (64 - n) = 64 by omega]; rfl⟩
  exact Int.emod_emod_of_dvd x hd
theorem and_one (x : Int) (h0 : -9223372036854775808 ≤ x) (h1 : x ≤ 9223372036854775807) : Go.bits .and .i64 x 1 = x % 2 := by
  have e : bits .and .i64 x 1 = IntKind.i64.wrap (((BitVec.ofInt 64 x &&& BitVec.ofInt 64 1).toNat : Nat) : Int) := rfl
  rw [e, BitVec.toNat_and, BitVec.toNat_ofInt, BitVec.toNat_ofInt]
  have e1 : (((1 : Int) % ((2 ^ 64 : Nat) : Int)).toNat) = 1 := by decide
  rw [e1, Nat.and_one_is_mod, IntKind.wrap_i64]
  omega
theorem shift_eq (x n : Int) (h0 : -9223372036854775808 ≤ x) (h1 : x ≤ 9223372036854775807) : round_Shift.f x n = some (sh x (nn n)) := by
  have hn := nn_le n
  have hp := pow_pos' (nn n); have hq := pow_le62 (nn n) hn
  have hw : IntKind.u64.wrap (2 ^ nn n) = 2 ^ nn n := by
    have : ∀ y : Int, IntKind.u64.wrap y = y % 18446744073709551616 := by intro y; simp [IntKind.wrap, IntKind.bits, IntKind.signed]
    rw [this]; omega
  have hw1 : IntKind.u64.wrap (2 ^ nn n - 1) = 2 ^ nn n - 1 := by
    have : ∀ y : Int, IntKind.u64.wrap y = y % 18446744073709551616 := by intro y; simp [IntKind.wrap, IntKind.bits, IntKind.signed]
    rw [this]; omega
  unfold round_Shift.f
  simp only [show (mn (mx n 0) 62).toNat = nn n from rfl]
  have hm : mn (mx n 0) 62 = (nn n : Int) := by unfold nn mn mx; (repeat' split) <;> omega
  rw [hw]; try rw [hw1]
  rw [and_mask x _ hn, hm]
  have hpart := parts x (2 ^ nn n) hp
  obtain ⟨q, r, hx, g0, g1, e1, e2⟩ := hpart
  have hqb : -9223372036854775808 ≤ q ∧ q ≤ 9223372036854775807 ∧ (2 ≤ (2 : Int) ^ nn n → q < 9223372036854775807) := by
    have hlo : -9223372036854775808 ≤ x / 2 ^ nn n := by
      apply Int.le_ediv_of_mul_le hp
      have : (-9223372036854775808 : Int) * 2 ^ nn n ≤ -9223372036854775808 * 1 := Int.mul_le_mul_of_nonpos_left (by omega) (by omega)
      omega
    refine ⟨by omega, ?_, ?_⟩
    · rw [← e1]; apply Int.ediv_le_of_le_mul hp; 
      have : (9223372036854775807 : Int) * 1 ≤ 9223372036854775807 * 2 ^ nn n := Int.mul_le_mul_of_nonneg_left (by omega) (by omega)
      omega
    · intro h2
      rw [← e1]; apply Int.ediv_lt_of_lt_mul hp
      have : (9223372036854775807 : Int) * 2 ≤ 9223372036854775807 * 2 ^ nn n := Int.mul_le_mul_of_nonneg_left (by omega) (by omega)
      omega
  unfold sh; rw [e1, e2, and_one q (by omega) (by omega)]
  by_cases hz : nn n = 0
  · rw [hz] at g1 ⊢
    simp only [Int.pow_zero] at g1 ⊢
    have : r = 0 := by omega
    subst this; simp
  · obtain ⟨hh, he, hh0⟩ := pow_even (nn n) (by omega)
    rw [he] at g1 hqb ⊢
    have h2 := hqb.2.2 (by omega)
    have hwr : wrap64 (q + 1) = q + 1 := wrap64_wf _ (by omega) (by omega)
    rw [hwr, show (2 * hh) / 2 = hh by omega]
    have hnz : ((nn n : Nat) : Int) > 0 := by omega
    by_cases c1 : r > hh
    · rw [if_pos c1, if_pos (by omega)]
    · rw [if_neg c1]
      by_cases c2 : r = hh
      · rw [if_pos c2, if_pos hnz]
        by_cases c3 : q % 2 = 1
        · rw [if_pos c3, if_pos (by omega)]
        · rw [if_neg c3, if_neg (by omega)]
      · rw [if_neg c2, if_neg (by omega)]
theorem sh_range (x : Int) (n : Nat) (h0 : -9223372036854775808 ≤ x) (h1 : x ≤ 9223372036854775807) : -9223372036854775808 ≤ sh x n ∧ sh x n ≤ 9223372036854775807 := by
  by_cases hz : n = 0
  · rw [hz, sh_zero]; omega
  · have hp := pow_pos' n
    obtain ⟨hh, he, hh0⟩ := pow_even n (by omega)
    rw [sh_shd]
    have hm1 := shd_mono x 9223372036854775807 (2 ^ n) hp h1
    have hm2 := shd_mono (-9223372036854775808) x (2 ^ n) hp h0
    have e1 := shd_mono 9223372036854775807 (9223372036854775807 * 2 ^ n) (2 ^ n) hp (by
      have : (9223372036854775807 : Int) * 1 ≤ 9223372036854775807 * 2 ^ n := Int.mul_le_mul_of_nonneg_left (by omega) (by omega)
      omega)
    have e2 := shd_mono (-9223372036854775808 * 2 ^ n) (-9223372036854775808) (2 ^ n) hp (by
      have : (-9223372036854775808 : Int) * 2 ^ n ≤ -9223372036854775808 * 1 := Int.mul_le_mul_of_nonpos_left (by omega) (by omega)
      omega)
    rw [shd_mul _ _ hp] at e1 e2
    omega

def clamp (x a b : Int) : Int := if x < a then a else if b < x then b else x
theorem clamp_range (x a b : Int) (h : a ≤ b) : a ≤ clamp x a b ∧ clamp x a b ≤ b := by unfold clamp; (repeat' split) <;> omega
theorem clamp_mono (x y a b : Int) (h : a ≤ b) (hxy : x ≤ y) : clamp x a b ≤ clamp y a b := by unfold clamp; (repeat' split) <;> omega
theorem clamp_id (x a b : Int) (h0 : a ≤ x) (h1 : x ≤ b) : clamp x a b = x := by unfold clamp; (repeat' split) <;> omega

theorem sat8_eq (x : Int) : round_Sat8.f x = some (clamp x (-128) 127) := by
  unfold round_Sat8.f round_near_int8.f mn mx clamp
  simp only [Option.bind_some, Option.some.injEq]
  have hw : ∀ y : Int, -128 ≤ y → y ≤ 127 → IntKind.i8.wrap y = y := by
    intro y a b; simp [IntKind.wrap, IntKind.bits, IntKind.signed]; split <;> omega
  (repeat' split) <;> first | rfl | omega | (exact hw _ (by omega) (by omega)) | (rw [hw _ (by omega) (by omega)]; omega)

theorem mul32 (x y : Int) (hx : -2147483648 ≤ x ∧ x ≤ 2147483647) (hy : -2147483648 ≤ y ∧ y ≤ 2147483647) : -4611686018427387904 ≤ x * y ∧ x * y ≤ 4611686018427387904 := by
  have h := Int.natAbs_mul x y
  have h1 : x.natAbs ≤ 2147483648 := by omega
  have h2 : y.natAbs ≤ 2147483648 := by omega
  have h3 : x.natAbs * y.natAbs ≤ 2147483648 * 2147483648 := Nat.mul_le_mul h1 h2
  omega

theorem wrap32_range (x : Int) : -2147483648 ≤ wrap32 x ∧ wrap32 x ≤ 2147483647 := by unfold wrap32; omega
theorem wrap32_0 : wrap32 0 = 0 := by unfold wrap32; omega
theorem rd_nat (l : List Int) (i : Nat) (h : i < l.length) : rd l (i : Int) = l[i] := by
  unfold rd; simp [List.getD, h]
theorem drop_cons (l : List Int) (i : Nat) (h : i < l.length) : l.drop i = rd l (i : Int) :: l.drop (i + 1) := by
  rw [rd_nat l i h, List.drop_eq_getElem_cons h]
theorem rd_mem (l : List Int) (i : Nat) (h : i < l.length) : rd l (i : Int) ∈ l := by rw [rd_nat l i h]; exact List.getElem_mem h
theorem next (i n : Nat) (h : i < n) (hn : n ≤ 9223372036854775807) : wrap64 ((i : Int) + 1) = ((i + 1 : Nat) : Int) := by
  rw [wrap64_wf _ (by omega) (by omega)]; omega

theorem refmod_eq (x : Int) (h0 : -9223372036854775808 ≤ x) (h1 : x ≤ 9223372036854775807) : pelotonref01_Mod.f x = some (wrap32 x) := by
  unfold pelotonref01_Mod.f
  rw [Int.tmod_eq_emod]
  unfold wrap32 wrap64
  have hs : Int.natAbs 4294967296 = 4294967296 := rfl
  have hdv : (4294967296 : Int) ∣ x ↔ x % 4294967296 = 0 := ⟨Int.emod_eq_zero_of_dvd, Int.dvd_of_emod_eq_zero⟩
  by_cases hc : 0 ≤ x ∨ (4294967296 : Int) ∣ x
  · rw [if_pos hc]; simp only [Int.cast_ofNat_Int, Int.sub_zero]
    (repeat' split) <;> (simp only [Option.some.injEq]; omega)
  · rw [if_neg hc]
    rw [hdv] at hc
    (repeat' split) <;> (simp only [Option.some.injEq]; omega)

theorem refwrap_loop (l : List Int) (hl : l.length ≤ 9223372036854775807) (hw : ∀ x ∈ l, -9223372036854775808 ≤ x ∧ x ≤ 9223372036854775807) : ∀ (d k i : Nat) (s : Int), i + d = l.length → d < k →
    pelotonref01_Wrap.l0 k l (wrap32 s) i = some (wrap32 (s + tot (l.drop i))) := by
  intro d
  induction d with
  | zero =>
    intro k i s hi hk
    obtain ⟨k, rfl⟩ : ∃ m, k = m + 1 := ⟨k - 1, by omega⟩
    simp only [pelotonref01_Wrap.l0]
    rw [if_neg (by omega), List.drop_of_length_le (by omega)]; simp [tot, wrap32_wrap32]
  | succ d ih =>
    intro k i s hi hk
    obtain ⟨k, rfl⟩ : ∃ m, k = m + 1 := ⟨k - 1, by omega⟩
    have hr := hw _ (rd_mem l i (by omega))
    have w1 := wrap32_range s; have w2 := wrap32_range (rd l (i : Int))
    simp only [pelotonref01_Wrap.l0]
    rw [if_pos (by omega), if_pos (by omega), refmod_eq _ hr.1 hr.2, Option.bind_some, wrap64_wf (wrap32 (rd l (i : Int))) (by omega) (by omega), wrap64_wf (wrap32 s + _) (by omega) (by omega), refmod_eq _ (by omega) (by omega), Option.bind_some]
    have w3 := wrap32_range (wrap32 s + wrap32 (rd l (i : Int)))
    rw [wrap64_wf _ (by omega) (by omega), next i _ (by omega) hl, ih k (i + 1) _ (by omega) (by omega), drop_cons l i (by omega)]
    simp only [tot]
    rw [show ∀ a b c : Int, wrap32 (wrap32 a + wrap32 b + c) = wrap32 (a + (b + c)) from fun a b c => by unfold wrap32; omega]
theorem refwrap_eq (l : List Int) (hl : l.length ≤ 9223372036854775807) (hw : ∀ x ∈ l, -9223372036854775808 ≤ x ∧ x ≤ 9223372036854775807) (k : Nat) (hk : l.length < k) : pelotonref01_Wrap.f k l = some (wrap32 (tot l)) := by
  unfold pelotonref01_Wrap.f
  have := refwrap_loop l hl hw l.length k 0 0 (by omega) hk
  rw [wrap32_0] at this; simpa using this

def dotI : List Int → List Int → Int
  | x :: a, y :: b => x * y + dotI a b
  | _, _ => 0
def prods : List Int → List Int → List Int
  | x :: a, y :: b => x * y :: prods a b
  | _, _ => []
theorem dotI_nil (a : List Int) : dotI a [] = 0 := by cases a <;> rfl
theorem tot_prods (a : List Int) : ∀ b, tot (prods a b) = dotI a b := by
  induction a with
  | nil => intro b; rfl
  | cons x a ih => intro b; cases b with
    | nil => rfl
    | cons y b => simp only [prods, tot, dotI, ih]
theorem prods_length (a : List Int) : ∀ b, (prods a b).length ≤ a.length := by
  induction a with
  | nil => intro b; simp [prods]
  | cons x a ih => intro b; cases b with
    | nil => simp [prods]
    | cons y b => simp only [prods, List.length_cons]; have := ih b; omega

theorem dotI_split (a : List Int) : ∀ (b : List Int) (k n : Nat), k ≤ n → n = min a.length b.length →
    dotI a b = dotI (a.take k) (b.take k) + dotI ((a.take n).drop k) ((b.take n).drop k) := by
  induction a with
  | nil => intro b k n h hn; simp [dotI]
  | cons x a ih =>
    intro b k n h hn
    cases b with
    | nil => simp [dotI_nil]
    | cons y b =>
      simp only [List.length_cons] at hn
      obtain ⟨n, rfl⟩ : ∃ m, n = m + 1 := ⟨n - 1, by omega⟩
      cases k with
      | zero =>
        have := ih b 0 n (by omega) (by omega)
        simp only [List.take_zero, List.drop_zero, dotI, Int.zero_add, List.take_succ_cons] at this ⊢
        rw [this]
      | succ k =>
        have := ih b k n (by omega) (by omega)
        simp only [List.take_succ_cons, List.drop_succ_cons, dotI]
        rw [this]; omega

theorem rest9 (n : Int) (h : -9223372036854775808 ≤ n ∧ n ≤ 9223372036854775807) : ∃ m : Nat, Int.tmod (wrap64 (Int.tmod n 9 + 9)) 9 = m ∧ m ≤ 8 := by
  have h1 := Int.tmod_lt_of_pos n (show (0 : Int) < 9 by omega)
  have h2 := Int.lt_tmod_of_pos n (show (0 : Int) < 9 by omega)
  rw [wrap64_wf _ (by omega) (by omega), Int.tmod_eq_emod_of_nonneg (by omega)]
  exact ⟨((Int.tmod n 9 + 9) % 9).toNat, by omega, by omega⟩

theorem dot_loop (a b : List Int) (ha : a.length ≤ 9223372036854775807) (hw : ∀ x ∈ a, -128 ≤ x ∧ x ≤ 127) (hv : ∀ x ∈ b, -128 ≤ x ∧ x ≤ 127) : ∀ (d k i : Nat) (s : Int), i + d = min a.length b.length → d < k →
    round_Dot.l0 k a b (wrap32 s) (min a.length b.length : Nat) i = some (wrap32 (s + dotI (a.drop i) (b.drop i))) := by
  intro d
  induction d with
  | zero =>
    intro k i s hi hk
    obtain ⟨k, rfl⟩ : ∃ m, k = m + 1 := ⟨k - 1, by omega⟩
    simp only [round_Dot.l0]
    rw [if_neg (by omega)]
    by_cases hc : i < a.length
    · rw [List.drop_of_length_le (l := b) (by omega), dotI_nil]; simp
    · rw [List.drop_of_length_le (l := a) (by omega)]; simp [dotI]
  | succ d ih =>
    intro k i s hi hk
    obtain ⟨k, rfl⟩ : ∃ m, k = m + 1 := ⟨k - 1, by omega⟩
    have hr := hw _ (rd_mem a i (by omega)); have hq := hv _ (rd_mem b i (by omega))
    simp only [round_Dot.l0]
    rw [if_pos (by omega), if_pos (by omega), if_pos (by omega), if_pos (by omega), next i _ (show i < a.length by omega) ha,
      wrap32_wf (rd a (i : Int)) (by omega) (by omega), wrap32_wf (rd b (i : Int)) (by omega) (by omega), wrap32_add_left, wrap32_add_right, ih k (i + 1) _ (by omega) (by omega), drop_cons a i (by omega), drop_cons b i (by omega)]
    simp only [dotI]
    rw [Int.add_assoc]
theorem dot_eq (a b : List Int) (ha : a.length ≤ 9223372036854775807) (hw : ∀ x ∈ a, -128 ≤ x ∧ x ≤ 127) (hv : ∀ x ∈ b, -128 ≤ x ∧ x ≤ 127) (k : Nat) (hk : a.length < k) : round_Dot.f k a b = some (wrap32 (dotI a b)) := by
  unfold round_Dot.f
  rw [show mn (a.length : Int) (b.length : Int) = ((min a.length b.length : Nat) : Int) by unfold mn; split <;> omega]
  have := dot_loop a b ha hw hv (min a.length b.length) k 0 0 (by omega) (by omega)
  rw [wrap32_0] at this; simpa using this

theorem quant_eq (x y n : Int) (hx : -2147483648 ≤ x ∧ x ≤ 2147483647) (hy : -2147483648 ≤ y ∧ y ≤ 2147483647) : round_Quant.f x y n = some (clamp (sh (x * y) (nn n)) (-128) 127) := by
  have hp := mul32 x y hx hy
  unfold round_Quant.f
  rw [wrap64_wf x (by omega) (by omega), wrap64_wf y (by omega) (by omega), wrap64_wf (x * y) (by omega) (by omega), shift_eq _ n (by omega) (by omega), Option.bind_some, sat8_eq, Option.bind_some]

theorem quants_loop (y n : Int) (hy : -2147483648 ≤ y ∧ y ≤ 2147483647) (l : List Int) (hl : l.length ≤ 9223372036854775807) (hw : ∀ x ∈ l, -2147483648 ≤ x ∧ x ≤ 2147483647) : ∀ (d k i : Nat) (o : List Int), i + d = l.length → d < k → o.length = l.length →
    round_Quants.l0 k y n o l l.length i = some (o.take i ++ (l.drop i).map fun x => clamp (sh (x * y) (nn n)) (-128) 127) := by
  intro d
  induction d with
  | zero =>
    intro k i o hi hk ho
    obtain ⟨k, rfl⟩ : ∃ m, k = m + 1 := ⟨k - 1, by omega⟩
    simp only [round_Quants.l0]
    rw [if_neg (by omega), List.drop_of_length_le (by omega), List.take_of_length_le (by omega)]; simp
  | succ d ih =>
    intro k i o hi hk ho
    obtain ⟨k, rfl⟩ : ∃ m, k = m + 1 := ⟨k - 1, by omega⟩
    have hr := hw _ (rd_mem l i (by omega))
    simp only [round_Quants.l0]
    rw [if_pos (by omega), if_pos (by omega), if_pos (by omega), quant_eq _ _ _ hr hy, Option.bind_some, if_pos (by omega), next i _ (show i < l.length by omega) hl, ih k (i + 1) _ (by omega) (by omega) (by simp [ho]), drop_cons l i (by omega)]
    simp only [List.map_cons, Int.toNat_natCast]
    rw [List.take_add_one, List.getElem?_set_self (by omega), List.take_set_of_le (Nat.le_refl _)]
    simp
theorem quants_eq (y n : Int) (hy : -2147483648 ≤ y ∧ y ≤ 2147483647) (l : List Int) (hl : l.length ≤ 281474976710656) (hw : ∀ x ∈ l, -2147483648 ≤ x ∧ x ≤ 2147483647) (k : Nat) (hk : l.length < k) :
    round_Quants.f k y n l = some (l.map fun x => clamp (sh (x * y) (nn n)) (-128) 127) := by
  unfold round_Quants.f
  rw [if_pos (by omega), if_pos (by omega)]
  have := quants_loop y n hy l (by omega) hw l.length k 0 (List.replicate l.length 0) (by omega) hk (by simp)
  simpa using this

theorem rest31 (n : Int) (h : -9223372036854775808 ≤ n ∧ n ≤ 9223372036854775807) : ∃ m : Nat, Int.tmod (wrap64 (Int.tmod n 31 + 31)) 31 = m ∧ m ≤ 30 := by
  have h1 := Int.tmod_lt_of_pos n (show (0 : Int) < 31 by omega)
  have h2 := Int.lt_tmod_of_pos n (show (0 : Int) < 31 by omega)
  rw [wrap64_wf _ (by omega) (by omega), Int.tmod_eq_emod_of_nonneg (by omega)]
  exact ⟨((Int.tmod n 31 + 31) % 31).toNat, by omega, by omega⟩

theorem mulb {a b A B : Int} (h0 : 0 ≤ a) (h1 : a ≤ A) (h2 : 0 ≤ b) (h3 : b ≤ B) : 0 ≤ a * b ∧ a * b ≤ A * B :=
  ⟨Int.mul_nonneg h0 h2, Int.mul_le_mul h1 h3 h2 (Int.le_trans h0 h1)⟩

def RightM (r c : Int) (n : Nat) : Prop := 0 ≤ r ∧ r ≤ 4096 ∧ 0 ≤ c ∧ c ≤ 4096 ∧ (n : Int) = r * c ∧ n ≤ 1048576
instance (r c : Int) (n : Nat) : Decidable (RightM r c n) := by unfold RightM; infer_instance

theorem side_eq (n : Int) : matmul_side.f n = some (decide (0 ≤ n ∧ n ≤ 4096)) := by
  unfold matmul_side.f
  by_cases h : 0 ≤ n
  · rw [if_pos h]; simp [h]
  · rw [if_neg h]; simp [h]
theorem wrong_eq (r c : Int) (v : List Int) : matmul_wrong.f r c v = some (!decide (RightM r c v.length)) := by
  unfold matmul_wrong.f
  rw [side_eq, side_eq]
  simp only [Option.bind_some, decide_eq_true_eq]
  by_cases h1 : 0 ≤ r ∧ r ≤ 4096
  · rw [if_pos h1]
    by_cases h2 : 0 ≤ c ∧ c ≤ 4096
    · rw [if_pos h2]
      have hb := mulb h1.1 h1.2 h2.1 h2.2
      rw [wrap64_wf _ (by omega) (by omega)]
      by_cases h3 : (v.length : Int) = r * c
      · rw [if_pos h3]
        by_cases h4 : (v.length : Int) > 1048576
        · rw [decide_eq_true h4, decide_eq_false (fun h => by obtain ⟨_, _, _, _, _, _⟩ := h; omega)]; rfl
        · have hm : RightM r c v.length := ⟨h1.1, h1.2, h2.1, h2.2, h3, by omega⟩
          rw [decide_eq_false h4, decide_eq_true hm]; rfl
      · rw [if_neg h3, decide_eq_false (fun h => h3 h.2.2.2.2.1)]; rfl
    · rw [if_neg h2, decide_eq_false (fun h => h2 ⟨h.2.2.1, h.2.2.2.1⟩)]; rfl
  · rw [if_neg h1, decide_eq_false (fun h => h1 ⟨h.1, h.2.1⟩)]; rfl

def rowOf (v : List Int) (c i : Nat) : List Int := (v.take ((i + 1) * c)).drop (i * c)
def applyS (r c : Nat) (v x : List Int) : List Int := (List.range r).map fun i => wrap32 (dotI (rowOf v c i) x)
theorem applyS_length (r c : Nat) (v x : List Int) : (applyS r c v x).length = r := by simp [applyS]
theorem row_in (v : List Int) (r c i : Nat) (h : v.length = r * c) (hi : i < r) : i * c + c ≤ v.length := by
  have := Nat.mul_le_mul_right c (show i + 1 ≤ r by omega)
  rw [Nat.add_mul] at this; omega
theorem rowOf_length (v : List Int) (r c i : Nat) (h : v.length = r * c) (hi : i < r) : (rowOf v c i).length = c := by
  have := row_in v r c i h hi
  simp only [rowOf, List.length_drop, List.length_take, Nat.add_mul]; omega
theorem rowOf_mem {v : List Int} {c i : Nat} {x : Int} (h : x ∈ rowOf v c i) : x ∈ v := List.mem_of_mem_take (List.mem_of_mem_drop h)
theorem rowOf_rd (v : List Int) (r c i j : Nat) (h : v.length = r * c) (hi : i < r) (hj : j < c) : rd (rowOf v c i) (j : Int) = rd v ((i * c + j : Nat) : Int) := by
  have h1 := row_in v r c i h hi
  have h2 := rowOf_length v r c i h hi
  rw [rd_nat _ j (by omega), rd_nat v _ (by omega)]
  simp only [rowOf, List.getElem_drop, List.getElem_take]
theorem map_range_drop (n i : Nat) (f : Nat → Int) (h : i < n) : ((List.range n).map f).drop i = f i :: ((List.range n).map f).drop (i + 1) := by
  rw [List.drop_eq_getElem_cons (by simpa using h)]; simp
theorem applyS_drop (r c i : Nat) (v x : List Int) (h : i < r) : (applyS r c v x).drop i = wrap32 (dotI (rowOf v c i) x) :: (applyS r c v x).drop (i + 1) := map_range_drop r i _ h
theorem applyS_rd (r c i : Nat) (v x : List Int) (h : i < r) : rd (applyS r c v x) (i : Int) = wrap32 (dotI (rowOf v c i) x) := by
  rw [rd_nat _ i (by rw [applyS_length]; exact h)]; simp [applyS]
theorem applyS_congr (r c : Nat) (v x : List Int) (f : Nat → Int) (h : ∀ i, i < r → wrap32 (dotI (rowOf v c i) x) = f i) : applyS r c v x = (List.range r).map f := by
  apply List.map_congr_left; intro i hi; exact h i (List.mem_range.1 hi)
theorem rowOf_eq (v : List Int) (c i : Nat) : (v.take ((i + 1) * c)).drop (i * c) = rowOf v c i := rfl
attribute [irreducible] rowOf applyS

theorem apply_loop (r c : Nat) (v x : List Int) (hr : r ≤ 4096) (hc : c ≤ 4096) (hv : v.length = r * c) (hvl : v.length ≤ 1048576) (hw : ∀ y ∈ v, -128 ≤ y ∧ y ≤ 127) (hx : ∀ y ∈ x, -128 ≤ y ∧ y ≤ 127) : ∀ (d k i : Nat) (o : List Int), i + d = r → d + 4100 < k → o.length = r →
    matmul_Apply.l0 k x o (r : Int) i r c v = some (o.take i ++ (applyS r c v x).drop i, 0) := by
  intro d
  induction d with
  | zero =>
    intro k i o hi hk ho
    obtain ⟨k, rfl⟩ : ∃ m, k = m + 1 := ⟨k - 1, by omega⟩
    simp only [matmul_Apply.l0]
    rw [if_neg (by omega), List.drop_of_length_le (by rw [applyS_length]; omega), List.take_of_length_le (by omega)]; simp
  | succ d ih =>
    intro k i o hi hk ho
    obtain ⟨k, rfl⟩ : ∃ m, k = m + 1 := ⟨k - 1, by omega⟩
    have hin := row_in v r c i hv (by omega)
    have e3 : (i + 1) * c = i * c + c := by rw [Nat.add_mul, Nat.one_mul]
    simp only [matmul_Apply.l0]
    rw [next i r (by omega) (by omega), w_mul i c (by omega), w_mul (i + 1) c (by omega), if_pos (by omega), if_pos (by omega), if_pos (by omega), if_pos (by omega)]
    simp only [Int.toNat_natCast]
    rw [rowOf_eq, dot_eq _ _ (by rw [rowOf_length v r c i hv (by omega)]; omega) (fun y hy => hw y (rowOf_mem hy)) hx k (by rw [rowOf_length v r c i hv (by omega)]; omega), Option.bind_some, if_pos (by omega), if_pos (by omega), ih k (i + 1) _ (by omega) (by omega) (by simp [ho])]
    rw [applyS_drop r c i v x (by omega)]
    rw [List.take_add_one, List.getElem?_set_self (by omega), List.take_set_of_le (Nat.le_refl _)]
    simp
theorem apply_eq (r c : Nat) (v x : List Int) (hm : RightM r c v.length) (hxl : x.length = c) (hw : ∀ y ∈ v, -128 ≤ y ∧ y ≤ 127) (hx : ∀ y ∈ x, -128 ≤ y ∧ y ≤ 127) (k : Nat) (hk : 9000 < k) :
    matmul_Apply.f k r c v x = some (applyS r c v x, 0) := by
  obtain ⟨k, rfl⟩ : ∃ m, k = m + 1 := ⟨k - 1, by omega⟩
  obtain ⟨m1, m2, m3, m4, m5, m6⟩ := id hm
  have hv : v.length = r * c := by exact_mod_cast m5
  unfold matmul_Apply.f
  rw [wrong_eq, decide_eq_true hm]
  simp only [Option.bind_some, Bool.not_true, Bool.false_eq_true, if_false, hxl, bne_self_eq_false]
  simp only [matmul_Apply.j0]
  rw [if_neg (by simp), if_pos (by omega), if_pos (by omega), Option.bind_some]
  simp only [Int.toNat_natCast, List.length_replicate]
  rw [show (0 : Int) = ((0 : Nat) : Int) from rfl]
  rw [apply_loop r c v x (by omega) (by omega) hv m6 hw hx r k 0 (List.replicate r ((0 : Nat) : Int)) (by omega) (by omega) (by simp)]
  simp
theorem apply_bad (r c : Int) (v x : List Int) (h : ¬ (RightM r c v.length ∧ (x.length : Int) = c)) (k : Nat) (hk : 2 < k) : matmul_Apply.f k r c v x = some ([], 30) := by
  obtain ⟨k, rfl⟩ : ∃ m, k = m + 1 := ⟨k - 1, by omega⟩
  unfold matmul_Apply.f
  rw [wrong_eq]
  by_cases hm : RightM r c v.length
  · have hne : (x.length : Int) ≠ c := fun e => h ⟨hm, e⟩
    rw [decide_eq_true hm]
    simp only [Option.bind_some, Bool.not_true, Bool.false_eq_true, if_false]
    rw [bne_iff_ne.2 hne]
    simp [matmul_Apply.j0]
  · rw [decide_eq_false hm]
    simp [matmul_Apply.j0]

theorem ints_loop (a b : List Int) (ha : a.length ≤ 9223372036854775807) (hab : a.length = b.length) : ∀ (d k i : Nat), i + d = a.length → d < k →
    pelotonref04_Ints.l0 k a b i = some (decide (a.drop i = b.drop i)) := by
  intro d
  induction d with
  | zero =>
    intro k i hi hk
    obtain ⟨k, rfl⟩ : ∃ m, k = m + 1 := ⟨k - 1, by omega⟩
    simp only [pelotonref04_Ints.l0]
    rw [if_neg (by omega), List.drop_of_length_le (by omega), List.drop_of_length_le (by omega)]; simp
  | succ d ih =>
    intro k i hi hk
    obtain ⟨k, rfl⟩ : ∃ m, k = m + 1 := ⟨k - 1, by omega⟩
    simp only [pelotonref04_Ints.l0]
    rw [if_pos (by omega), if_pos (by omega), if_pos (by omega), next i _ (show i < a.length by omega) ha, ih k (i + 1) (by omega) (by omega), drop_cons a i (by omega), drop_cons b i (by omega)]
    by_cases hc : rd a (i : Int) = rd b (i : Int)
    · rw [if_pos hc]; simp [hc]
    · rw [if_neg hc]; simp [hc]
theorem ints_eq (a b : List Int) (ha : a.length ≤ 9223372036854775807) (k : Nat) (hk : a.length < k) : pelotonref04_Ints.f k a b = some (decide (a = b)) := by
  unfold pelotonref04_Ints.f
  by_cases h : (a.length : Int) = b.length
  · rw [if_pos h]
    have := ints_loop a b ha (by omega) a.length k 0 (by omega) hk
    simpa using this
  · rw [if_neg h, decide_eq_false (fun e => h (by rw [e]))]

def spansS (n parts : Nat) : List Int := (List.range (parts + 1)).map fun i => ((i * n / parts : Nat) : Int)
theorem spansS_length (n parts : Nat) : (spansS n parts).length = parts + 1 := by simp [spansS]
theorem spansS_rd (n parts i : Nat) (h : i ≤ parts) : rd (spansS n parts) (i : Int) = ((i * n / parts : Nat) : Int) := by
  rw [rd_nat _ i (by rw [spansS_length]; omega)]; simp [spansS]
theorem spansS_drop (n parts i : Nat) (h : i < parts + 1) : (spansS n parts).drop i = ((i * n / parts : Nat) : Int) :: (spansS n parts).drop (i + 1) := map_range_drop (parts + 1) i _ h
attribute [irreducible] spansS
theorem spans_loop (n parts : Nat) (hn : n ≤ 1099511627776) (hp0 : 1 ≤ parts) (hp : parts ≤ 4096) : ∀ (d k i : Nat) (o : List Int), i + d = parts + 1 → d < k → o.length = parts + 1 →
    matmul_Spans.l0 k n parts o ((parts + 1 : Nat) : Int) i = some (o.take i ++ (spansS n parts).drop i, 0) := by
  intro d
  induction d with
  | zero =>
    intro k i o hi hk ho
    obtain ⟨k, rfl⟩ : ∃ m, k = m + 1 := ⟨k - 1, by omega⟩
    simp only [matmul_Spans.l0]
    rw [if_neg (by omega), List.drop_of_length_le (by rw [spansS_length]; omega), List.take_of_length_le (by omega)]; simp
  | succ d ih =>
    intro k i o hi hk ho
    obtain ⟨k, rfl⟩ : ∃ m, k = m + 1 := ⟨k - 1, by omega⟩
    have hb : i * n ≤ 4096 * 1099511627776 := Nat.mul_le_mul (by omega) hn
    simp only [matmul_Spans.l0]
    rw [if_pos (by omega), if_neg (by omega), if_pos (by omega), if_pos (by omega), next i (parts + 1) (by omega) (by omega), w_mul i n (by omega), w_div (i * n) parts (by omega), ih k (i + 1) _ (by omega) (by omega) (by simp [ho])]
    rw [spansS_drop n parts i (by omega)]
    simp only [Int.toNat_natCast]
    rw [List.take_add_one, List.getElem?_set_self (by omega), List.take_set_of_le (Nat.le_refl _)]
    simp
theorem spans_eq (n parts : Nat) (hn : n ≤ 1099511627776) (hp0 : 1 ≤ parts) (hp : parts ≤ 4096) (k : Nat) (hk : 5000 < k) : matmul_Spans.f k n parts = some (spansS n parts, 0) := by
  obtain ⟨k, rfl⟩ : ∃ m, k = m + 1 := ⟨k - 1, by omega⟩
  unfold matmul_Spans.f
  rw [if_neg (by omega), if_neg (by omega), if_neg (by omega), decide_eq_false (by omega)]
  simp only [matmul_Spans.j0]
  rw [show wrap64 ((parts : Int) + 1) = ((parts + 1 : Nat) : Int) from w_add parts 1 (by omega), if_neg (by simp), if_pos (by omega), if_pos (by omega), Option.bind_some]
  simp only [Int.toNat_natCast, List.length_replicate]
  rw [show (0 : Int) = ((0 : Nat) : Int) from rfl]
  rw [spans_loop n parts hn hp0 hp (parts + 1) k 0 (List.replicate (parts + 1) ((0 : Nat) : Int)) (by omega) (by omega) (by simp)]
  simp
theorem spans_bad (n parts : Int) (h : n < 0 ∨ n > 1099511627776 ∨ parts < 1 ∨ parts > 4096) (k : Nat) (hk : 2 < k) : matmul_Spans.f k n parts = some ([], 2) := by
  obtain ⟨k, rfl⟩ : ∃ m, k = m + 1 := ⟨k - 1, by omega⟩
  have hj : matmul_Spans.j0 (k + 1) n parts true = some ([], 2) := by simp [matmul_Spans.j0]
  unfold matmul_Spans.f
  rw [hj]
  by_cases h1 : n < 0
  · rw [if_pos h1]
  · rw [if_neg h1]
    by_cases h2 : n > 1099511627776
    · rw [if_pos h2]
    · rw [if_neg h2]
      by_cases h3 : parts < 1
      · rw [if_pos h3]
      · rw [if_neg h3, decide_eq_true (by omega), hj]

def partS (v : List Int) (c lo hi : Nat) : Nat → Nat → List Int
  | 0, _ => []
  | d + 1, i => (v.take (i * c + hi)).drop (i * c + lo) ++ partS v c lo hi d (i + 1)
theorem seg_length (v : List Int) (a b : Nat) (h : b ≤ v.length) : ((v.take b).drop a).length = b - a := by
  simp only [List.length_drop, List.length_take]; omega
theorem seg_mem {v : List Int} {a b : Nat} {x : Int} (h : x ∈ (v.take b).drop a) : x ∈ v := List.mem_of_mem_take (List.mem_of_mem_drop h)
theorem seg_join (v : List Int) (a m b : Nat) (h0 : a ≤ m) (h1 : m ≤ b) (h2 : b ≤ v.length) : (v.take m).drop a ++ (v.take b).drop m = (v.take b).drop a := by
  have e : v.take m = (v.take b).take m := by rw [List.take_take, Nat.min_eq_left h1]
  have hl : (v.take b).length = b := by rw [List.length_take]; omega
  generalize v.take b = w at *
  rw [e]
  conv => rhs; rw [← List.take_append_drop m w]
  rw [List.drop_append, List.length_take]
  rw [show a - min m w.length = 0 by omega]; rfl
theorem seg_full (v : List Int) (b : Nat) : (v.take b).drop b = [] := by
  apply List.drop_eq_nil_of_le; rw [List.length_take]; omega
theorem seg_cons (v : List Int) (a b : Nat) (h0 : a < b) (h1 : b ≤ v.length) : (v.take b).drop a = rd v (a : Int) :: (v.take b).drop (a + 1) := by
  rw [List.drop_eq_getElem_cons (by rw [List.length_take]; omega), List.getElem_take, rd_nat v a (by omega)]
theorem row_end (v : List Int) (r c i : Nat) (h : v.length = r * c) (hi : i < r) : i * c + c ≤ v.length := by
  have := Nat.mul_le_mul_right c (show i + 1 ≤ r by omega)
  rw [Nat.add_mul] at this; omega
theorem partS_mem (v : List Int) (c lo hi : Nat) : ∀ d i x, x ∈ partS v c lo hi d i → x ∈ v := by
  intro d
  induction d with
  | zero => intro i x h; simp [partS] at h
  | succ d ih =>
    intro i x h
    rw [partS, List.mem_append] at h
    rcases h with h | h
    · exact seg_mem h
    · exact ih _ _ h
theorem partS_length (v : List Int) (r c lo hi : Nat) (hv : v.length = r * c) (h0 : lo ≤ hi) (h1 : hi ≤ c) : ∀ d i, i + d ≤ r → (partS v c lo hi d i).length = d * (hi - lo) := by
  intro d
  induction d with
  | zero => intro i h; simp [partS]
  | succ d ih =>
    intro i h
    have := row_end v r c i hv (by omega)
    rw [partS, List.length_append, ih (i + 1) (by omega), seg_length _ _ _ (by omega), Nat.add_mul]; omega
theorem partS_rows (v : List Int) (r c : Nat) (hv : v.length = r * c) : ∀ d i, i + d ≤ r → partS v c 0 c d i = (v.take ((i + d) * c)).drop (i * c) := by
  intro d
  induction d with
  | zero => intro i h; rw [partS, Nat.add_zero, seg_full]
  | succ d ih =>
    intro i h
    have h1 := row_end v r c i hv (by omega)
    have h2 : (i + (d + 1)) * c ≤ v.length := by rw [hv]; exact Nat.mul_le_mul_right c h
    have h3 : (i + 1) * c = i * c + c := by rw [Nat.add_mul, Nat.one_mul]
    have h4 : (i + 1) * c ≤ (i + (d + 1)) * c := Nat.mul_le_mul_right c (by omega)
    rw [partS, ih (i + 1) (by omega), h3, show i + 1 + d = i + (d + 1) by omega, Nat.add_zero]
    exact seg_join v _ _ _ (by omega) (by omega) h2
attribute [irreducible] partS

theorem wide_loop (v : List Int) (r c : Int) (hvl : v.length ≤ 1048576) : ∀ (d k i : Nat) (o : List Int), i + d = v.length → d < k → o.length = v.length →
    matmul_Wide.l0 k v (v.length : Int) i r c o = some (r, c, o.take i ++ (v.map wrap32).drop i, 0) := by
  intro d
  induction d with
  | zero =>
    intro k i o hi hk ho
    obtain ⟨k, rfl⟩ : ∃ m, k = m + 1 := ⟨k - 1, by omega⟩
    simp only [matmul_Wide.l0]
    rw [if_neg (by omega), List.drop_of_length_le (by rw [List.length_map]; omega), List.take_of_length_le (by omega)]; simp
  | succ d ih =>
    intro k i o hi hk ho
    obtain ⟨k, rfl⟩ : ∃ m, k = m + 1 := ⟨k - 1, by omega⟩
    simp only [matmul_Wide.l0]
    rw [if_pos (by omega), if_pos (by omega), if_pos (by omega), if_pos (by omega), next i v.length (by omega) (by omega), ih k (i + 1) _ (by omega) (by omega) (by simp [ho])]
    have e : (v.map wrap32).drop i = wrap32 (rd v (i : Int)) :: (v.map wrap32).drop (i + 1) := by
      rw [List.drop_eq_getElem_cons (by rw [List.length_map]; omega), List.getElem_map, rd_nat v i (by omega)]
    rw [e]
    simp only [Int.toNat_natCast]
    rw [List.take_add_one, List.getElem?_set_self (by omega), List.take_set_of_le (Nat.le_refl _)]
    simp
theorem wide_bad (k : Nat) (r c : Int) (v : List Int) (h : ¬ RightM r c v.length) : matmul_Wide.f k r c v = some (0, 0, [], 30) := by
  unfold matmul_Wide.f; rw [wrong_eq, decide_eq_false h]; rfl
theorem wide_eq (k : Nat) (r c : Int) (v : List Int) (h : RightM r c v.length) (hk : v.length < k) : matmul_Wide.f k r c v = some (r, c, v.map wrap32, 0) := by
  have hvl := h.2.2.2.2.2
  unfold matmul_Wide.f; rw [wrong_eq, decide_eq_true h]
  simp only [Option.bind_some, Bool.not_true, Bool.false_eq_true, if_false]
  rw [if_pos (by omega), if_pos (by omega)]
  have := wide_loop v r c hvl v.length k 0 (List.replicate v.length 0) (by omega) hk (by simp)
  simpa using this

theorem same_loop (r c r' c' : Int) (a b : List Int) (ha : a.length ≤ 9223372036854775807) (hab : a.length = b.length) : ∀ (d k i : Nat), i + d = a.length → d < k →
    pelotonref04_Same.l0 k i r c a r' c' b = some (decide (a.drop i = b.drop i)) := by
  intro d
  induction d with
  | zero =>
    intro k i hi hk
    obtain ⟨k, rfl⟩ : ∃ m, k = m + 1 := ⟨k - 1, by omega⟩
    simp only [pelotonref04_Same.l0]
    rw [if_neg (by omega), List.drop_of_length_le (by omega), List.drop_of_length_le (by omega)]; simp
  | succ d ih =>
    intro k i hi hk
    obtain ⟨k, rfl⟩ : ∃ m, k = m + 1 := ⟨k - 1, by omega⟩
    simp only [pelotonref04_Same.l0]
    rw [if_pos (by omega), if_pos (by omega), if_pos (by omega), next i _ (show i < a.length by omega) ha, ih k (i + 1) (by omega) (by omega), drop_cons a i (by omega), drop_cons b i (by omega)]
    by_cases hc : rd a (i : Int) = rd b (i : Int)
    · rw [if_pos hc]; simp [hc]
    · rw [if_neg hc]; simp [hc]
theorem same_self (r c : Int) (a : List Int) (ha : a.length ≤ 1048576) (k : Nat) (hk : 1048579 < k) : pelotonref04_Same.f k r c a r c a = some true := by
  obtain ⟨k, rfl⟩ : ∃ m, k = m + 1 := ⟨k - 1, by omega⟩
  unfold pelotonref04_Same.f
  rw [if_pos rfl, if_pos rfl]
  simp only [bne_self_eq_false, pelotonref04_Same.j0]
  rw [if_neg (by simp)]
  have := same_loop r c r c a a (by omega) rfl a.length k 0 (by omega) (by omega)
  simpa using this

def Right3 (r c : Int) (n : Nat) : Prop := 0 ≤ r ∧ r ≤ 4096 ∧ 0 ≤ c ∧ c ≤ 4096 ∧ (n : Int) = r * c
instance (r c : Int) (n : Nat) : Decidable (Right3 r c n) := by unfold Right3; infer_instance
theorem right3_m (r c : Int) (n : Nat) : RightM r c n ↔ Right3 r c n ∧ n ≤ 1048576 := by
  unfold RightM Right3
  constructor
  · rintro ⟨a, b, c, d, e, f⟩; exact ⟨⟨a, b, c, d, e⟩, f⟩
  · rintro ⟨⟨a, b, c, d, e⟩, f⟩; exact ⟨a, b, c, d, e, f⟩

theorem gside_eq (n : Int) : grid_side.f n = some (decide (0 ≤ n ∧ n ≤ 4096)) := by
  unfold grid_side.f
  by_cases h : 0 ≤ n
  · rw [if_pos h]; simp [h]
  · rw [if_neg h]; simp [h]

theorem gright1_eq (r c : Int) (v : List Int) : grid_Right_1.f r c v = some (!decide (Right3 r c v.length)) := by
  unfold grid_Right_1.f
  rw [gside_eq, gside_eq]
  simp only [Option.bind_some, decide_eq_true_eq]
  by_cases h1 : 0 ≤ r ∧ r ≤ 4096
  · rw [if_pos h1]
    by_cases h2 : 0 ≤ c ∧ c ≤ 4096
    · rw [if_pos h2]
      have hb := mulb h1.1 h1.2 h2.1 h2.2
      rw [wrap64_wf _ (by omega) (by omega)]
      by_cases h3 : (v.length : Int) = r * c
      · have hm : Right3 r c v.length := ⟨h1.1, h1.2, h2.1, h2.2, h3⟩
        rw [decide_eq_true hm, bne_eq_false_iff_eq.2 h3]; rfl
      · rw [decide_eq_false (fun h : Right3 r c v.length => h3 h.2.2.2.2), bne_iff_ne.2 h3]; rfl
    · rw [if_neg h2, decide_eq_false (fun h => h2 ⟨h.2.2.1, h.2.2.2.1⟩)]; rfl
  · rw [if_neg h1, decide_eq_false (fun h => h1 ⟨h.1, h.2.1⟩)]; rfl

theorem gright_eq (k : Nat) (hk : 3 < k) (r c : Int) (v : List Int) : grid_Right.f k [⟨r, c, v⟩] = some (decide (Right3 r c v.length)) := by
  obtain ⟨k, rfl⟩ : ∃ m, k = m + 2 := ⟨k - 2, by omega⟩
  unfold grid_Right.f api_Grid_44_at_grid_Right_1.f api_Grid_48_at_grid_Right_1.f
  have e : rd_T51 [⟨r, c, v⟩] 0 = ⟨r, c, v⟩ := rfl
  simp only [api_Grid_48_at_grid_Right_1.l0, List.length_singleton]
  rw [if_pos (by omega), if_pos (by omega), if_pos (by omega), e]
  simp only [gright1_eq, Option.bind_some]
  by_cases h : Right3 r c v.length
  · rw [decide_eq_true h]; simp [wrap64]
  · rw [decide_eq_false h]; simp
theorem narrow_bad (k : Nat) (hk : 3 < k) (r c : Int) (v : List Int) (y n : Int) (h : ¬ RightM r c v.length) : matmul_Narrow.f k r c v y n = some (0, 0, [], 30) := by
  unfold matmul_Narrow.f
  rw [gright_eq k hk, Option.bind_some]
  by_cases g : Right3 r c v.length
  · have : ¬ v.length ≤ 1048576 := fun e => h ((right3_m r c v.length).2 ⟨g, e⟩)
    rw [decide_eq_true g, if_pos rfl, if_pos (by omega)]
  · rw [decide_eq_false g, if_neg (by simp)]
theorem narrow_eq (k : Nat) (hk : 1048580 < k) (r c : Int) (v : List Int) (y n : Int) (h : RightM r c v.length) (hy : -2147483648 ≤ y ∧ y ≤ 2147483647) (hw : ∀ x ∈ v, -2147483648 ≤ x ∧ x ≤ 2147483647) : matmul_Narrow.f k r c v y n = some (r, c, v.map (fun x => clamp (sh (x * y) (nn n)) (-128) 127), 0) := by
  have g := (right3_m r c v.length).1 h
  unfold matmul_Narrow.f
  rw [gright_eq k (by omega), Option.bind_some, decide_eq_true g.1, if_pos rfl, if_neg (by omega), quants_eq y n hy v (by omega) hw k (by omega), Option.bind_some]

theorem right03_eq (r c : Int) (v : List Int) : pelotonref03_Right.f r c v = some (decide (Right3 r c v.length)) := by
  unfold pelotonref03_Right.f
  by_cases h1 : r ≥ 0
  · by_cases h2 : c ≥ 0
    · by_cases h3 : r ≤ 4096
      · by_cases h4 : c ≤ 4096
        · have hb := mulb h1 h3 h2 h4
          rw [if_pos h1, if_pos h2, if_pos h3, if_pos h4, wrap64_wf _ (by omega) (by omega)]
          by_cases h5 : (v.length : Int) = r * c
          · have hm : Right3 r c v.length := ⟨h1, h3, h2, h4, h5⟩
            rw [beq_iff_eq.2 h5, decide_eq_true hm]
          · rw [beq_eq_false_iff_ne.2 h5, decide_eq_false (fun h => h5 h.2.2.2.2)]
        · rw [if_pos h1, if_pos h2, if_pos h3, if_neg h4, decide_eq_false (fun h => h4 h.2.2.2.1)]
      · rw [if_pos h1, if_pos h2, if_neg h3, decide_eq_false (fun h => h3 h.2.1)]
    · rw [if_pos h1, if_neg h2, decide_eq_false (fun h => h2 h.2.2.1)]
  · rw [if_neg h1, decide_eq_false (fun h => h1 h.1)]
theorem fit03_eq (r c : Int) (v : List Int) : pelotonref03_Fit.f r c v = some (decide (RightM r c v.length)) := by
  unfold pelotonref03_Fit.f
  rw [right03_eq, Option.bind_some]
  by_cases h : Right3 r c v.length
  · rw [decide_eq_true h, if_pos rfl]
    by_cases g : (v.length : Int) ≤ 1048576
    · rw [decide_eq_true g, decide_eq_true ((right3_m r c v.length).2 ⟨h, by omega⟩)]
    · rw [decide_eq_false g, decide_eq_false (fun e => g (by have := ((right3_m r c v.length).1 e).2; omega))]
  · rw [decide_eq_false h, if_neg (by simp), decide_eq_false (fun e => h ((right3_m r c v.length).1 e).1)]

theorem cell_eq (r c : Int) (v : List Int) (i j n : Int) (m : Nat) (h1 : wrap64 (i * c) = n) (h2 : wrap64 (n + j) = (m : Int)) (hm : m < v.length) : pelotonref03_Cell.f r c v i j = some (rd v (m : Int)) := by
  unfold pelotonref03_Cell.f
  rw [h1, h2, if_pos (Int.natCast_nonneg m), if_pos (Int.ofNat_lt.2 hm)]
theorem times_l2 (r c : Nat) (v x o : List Int) (R C : Int) (hv : v.length = r * c) (hxl : x.length = c) (hc : c ≤ 300) (hvl : v.length ≤ 1048576) (hw : ∀ y ∈ v, -128 ≤ y ∧ y ≤ 127) (hx : ∀ y ∈ x, -128 ≤ y ∧ y ≤ 127) (i : Nat) (hi : i < r) (ho : o.length ≤ 4096) : ∀ (d k q : Nat) (l : List Int), q + d = c → d + 400 < k → l.length ≤ q → (∀ y ∈ l, -9223372036854775808 ≤ y ∧ y ≤ 9223372036854775807) →
    pelotonref03_Times.l2 k i 0 l q r c v c 1 x R C o = pelotonref03_Times.l1 (k - (d + 1)) i 1 r c v c 1 x R C (o ++ [wrap32 (tot l + dotI ((rowOf v c i).drop q) (x.drop q))]) := by
  have hrl := rowOf_length v r c i hv hi
  intro d
  induction d with
  | zero =>
    intro k q l hq hk hl hb
    obtain ⟨k, rfl⟩ : ∃ m, k = m + 1 := ⟨k - 1, by omega⟩
    simp only [pelotonref03_Times.l2]
    have z1 : wrap64 ((0 : Int) + 1) = 1 := wrap64_wf _ (by decide) (by decide)
    rw [if_neg (by omega), refwrap_eq l (by omega) hb k (by omega), Option.bind_some, if_pos (by omega), z1, List.drop_of_length_le (l := x) (by omega), dotI_nil, Int.add_zero, Nat.zero_add, Nat.add_sub_cancel]
  | succ d ih =>
    intro k q l hq hk hl hb
    obtain ⟨k, rfl⟩ : ∃ m, k = m + 1 := ⟨k - 1, by omega⟩
    have hin := row_in v r c i hv hi
    have hr := hw _ (rd_mem v (i * c + q) (by omega)); have hq2 := hx _ (rd_mem x q (by omega))
    have hrow := rowOf_rd v r c i q hv hi (by omega)
    have g1 : i * c + q < v.length := by omega
    have g2 : q < x.length := by omega
    have t1 := cell_eq r c v i q _ _ (w_mul i c (by omega)) (w_add (i * c) q (by omega)) g1
    have t2 := cell_eq c 1 x q 0 (q : Int) q (by rw [Int.mul_one]; exact wrap64_wf _ (by omega) (by omega)) (by rw [Int.add_zero]; exact wrap64_wf _ (by omega) (by omega)) g2
    have hp := mul32 (rd v ((i * c + q : Nat) : Int)) (rd x (q : Int)) (by omega) (by omega)
    have n1 : wrap64 ((q : Int) + 1) = ((q + 1 : Nat) : Int) := next q c (by omega) (by omega)
    simp only [pelotonref03_Times.l2]
    rw [if_pos (by clear n1; omega), t1, Option.bind_some, t2, Option.bind_some, if_pos (by clear n1; omega), n1]
    clear n1 t1 t2
    have e1 := drop_cons (rowOf v c i) q (by omega)
    have e2 := drop_cons x q (by omega)
    rw [hrow] at e1
    generalize rd v ((i * c + q : Nat) : Int) = a at *
    generalize rd x (q : Int) = b at *
    have n2 : wrap64 (wrap64 a * wrap64 b) = a * b := by
      rw [wrap64_wf a (by omega) (by omega), wrap64_wf b (by omega) (by omega)]
      generalize a * b = ab at *
      exact wrap64_wf ab (by omega) (by omega)
    rw [n2]
    clear n2
    have hb2 : ∀ y ∈ l ++ [a * b], -9223372036854775808 ≤ y ∧ y ≤ 9223372036854775807 := by
      intro y hy; rw [List.mem_append] at hy
      rcases hy with hy | hy
      · exact hb y hy
      · simp only [List.mem_singleton] at hy; subst hy
        generalize a * b = ab at *
        omega
    rw [ih k (q + 1) (l ++ [a * b]) (by omega) (by omega) (by rw [List.length_append, List.length_singleton]; omega) hb2, e1, e2, tot_append, show k + 1 - (d + 1 + 1) = k - (d + 1) by omega]
    simp only [dotI, tot]
    rw [Int.add_zero, Int.add_assoc]
theorem times_l0 (r c : Nat) (v x : List Int) (R C : Int) (hv : v.length = r * c) (hxl : x.length = c) (hr : r ≤ 4096) (hc : c ≤ 300) (hvl : v.length ≤ 1048576) (hw : ∀ y ∈ v, -128 ≤ y ∧ y ≤ 127) (hx : ∀ y ∈ x, -128 ≤ y ∧ y ≤ 127) (s : Nat) (hs : c + 10 < s) : ∀ (d k i : Nat) (o : List Int), i + d = r → d * s + 1000 < k → o.length ≤ i →
    pelotonref03_Times.l0 k i r c v c 1 x R C o = some (R, C, o ++ (applyS r c v x).drop i, true) := by
  intro d
  induction d with
  | zero =>
    intro k i o hi hk ho
    obtain ⟨k, rfl⟩ : ∃ m, k = m + 1 := ⟨k - 1, by omega⟩
    simp only [pelotonref03_Times.l0]
    rw [if_neg (by omega), List.drop_of_length_le (by rw [applyS_length]; omega), List.append_nil]
  | succ d ih =>
    intro k i o hi hk ho
    obtain ⟨k, rfl⟩ : ∃ m, k = m + 2 := ⟨k - 2, by omega⟩
    rw [Nat.add_mul, Nat.one_mul] at hk
    have hk2 : d * s + 1000 < k - (c + 1) - 1 := by generalize d * s = D at *; omega
    have hk3 : c + 400 < k := by generalize d * s = D at *; omega
    have hk4 : k - (c + 1) = (k - (c + 1) - 1) + 1 := by generalize d * s = D at *; omega
    have ih' := fun o' => ih (k - (c + 1) - 1) (i + 1) o' (by omega) hk2
    clear ih hk hk2 hs
    have hir : i < r := by omega
    have hl2 := times_l2 r c v x o R C hv hxl hc hvl hw hx i hir (by omega) c k 0 [] (by omega) hk3 (Nat.le_refl _) (fun y hy => by cases hy)
    have n1 : wrap64 ((i : Int) + 1) = ((i + 1 : Nat) : Int) := next i r hir (by omega)
    have hlen : (o ++ [wrap32 (dotI (rowOf v c i) x)]).length ≤ i + 1 := by rw [List.length_append, List.length_singleton]; exact Nat.succ_le_succ ho
    have c1 : (i : Int) < (r : Int) := Int.ofNat_lt.2 hir
    have c2 : (0 : Int) < 1 := by decide
    have c3 : ¬ (1 : Int) < 1 := by decide
    simp only [tot, Int.zero_add, List.drop_zero, show ((0 : Nat) : Int) = 0 from rfl] at hl2
    rw [hk4] at hl2
    simp only [pelotonref03_Times.l1] at hl2
    rw [if_neg c3, n1, ih' _ hlen] at hl2
    simp only [pelotonref03_Times.l0, pelotonref03_Times.l1]
    rw [if_pos c1, if_pos c2, hl2, applyS_drop r c i v x hir, List.append_assoc, List.singleton_append]

theorem awake04_ok (k : Nat) (hk : 30 ≤ k) : pelotonlaw04_awake.f k = some true :=
  at_rounds pelotonlaw04_awake.mono hk (by decide +kernel)

theorem dotI_zero (a : List Int) : ∀ n, dotI a (List.replicate n 0) = 0 := by
  induction a with
  | nil => intro n; rfl
  | cons x a ih => intro n; cases n with
    | zero => rfl
    | succ n => simp only [List.replicate_succ, dotI, ih]; omega
theorem dotI_unit (a : List Int) : ∀ (n i : Nat), i < n → i < a.length → dotI a ((List.replicate n 0).set i 1) = rd a (i : Int) := by
  induction a with
  | nil => intro n i h1 h2; simp at h2
  | cons x a ih => intro n i h1 h2; cases n with
    | zero => omega
    | succ n => cases i with
      | zero => simp only [List.replicate_succ, List.set_cons_zero, dotI, dotI_zero]; rw [rd_nat _ 0 (by simp)]; simp
      | succ i =>
        simp only [List.length_cons] at h2
        simp only [List.replicate_succ, List.set_cons_succ, dotI]
        rw [ih n i (by omega) (by omega), rd_nat _ (i + 1) (by simp; omega), rd_nat a i (by omega)]; simp
theorem restp (x n : Int) (h0 : 0 < n) (h1 : n ≤ 4611686018427387904) : ∃ m : Nat, Int.tmod (wrap64 (Int.tmod x n + n)) n = m ∧ (m : Int) < n := by
  have g1 := Int.tmod_lt_of_pos x h0
  have g2 := Int.lt_tmod_of_pos x h0
  rw [wrap64_wf _ (by omega) (by omega), Int.tmod_eq_emod_of_nonneg (by omega)]
  have e1 := Int.emod_nonneg (Int.tmod x n + n) (show n ≠ 0 by omega)
  have e2 := Int.emod_lt_of_pos (Int.tmod x n + n) h0
  exact ⟨((Int.tmod x n + n) % n).toNat, by omega, by omega⟩

theorem clamp_self (x : Int) (h : -128 ≤ x ∧ x ≤ 127) : clamp (sh (x * 1) (nn 0)) (-128) 127 = x := by
  have e : nn 0 = 0 := rfl
  have e2 : sh x 0 = x := by
    unfold sh
    simp only [Int.pow_zero, Int.emod_one, Int.ediv_one]
    rw [if_neg (by omega)]
  rw [Int.mul_one, e, e2]
  exact clamp_id x (-128) 127 h.1 h.2
theorem map_self (v : List Int) (f : Int → Int) (h : ∀ y ∈ v, f y = y) : v.map f = v := by
  have : v.map f = v.map id := List.map_congr_left h
  rw [this, List.map_id]
theorem times_f (r c : Nat) (v x : List Int) (hm : RightM r c v.length) (hxl : x.length = c) (hc : c ≤ 300) (hw : ∀ y ∈ v, -128 ≤ y ∧ y ≤ 127) (hx : ∀ y ∈ x, -128 ≤ y ∧ y ≤ 127) (k : Nat) (hk : 1900000 < k) : pelotonref03_Times.f k r c v c 1 x = some ((r : Int), 1, applyS r c v x, true) := by
  obtain ⟨k, rfl⟩ : ∃ m, k = m + 1 := ⟨k - 1, by omega⟩
  obtain ⟨m1, m2, m3, m4, m5, m6⟩ := id hm
  have hv : v.length = r * c := by exact_mod_cast m5
  have hr : r ≤ 4096 := by omega
  have hmx : RightM c 1 x.length := ⟨Int.natCast_nonneg _, by omega, by decide, by decide, by rw [hxl]; omega, by omega⟩
  have h1 : r * 400 + 1000 < k := Nat.lt_of_le_of_lt (Nat.add_le_add_right (Nat.mul_le_mul_right 400 hr) 1000) (Nat.lt_of_lt_of_le (by decide) (Nat.le_of_lt_succ hk))
  have ht2 := times_l0 r c v x r 1 hv hxl hr hc m6 hw hx 400 (by omega) r k 0 [] (Nat.zero_add _) h1 (Nat.le_refl _)
  have hw1 : wrap64 ((r : Int) * 1) = (r : Int) := by rw [Int.mul_one]; exact wrap64_wf _ (by omega) (by omega)
  have hd : decide ((r : Int) > 1048576) = false := decide_eq_false (by omega)
  unfold pelotonref03_Times.f
  rw [fit03_eq, fit03_eq, decide_eq_true hm, decide_eq_true hmx, Option.bind_some, if_pos rfl, Option.bind_some, if_pos rfl, if_pos rfl, hw1, hd]
  simp only [pelotonref03_Times.j0]
  rw [if_neg (by simp)]
  simpa using ht2
theorem grids_end (r c : Nat) (v x : List Int) (hm : RightM r c v.length) (hxl : x.length = c) (hc : c ≤ 300) (hw : ∀ y ∈ v, -128 ≤ y ∧ y ≤ 127) (hx : ∀ y ∈ x, -128 ≤ y ∧ y ≤ 127) (k : Nat) (hk : 1900000 < k) :
    pelotonlaw04_MatmulGrids.l0 (k + 1) x (applyS r c v x) 0 (c : Int) r c v r c v c 1 x = some true := by
  obtain ⟨m1, m2, m3, m4, m5, m6⟩ := id hm
  have hal := applyS_length r c v x
  have hn := narrow_eq k (by omega) r c v 1 0 hm (by decide) (fun y hy => by have := hw y hy; omega)
  have hself : v.map (fun x => clamp (sh (x * 1) (nn 0)) (-128) 127) = v := map_self v _ (fun y hy => clamp_self y (hw y hy))
  rw [hself] at hn
  have hi := ints_eq (applyS r c v x) (applyS r c v x) (by rw [hal]; omega) k (by rw [hal]; omega)
  have hs := same_self r c v m6 k (by omega)
  have ht := times_f r c v x hm hxl hc hw hx k hk
  have c1 : ¬ (c : Int) < (x.length : Int) := by rw [hxl]; exact Int.lt_irrefl _
  simp only [pelotonlaw04_MatmulGrids.l0]
  rw [if_neg c1, ht]
  simp only [Option.bind_some]
  rw [hn]
  simp only [Option.bind_some]
  rw [if_pos trivial, if_pos trivial, hi]
  simp only [decide_true, Option.bind_some]
  rw [if_pos trivial, if_pos trivial, hs]; rfl
theorem MatmulGrids_l0 (r c : Nat) (v x : List Int) (hm : RightM r c v.length) (hxl : x.length = c) (hc : c ≤ 300) (hw : ∀ y ∈ v, -128 ≤ y ∧ y ≤ 127) (hx : ∀ y ∈ x, -128 ≤ y ∧ y ≤ 127) : ∀ (d k i : Nat), i + d = c → d + 2000000 < k →
    pelotonlaw04_MatmulGrids.l0 k x (applyS r c v x) 0 i r c v r c v c 1 (x.take i) = some true := by
  obtain ⟨m1, m2, m3, m4, m5, m6⟩ := id hm
  have hv : v.length = r * c := by exact_mod_cast m5
  intro d
  induction d with
  | zero =>
    intro k i hi hk
    obtain ⟨k, rfl⟩ : ∃ m, k = m + 1 := ⟨k - 1, by omega⟩
    have hic : i = c := by omega
    rw [hic, List.take_of_length_le (Nat.le_of_eq hxl)]
    exact grids_end r c v x hm hxl hc hw hx k (by omega)
  | succ d ih =>
    intro k i hi hk
    obtain ⟨k, rfl⟩ : ∃ m, k = m + 1 := ⟨k - 1, by omega⟩
    have hxi := hx _ (rd_mem x i (by omega))
    have e : x.take (i + 1) = x.take i ++ [rd x (i : Int)] := by
      rw [List.take_add_one, rd_nat x i (by omega), List.getElem?_eq_getElem (by omega)]; rfl
    simp only [pelotonlaw04_MatmulGrids.l0]
    rw [if_pos (by omega), if_pos (by omega), if_pos (by rw [List.length_take]; omega), wrap32_wf _ (by omega) (by omega), next i c (by omega) (by omega), ← e]
    exact ih k (i + 1) (by omega) (by omega)
theorem MatmulGrids : pelotonlaw04_MatmulGrids.Pure := by
  intro r c v x ⟨hr, hc, hvm, hw⟩ ⟨hxm, hxw⟩
  refine ⟨3000000, ?_⟩
  have hk : 2900000 < 3000000 := by decide
  generalize 3000000 = k at hk ⊢
  obtain ⟨k, rfl⟩ : ∃ m, k = m + 1 := ⟨k - 1, by omega⟩
  have hw8 : ∀ y ∈ v, -128 ≤ y ∧ y ≤ 127 := fun y hy => wf8 (hw y hy)
  have hx8 : ∀ y ∈ x, -128 ≤ y ∧ y ≤ 127 := fun y hy => wf8 (hxw y hy)
  have ht : pelotonlaw04_MatmulGrids.j0 (k + 1) x true r c v = some true := by
    simp only [pelotonlaw04_MatmulGrids.j0]; simp [awake04_ok k (by omega)]
  unfold pelotonlaw04_MatmulGrids.f
  rw [awake04_ok (k + 1) (by omega)]
  simp only [Option.bind_some, if_true, pelotonlaw04_small.f]
  by_cases hs : (v.length : Int) ≤ 600
  · rw [decide_eq_true hs, if_pos rfl]
    by_cases hxs : (x.length : Int) > 300
    · rw [decide_eq_true hxs]; exact ht
    · rw [decide_eq_false hxs]
      simp only [pelotonlaw04_MatmulGrids.j0]
      rw [if_neg (by simp)]
      by_cases hm : RightM r c v.length ∧ (x.length : Int) = c
      · obtain ⟨hm, hxc⟩ := hm
        obtain ⟨m1, m2, m3, m4, m5, m6⟩ := id hm
        obtain ⟨r, rfl⟩ := Int.eq_ofNat_of_zero_le m1
        obtain ⟨c, rfl⟩ := Int.eq_ofNat_of_zero_le m3
        have hself : v.map wrap32 = v := map_self v _ (fun y hy => wrap32_wf y (by have := hw8 y hy; omega) (by have := hw8 y hy; omega))
        rw [apply_eq r c v x hm (by omega) hw8 hx8 k (by omega)]
        simp only [Option.bind_some]
        rw [if_pos trivial, wide_eq k r c v hm (by omega), hself]
        simp only [Option.bind_some]
        have hxl : x.length = c := by omega
        rw [hxl]
        have g := MatmulGrids_l0 r c v x hm hxl (by omega) hw8 hx8 c k 0 (by omega) (by omega)
        rw [List.take_zero] at g
        exact g
      · rw [apply_bad r c v x hm k (by omega)]
        simp only [Option.bind_some]
        rw [if_neg (by omega)]
  · rw [decide_eq_false hs, if_neg (by simp)]
    exact ht

end Go.Proofs.Ytananmepljeldaa.Pure
