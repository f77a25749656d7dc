/- RoundGroups: the law's plain part: what its printed functions compute answers true, for all arguments of its types. No condition beside the given bounds. -/
import Derived.Test.YtbbemkdfbiffbaaORoundGroupsx2
import Derived.Test.YtbbemkdfbiffbaaMath
import Derived.Test.YtbbemkdfbiffbaaNames
namespace Go.Proofs.Ytbbemkdfbiffbaa.Pure
open Go.RowKit Go.Proofs.Ytbbemkdfbiffbaa.PRoundGroups Go.Proofs.YtbbemkdfbiffbaaW.PrintWords Go.Proofs.YtbbemkdfbiffbaaW.PrintLast Go.Proofs.YtbbemkdfbiffbaaW.PrintMore Go.PelMath
set_option linter.unusedVariables false
set_option linter.unusedSimpArgs false
theorem wf64 {x : Int} (h : (Lit.int .i64 x).wf = true) : -9223372036854775808 ≤ x ∧ x ≤ 9223372036854775807 := by
  simp [Lit.wf, IntKind.min, IntKind.max, IntKind.bits, IntKind.signed] at h; omega
theorem wf32 {x : Int} (h : (Lit.int .i32 x).wf = true) : -2147483648 ≤ x ∧ x ≤ 2147483647 := by
  simp [Lit.wf, IntKind.min, IntKind.max, IntKind.bits, IntKind.signed] at h; omega
theorem wf8 {x : Int} (h : (Lit.int .i8 x).wf = true) : -128 ≤ x ∧ x ≤ 127 := by
  simp [Lit.wf, IntKind.min, IntKind.max, IntKind.bits, IntKind.signed] at h; omega

def nn (n : Int) : Nat := (mn (mx n 0) 62).toNat
theorem nn_le (n : Int) : nn n ≤ 62 := by unfold nn mn mx; (repeat' split) <;> omega
theorem nn_of (n : Int) (h0 : 0 ≤ n) (h1 : n ≤ 62) : nn n = n.toNat := by unfold nn mn mx; (repeat' split) <;> omega

theorem and_mask (x : Int) (n : Nat) (h : n ≤ 62) : Go.bits .and .u64 (IntKind.u64.wrap x) (2 ^ n - 1) = x % 2 ^ n := by
  have hw : ∀ y : Int, IntKind.u64.wrap y = y % 18446744073709551616 := by intro y; simp [IntKind.wrap, IntKind.bits, IntKind.signed]
  rw [bits_mask .u64 64 (by decide) (by intro y h0 h1; rw [hw]; omega) n (by omega) _ (by rw [hw]; omega) (by rw [hw]; omega), hw]
  have hd : ((2 : Int) ^ n) ∣ 18446744073709551616 := ⟨2 ^ (64 - n), by rw [← Int.pow_add]; rw [show n + (64 - n) = 64 by omega]; rfl⟩
  exact Int.emod_emod_of_dvd x hd
theorem and_one (x : Int) (h0 : -9223372036854775808 ≤ x) (h1 : x ≤ 9223372036854775807) : Go.bits .and .i64 x 1 = x % 2 := by
  have e : bits .and .i64 x 1 = IntKind.i64.wrap (((BitVec.ofInt 64 x &&& BitVec.ofInt 64 1).toNat : Nat) : Int) := rfl
  rw [e, BitVec.toNat_and, BitVec.toNat_ofInt, BitVec.toNat_ofInt]
  have e1 : (((1 : Int) % ((2 ^ 64 : Nat) : Int)).toNat) = 1 := by decide
  rw [e1, Nat.and_one_is_mod, IntKind.wrap_i64]
  omega
theorem shift_eq (x n : Int) (h0 : -9223372036854775808 ≤ x) (h1 : x ≤ 9223372036854775807) : round_Shift.f x n = some (sh x (nn n)) := by
  have hn := nn_le n
  have hp := pow_pos' (nn n); have hq := pow_le62 (nn n) hn
  have hw : IntKind.u64.wrap (2 ^ nn n) = 2 ^ nn n := by
    have : ∀ y : Int, IntKind.u64.wrap y = y % 18446744073709551616 := by intro y; simp [IntKind.wrap, IntKind.bits, IntKind.signed]
    rw [this]; omega
  have hw1 : IntKind.u64.wrap (2 ^ nn n - 1) = 2 ^ nn n - 1 := by
    have : ∀ y : Int, IntKind.u64.wrap y = y % 18446744073709551616 := by intro y; simp [IntKind.wrap, IntKind.bits, IntKind.signed]
    rw [this]; omega
  unfold round_Shift.f
  simp only [show (mn (mx n 0) 62).toNat = nn n from rfl]
  have hm : mn (mx n 0) 62 = (nn n : Int) := by unfold nn mn mx; (repeat' split) <;> omega
  rw [hw]; try rw [hw1]
  rw [and_mask x _ hn, hm]
  have hpart := parts x (2 ^ nn n) hp
  obtain ⟨q, r, hx, g0, g1, e1, e2⟩ := hpart
  have hqb : -9223372036854775808 ≤ q ∧ q ≤ 9223372036854775807 ∧ (2 ≤ (2 : Int) ^ nn n → q < 9223372036854775807) := by
    have hlo : -9223372036854775808 ≤ x / 2 ^ nn n := by
      apply Int.le_ediv_of_mul_le hp
      have : (-9223372036854775808 : Int) * 2 ^ nn n ≤ -9223372036854775808 * 1 := Int.mul_le_mul_of_nonpos_left (by omega) (by omega)
      omega
    refine ⟨by omega, ?_, ?_⟩
    · rw [← e1]; apply Int.ediv_le_of_le_mul hp; 
      have : (9223372036854775807 : Int) * 1 ≤ 9223372036854775807 * 2 ^ nn n := Int.mul_le_mul_of_nonneg_left (by omega) (by omega)
      omega
    · intro h2
      rw [← e1]; apply Int.ediv_lt_of_lt_mul hp
      have : (9223372036854775807 : Int) * 2 ≤ 9223372036854775807 * 2 ^ nn n := Int.mul_le_mul_of_nonneg_left (by omega) (by omega)
      omega
  unfold sh; rw [e1, e2, and_one q (by omega) (by omega)]
  by_cases hz : nn n = 0
  · rw [hz] at g1 ⊢
    simp only [Int.pow_zero] at g1 ⊢
    have : r = 0 := by omega
    subst this; simp
  · obtain ⟨hh, he, hh0⟩ := pow_even (nn n) (by omega)
    rw [he] at g1 hqb ⊢
    have h2 := hqb.2.2 (by omega)
    have hwr : wrap64 (q + 1) = q + 1 := wrap64_wf _ (by omega) (by omega)
    rw [hwr, show (2 * hh) / 2 = hh by omega]
    have hnz : ((nn n : Nat) : Int) > 0 := by omega
    by_cases c1 : r > hh
    · rw [if_pos c1, if_pos (by omega)]
    · rw [if_neg c1]
      by_cases c2 : r = hh
      · rw [if_pos c2, if_pos hnz]
        by_cases c3 : q % 2 = 1
        · rw [if_pos c3, if_pos (by omega)]
        · rw [if_neg c3, if_neg (by omega)]
      · rw [if_neg c2, if_neg (by omega)]
theorem sh_range (x : Int) (n : Nat) (h0 : -9223372036854775808 ≤ x) (h1 : x ≤ 9223372036854775807) : -9223372036854775808 ≤ sh x n ∧ sh x n ≤ 9223372036854775807 := by
  by_cases hz : n = 0
  · rw [hz, sh_zero]; omega
  · have hp := pow_pos' n
    obtain ⟨hh, he, hh0⟩ := pow_even n (by omega)
    rw [sh_shd]
    have hm1 := shd_mono x 9223372036854775807 (2 ^ n) hp h1
    have hm2 := shd_mono (-9223372036854775808) x (2 ^ n) hp h0
    have e1 := shd_mono 9223372036854775807 (9223372036854775807 * 2 ^ n) (2 ^ n) hp (by
      have : (9223372036854775807 : Int) * 1 ≤ 9223372036854775807 * 2 ^ n := Int.mul_le_mul_of_nonneg_left (by omega) (by omega)
      omega)
    have e2 := shd_mono (-9223372036854775808 * 2 ^ n) (-9223372036854775808) (2 ^ n) hp (by
      have : (-9223372036854775808 : Int) * 2 ^ n ≤ -9223372036854775808 * 1 := Int.mul_le_mul_of_nonpos_left (by omega) (by omega)
      omega)
    rw [shd_mul _ _ hp] at e1 e2
    omega

def clamp (x a b : Int) : Int := if x < a then a else if b < x then b else x
theorem clamp_range (x a b : Int) (h : a ≤ b) : a ≤ clamp x a b ∧ clamp x a b ≤ b := by unfold clamp; (repeat' split) <;> omega
theorem clamp_mono (x y a b : Int) (h : a ≤ b) (hxy : x ≤ y) : clamp x a b ≤ clamp y a b := by unfold clamp; (repeat' split) <;> omega
theorem clamp_id (x a b : Int) (h0 : a ≤ x) (h1 : x ≤ b) : clamp x a b = x := by unfold clamp; (repeat' split) <;> omega

theorem sat8_eq (x : Int) : round_Sat8.f x = some (clamp x (-128) 127) := by
  unfold round_Sat8.f round_near_int8.f mn mx clamp
  simp only [Option.bind_some, Option.some.injEq]
  have hw : ∀ y : Int, -128 ≤ y → y ≤ 127 → IntKind.i8.wrap y = y := by
    intro y a b; simp [IntKind.wrap, IntKind.bits, IntKind.signed]; split <;> omega
  (repeat' split) <;> first | rfl | omega | (exact hw _ (by omega) (by omega)) | (rw [hw _ (by omega) (by omega)]; omega)

theorem mul32 (x y : Int) (hx : -2147483648 ≤ x ∧ x ≤ 2147483647) (hy : -2147483648 ≤ y ∧ y ≤ 2147483647) : -4611686018427387904 ≤ x * y ∧ x * y ≤ 4611686018427387904 := by
  have h := Int.natAbs_mul x y
  have h1 : x.natAbs ≤ 2147483648 := by omega
  have h2 : y.natAbs ≤ 2147483648 := by omega
  have h3 : x.natAbs * y.natAbs ≤ 2147483648 * 2147483648 := Nat.mul_le_mul h1 h2
  omega

theorem wrap32_range (x : Int) : -2147483648 ≤ wrap32 x ∧ wrap32 x ≤ 2147483647 := by unfold wrap32; omega
theorem wrap32_0 : wrap32 0 = 0 := by unfold wrap32; omega
theorem rd_nat (l : List Int) (i : Nat) (h : i < l.length) : rd l (i : Int) = l[i] := by
  unfold rd; simp [List.getD, h]
theorem drop_cons (l : List Int) (i : Nat) (h : i < l.length) : l.drop i = rd l (i : Int) :: l.drop (i + 1) := by
  rw [rd_nat l i h, List.drop_eq_getElem_cons h]
theorem rd_mem (l : List Int) (i : Nat) (h : i < l.length) : rd l (i : Int) ∈ l := by rw [rd_nat l i h]; exact List.getElem_mem h
theorem next (i n : Nat) (h : i < n) (hn : n ≤ 9223372036854775807) : wrap64 ((i : Int) + 1) = ((i + 1 : Nat) : Int) := by
  rw [wrap64_wf _ (by omega) (by omega)]; omega

theorem wrapsum_loop (l : List Int) (hl : l.length ≤ 9223372036854775807) : ∀ (d k i : Nat) (s : Int), i + d = l.length → d < k →
    round_Wrap.l0 k s l l.length i = some (wrap32 (s + tot (l.drop i))) := by
  intro d
  induction d with
  | zero =>
    intro k i s hi hk
    obtain ⟨k, rfl⟩ : ∃ m, k = m + 1 := ⟨k - 1, by omega⟩
    simp only [round_Wrap.l0]
    rw [if_neg (by omega), List.drop_of_length_le (by omega)]; simp [tot]
  | succ d ih =>
    intro k i s hi hk
    obtain ⟨k, rfl⟩ : ∃ m, k = m + 1 := ⟨k - 1, by omega⟩
    simp only [round_Wrap.l0]
    rw [if_pos (by omega), if_pos (by omega), if_pos (by omega), next i _ (by omega) hl, ih k (i + 1) _ (by omega) (by omega), drop_cons l i (by omega)]
    simp only [tot]
    rw [show ∀ a b c : Int, wrap32 (wrap64 (a + b) + c) = wrap32 (a + (b + c)) from fun a b c => by unfold wrap32 wrap64; omega]
theorem wrapsum_eq (l : List Int) (hl : l.length ≤ 9223372036854775807) (k : Nat) (hk : l.length < k) : round_Wrap.f k l = some (wrap32 (tot l)) := by
  unfold round_Wrap.f
  have := wrapsum_loop l hl l.length k 0 0 (by omega) hk
  simpa using this

theorem sum_loop (l : List Int) (hl : l.length ≤ 9223372036854775807) : ∀ (d k i : Nat) (s : Int), i + d = l.length → d < k →
    round_Sum.l0 k s l l.length i = some (wrap32 (s + tot (l.drop i))) := by
  intro d
  induction d with
  | zero =>
    intro k i s hi hk
    obtain ⟨k, rfl⟩ : ∃ m, k = m + 1 := ⟨k - 1, by omega⟩
    simp only [round_Sum.l0]
    rw [if_neg (by omega), List.drop_of_length_le (by omega)]; simp [tot]
  | succ d ih =>
    intro k i s hi hk
    obtain ⟨k, rfl⟩ : ∃ m, k = m + 1 := ⟨k - 1, by omega⟩
    simp only [round_Sum.l0]
    rw [if_pos (by omega), if_pos (by omega), if_pos (by omega), next i _ (by omega) hl, ih k (i + 1) _ (by omega) (by omega), drop_cons l i (by omega)]
    simp only [tot]
    rw [show ∀ a b c : Int, wrap32 ((a + b % 4294967296) % 4294967296 + c) = wrap32 (a + (b + c)) from fun a b c => by unfold wrap32; omega]
theorem sum_eq (l : List Int) (hl : l.length ≤ 9223372036854775807) (k : Nat) (hk : l.length < k) : round_Sum.f k l = some (wrap32 (tot l)) := by
  unfold round_Sum.f
  have := sum_loop l hl l.length k 0 0 (by omega) hk
  simpa using this

def dotI : List Int → List Int → Int
  | x :: a, y :: b => x * y + dotI a b
  | _, _ => 0
def prods : List Int → List Int → List Int
  | x :: a, y :: b => x * y :: prods a b
  | _, _ => []
theorem dotI_nil (a : List Int) : dotI a [] = 0 := by cases a <;> rfl
theorem tot_prods (a : List Int) : ∀ b, tot (prods a b) = dotI a b := by
  induction a with
  | nil => intro b; rfl
  | cons x a ih => intro b; cases b with
    | nil => rfl
    | cons y b => simp only [prods, tot, dotI, ih]
theorem prods_length (a : List Int) : ∀ b, (prods a b).length ≤ a.length := by
  induction a with
  | nil => intro b; simp [prods]
  | cons x a ih => intro b; cases b with
    | nil => simp [prods]
    | cons y b => simp only [prods, List.length_cons]; have := ih b; omega

def IsArg (l : List Int) (r : Int) : Prop := (l = [] ∧ r = -1) ∨ (0 ≤ r ∧ r < l.length ∧ ∀ j : Int, 0 ≤ j → j < l.length → rd l j ≤ rd l r ∧ (j < r → rd l j < rd l r))
theorem IsArg.same {l : List Int} {r q : Int} (h : IsArg l r) (g : IsArg l q) : r = q := by
  rcases h with ⟨h1, h2⟩ | ⟨h1, h2, h3⟩
  · rcases g with ⟨g1, g2⟩ | ⟨g1, g2, g3⟩
    · omega
    · rw [h1] at g2; simp at g2; omega
  · rcases g with ⟨g1, g2⟩ | ⟨g1, g2, g3⟩
    · rw [g1] at h2; simp at h2; omega
    · have a1 := h3 q g1 g2; have a2 := g3 r h1 h2
      rcases Int.lt_trichotomy r q with hc | hc | hc
      · have := a2.2 hc; omega
      · exact hc
      · have := a1.2 hc; omega
theorem argmax_loop (l : List Int) (hl : l.length ≤ 9223372036854775807) : ∀ (d k i : Nat) (b : Int), i + d = l.length → d < k →
    ((i = 0 ∧ b = -1) ∨ (0 ≤ b ∧ b < i ∧ ∀ j : Int, 0 ≤ j → j < i → rd l j ≤ rd l b ∧ (j < b → rd l j < rd l b))) →
    ∃ r, round_Argmax.l0 k l b l l.length i = some r ∧ IsArg l r := by
  intro d
  induction d with
  | zero =>
    intro k i b hi hk hb
    obtain ⟨k, rfl⟩ : ∃ m, k = m + 1 := ⟨k - 1, by omega⟩
    simp only [round_Argmax.l0]
    rw [if_neg (by omega)]
    refine ⟨b, rfl, ?_⟩
    have hi' : i = l.length := by omega
    subst hi'
    rcases hb with ⟨h1, h2⟩ | h
    · exact Or.inl ⟨List.length_eq_zero_iff.1 h1, h2⟩
    · exact Or.inr h
  | succ d ih =>
    intro k i b hi hk hb
    obtain ⟨k, rfl⟩ : ∃ m, k = m + 1 := ⟨k - 1, by omega⟩
    simp only [round_Argmax.l0]
    rw [if_pos (by omega), if_pos (by omega), if_pos (by omega), next i _ (show i < l.length by omega) hl]
    rcases hb with ⟨h1, h2⟩ | ⟨h1, h2, h3⟩
    · rw [if_pos (by omega)]
      refine ih k (i + 1) i (by omega) (by omega) (Or.inr ⟨by omega, by omega, ?_⟩)
      intro j j0 j1
      obtain rfl : j = (i : Int) := by omega
      exact ⟨Int.le_refl _, fun h => by omega⟩
    · rw [if_neg (by omega), if_pos h1, if_pos (by omega)]
      by_cases hc : rd l (i : Int) > rd l b
      · rw [if_pos hc]
        refine ih k (i + 1) i (by omega) (by omega) (Or.inr ⟨by omega, by omega, ?_⟩)
        intro j j0 j1
        by_cases hj : j < i
        · have := h3 j j0 hj; exact ⟨by omega, fun _ => by omega⟩
        · obtain rfl : j = (i : Int) := by omega
          exact ⟨Int.le_refl _, fun h => by omega⟩
      · rw [if_neg hc]
        refine ih k (i + 1) b (by omega) (by omega) (Or.inr ⟨by omega, by omega, ?_⟩)
        intro j j0 j1
        by_cases hj : j < i
        · exact h3 j j0 hj
        · obtain rfl : j = (i : Int) := by omega
          exact ⟨by omega, fun h => by omega⟩
theorem argmax_is (l : List Int) (hl : l.length ≤ 9223372036854775807) (k : Nat) (hk : l.length < k) : ∃ r, round_Argmax.f k l = some r ∧ IsArg l r := by
  unfold round_Argmax.f
  exact argmax_loop l hl l.length k 0 (-1) (by omega) hk (Or.inl ⟨rfl, rfl⟩)

theorem quant_eq (x y n : Int) (hx : -2147483648 ≤ x ∧ x ≤ 2147483647) (hy : -2147483648 ≤ y ∧ y ≤ 2147483647) : round_Quant.f x y n = some (clamp (sh (x * y) (nn n)) (-128) 127) := by
  have hp := mul32 x y hx hy
  unfold round_Quant.f
  rw [wrap64_wf x (by omega) (by omega), wrap64_wf y (by omega) (by omega), wrap64_wf (x * y) (by omega) (by omega), shift_eq _ n (by omega) (by omega), Option.bind_some, sat8_eq, Option.bind_some]

theorem rest31 (n : Int) (h : -9223372036854775808 ≤ n ∧ n ≤ 9223372036854775807) : ∃ m : Nat, Int.tmod (wrap64 (Int.tmod n 31 + 31)) 31 = m ∧ m ≤ 30 := by
  have h1 := Int.tmod_lt_of_pos n (show (0 : Int) < 31 by omega)
  have h2 := Int.lt_tmod_of_pos n (show (0 : Int) < 31 by omega)
  rw [wrap64_wf _ (by omega) (by omega), Int.tmod_eq_emod_of_nonneg (by omega)]
  exact ⟨((Int.tmod n 31 + 31) % 31).toNat, by omega, by omega⟩

theorem awake_ok (k : Nat) (hk : 10 ≤ k) : pelotonlaw01_awake.f k = some true :=
  at_rounds pelotonlaw01_awake.mono hk (by decide +kernel)

theorem rest9 (n : Int) (h : -9223372036854775808 ≤ n ∧ n ≤ 9223372036854775807) : ∃ m : Nat, Int.tmod (wrap64 (Int.tmod n 9 + 9)) 9 = m ∧ m ≤ 8 := by
  have h1 := Int.tmod_lt_of_pos n (show (0 : Int) < 9 by omega)
  have h2 := Int.lt_tmod_of_pos n (show (0 : Int) < 9 by omega)
  rw [wrap64_wf _ (by omega) (by omega), Int.tmod_eq_emod_of_nonneg (by omega)]
  exact ⟨((Int.tmod n 9 + 9) % 9).toNat, by omega, by omega⟩
theorem restl (x n : Int) (h0 : 0 < n) (h1 : n ≤ 300) : ∃ m : Nat, Int.tmod (wrap64 (Int.tmod x n + n)) n = m ∧ (m : Int) < n := by
  have g1 := Int.tmod_lt_of_pos x h0
  have g2 := Int.lt_tmod_of_pos x h0
  rw [wrap64_wf _ (by omega) (by omega), Int.tmod_eq_emod_of_nonneg (by omega)]
  have e1 := Int.emod_nonneg (Int.tmod x n + n) (show n ≠ 0 by omega)
  have e2 := Int.emod_lt_of_pos (Int.tmod x n + n) h0
  exact ⟨((Int.tmod x n + n) % n).toNat, by omega, by omega⟩
theorem rot_at (l : List Int) (k j : Nat) (hk : k < l.length) (hj : j < l.length) : rd l (Int.tmod ((j : Int) + k) l.length) = rd (l.drop k ++ l.take k) j := by
  have hlen : (l.drop k ++ l.take k).length = l.length := by simp; omega
  rw [rd_nat _ j (by omega), Int.tmod_eq_emod_of_nonneg (by omega), show ((j : Int) + k) % l.length = (((j + k) % l.length : Nat) : Int) by simp, rd_nat l _ (Nat.mod_lt _ (by omega))]
  by_cases hc : j + k < l.length
  · rw [List.getElem_append_left (by simp; omega), List.getElem_drop]
    congr 1; rw [Nat.mod_eq_of_lt hc]; omega
  · rw [List.getElem_append_right (by simp; omega), List.getElem_take]
    congr 1; rw [Nat.mod_eq_sub_mod (by omega), Nat.mod_eq_of_lt (by omega)]; simp; omega
theorem RoundGroups_l1 (l : List Int) (r : Nat) (hr : r < l.length) (hl : l.length ≤ 100) (sums : List Int) (hs : sums.length ≤ 30) (hsw : wrap32 (tot sums) = wrap32 (tot l)) : ∀ (d k : Nat) (o : List Int), d ≤ l.length → d + 200 < k →
    tot o = tot ((l.drop r ++ l.take r).drop d) → o.length + d = l.length → pelotonlaw01_RoundGroups.l1 k l (wrap32 (tot l)) sums o r ((d : Int) - 1) = some true := by
  have htot : tot (l.drop r ++ l.take r) = tot l := by
    have h := tot_append (l.take r) (l.drop r)
    rw [List.take_append_drop] at h
    rw [tot_append]; omega
  intro d
  induction d with
  | zero =>
    intro k o hd hk ho hlen
    obtain ⟨k, rfl⟩ : ∃ m, k = m + 1 := ⟨k - 1, by omega⟩
    simp only [pelotonlaw01_RoundGroups.l1]
    rw [if_neg (by omega), sum_eq sums (by omega) k (by omega), sum_eq o (by omega) k (by omega)]
    simp only [Option.bind_some]
    rw [if_pos hsw, ho, List.drop_zero, htot]; simp
  | succ d ih =>
    intro k o hd hk ho hlen
    obtain ⟨k, rfl⟩ : ∃ m, k = m + 1 := ⟨k - 1, by omega⟩
    simp only [pelotonlaw01_RoundGroups.l1]
    rw [show (((d + 1 : Nat) : Int) - 1) = (d : Int) by omega, if_pos (by omega), if_neg (by omega), wrap64_wf ((d : Int) + r) (by omega) (by omega), rot_at l r d hr (by omega)]
    have g1 : Int.tmod ((d : Int) + r) l.length < l.length := Int.tmod_lt_of_pos _ (by omega)
    have g2 : 0 ≤ Int.tmod ((d : Int) + r) l.length := Int.tmod_nonneg _ (by omega)
    rw [if_pos g2, if_pos g1, if_pos (by omega), wrap64_wf ((d : Int) - 1) (by omega) (by omega)]
    have hlen2 : (l.drop r ++ l.take r).length = l.length := by simp; omega
    refine ih k _ (by omega) (by omega) ?_ (by simp; omega)
    rw [tot_append, drop_cons _ d (by omega), ho]; simp only [tot]; omega
theorem RoundGroups_j2 (l : List Int) (hl : l.length ≤ 100) (turn : Int) (sums : List Int) (hs : sums.length ≤ 20) (i : Nat) (hi : i ≤ l.length) (hsw : wrap32 (tot sums) = wrap32 (tot (l.take i))) (k : Nat) (hk : 400 < k) :
    pelotonlaw01_RoundGroups.j2 k l turn (wrap32 (tot l)) sums i = some true := by
  obtain ⟨k, rfl⟩ : ∃ m, k = m + 1 := ⟨k - 1, by omega⟩
  have h3 : ∀ r : Nat, (r < l.length ∨ l = [] ∧ r = 0) → pelotonlaw01_RoundGroups.j3 k l (wrap32 (tot l)) (sums ++ [wrap32 (tot (l.drop i))]) [] r = some true := by
    intro r hr
    obtain ⟨k, rfl⟩ : ∃ m, k = m + 1 := ⟨k - 1, by omega⟩
    have hsw2 : wrap32 (tot (sums ++ [wrap32 (tot (l.drop i))])) = wrap32 (tot l) := by
      have h := tot_append (l.take i) (l.drop i)
      rw [List.take_append_drop] at h
      rw [tot_append, h]; simp only [tot]
      have he : ∀ x y z : Int, wrap32 x = wrap32 y → wrap32 (x + (wrap32 z + 0)) = wrap32 (y + z) := fun x y z => by unfold wrap32; omega
      exact he _ _ _ hsw
    simp only [pelotonlaw01_RoundGroups.j3]
    rw [wrap64_wf _ (by omega) (by omega)]
    rcases hr with hr | ⟨hr, hr0⟩
    · refine RoundGroups_l1 l r hr hl _ (by simp; omega) hsw2 l.length k [] (by omega) (by omega) ?_ (by simp)
      rw [List.drop_of_length_le (by simp; omega)]
    · subst hr; subst hr0
      obtain ⟨k, rfl⟩ : ∃ m, k = m + 1 := ⟨k - 1, by omega⟩
      simp only [pelotonlaw01_RoundGroups.l1]
      rw [if_neg (by simp), sum_eq _ (by simp; omega) k (by simp; omega), sum_eq _ (by simp) k (by simp; omega)]
      simp only [Option.bind_some]
      rw [if_pos hsw2]; simp
  simp only [pelotonlaw01_RoundGroups.j2, Int.toNat_natCast]
  rw [if_pos (by omega), if_pos (by omega), sum_eq _ (by simp; omega) k (by simp; omega), Option.bind_some, if_pos (by omega), Option.bind_some]
  by_cases hc : (l.length : Int) > 0
  · obtain ⟨m, hm, hmb⟩ := restl turn l.length hc (by omega)
    rw [if_pos hc, if_neg (by omega), hm]
    exact h3 m (Or.inl (by omega))
  · rw [if_neg hc]
    exact h3 0 (Or.inr ⟨List.length_eq_zero_iff.1 (by omega), rfl⟩)
theorem RoundGroups_l0 (l cuts : List Int) (hl : l.length ≤ 100) (hcl : cuts.length ≤ 20) (hcw : ∀ x ∈ cuts, -9223372036854775808 ≤ x ∧ x ≤ 9223372036854775807) (turn : Int) : ∀ (d k i : Nat) (sums : List Int) (at_ : Nat), i + d = cuts.length → d + 500 < k →
    sums.length ≤ i → at_ ≤ l.length → wrap32 (tot sums) = wrap32 (tot (l.take at_)) → pelotonlaw01_RoundGroups.l0 k l cuts turn (wrap32 (tot l)) sums at_ i = some true := by
  intro d
  induction d with
  | zero =>
    intro k i sums a hi hk hs ha hsw
    obtain ⟨k, rfl⟩ : ∃ m, k = m + 1 := ⟨k - 1, by omega⟩
    simp only [pelotonlaw01_RoundGroups.l0]
    rw [if_neg (by omega)]
    exact RoundGroups_j2 l hl turn sums (by omega) a ha hsw k (by omega)
  | succ d ih =>
    intro k i sums a hi hk hs ha hsw
    obtain ⟨k, rfl⟩ : ∃ m, k = m + 1 := ⟨k - 1, by omega⟩
    simp only [pelotonlaw01_RoundGroups.l0]
    rw [if_pos (by omega)]
    by_cases hc : (a : Int) < l.length
    · obtain ⟨m, hm, hm8⟩ := rest9 _ (hcw _ (rd_mem cuts i (by omega)))
      have hmn : wrap64 ((a : Int) + mn (m : Int) (wrap64 ((l.length : Int) - a))) = ((a + min m (l.length - a) : Nat) : Int) := by
        rw [wrap64_wf ((l.length : Int) - a) (by omega) (by omega)]
        unfold mn; split <;> (rw [wrap64_wf _ (by omega) (by omega)]; omega)
      rw [if_pos hc, hm, hmn, if_pos (by omega), if_pos (by omega), if_pos (by omega), if_pos (by omega), sum_eq _ (by simp; omega) k (by simp; omega), Option.bind_some, if_pos (by omega), next i _ (show i < cuts.length by omega) (by omega)]
      refine ih k (i + 1) _ _ (by omega) (by omega) (by simp; omega) (by omega) ?_
      simp only [Int.toNat_natCast]
      rw [tot_append]; simp only [tot]
      have h := tot_append (l.take a) ((l.take (a + min m (l.length - a))).drop a)
      have h2 : l.take a ++ (l.take (a + min m (l.length - a))).drop a = l.take (a + min m (l.length - a)) := by
        have := List.take_append_drop a (l.take (a + min m (l.length - a)))
        rw [List.take_take, Nat.min_eq_left (by omega)] at this
        exact this
      rw [h2] at h
      rw [h]
      have he : ∀ x y z : Int, wrap32 x = wrap32 y → wrap32 (x + (wrap32 z + 0)) = wrap32 (y + z) := fun x y z => by unfold wrap32; omega
      exact he _ _ _ hsw
    · rw [if_neg hc]
      exact RoundGroups_j2 l hl turn sums (by omega) a ha hsw k (by omega)
theorem RoundGroups : pelotonlaw01_RoundGroups.Pure := by
  intro l0 l1 a2 m0 n0 h0 m1 n1 h1 h2
  refine ⟨1001, ?_⟩
  unfold pelotonlaw01_RoundGroups.f
  have ht : pelotonlaw01_RoundGroups.j0 1001 l0 l1 a2 true = some true := by
    simp only [pelotonlaw01_RoundGroups.j0]; simp [awake_ok 1000 (by omega)]
  rw [awake_ok 1001 (by omega)]
  simp only [Option.bind_some, if_true]
  by_cases c0 : (l0.length : Int) > 100
  · rw [if_pos c0, ht]
  rw [if_neg c0]
  by_cases c1 : (l1.length : Int) > 20
  · rw [decide_eq_true c1, ht]
  rw [decide_eq_false c1]
  simp only [pelotonlaw01_RoundGroups.j0]
  rw [sum_eq l0 (by omega) 1000 (by omega)]
  simp only [Option.bind_some]
  have := RoundGroups_l0 l0 l1 (by omega) (by omega) (fun x hx => wf64 (h1 x hx)) a2 l1.length 1000 0 [] 0 (by omega) (by omega) (by simp) (by omega) (by simp)
  simpa using this

end Go.Proofs.Ytbbemkdfbiffbaa.Pure
