/- WeightShapes: the law's plain part: what its functions compute answers true, for all arguments of its types. No condition beside the given bounds. -/
import Derived.Test.YtboffchjmcdkaaaQWeightShapesx2
import Derived.Test.YtboffchjmcdkaaaMath
namespace Go.Proofs.Ytboffchjmcdkaaa.Pure
open Go.RowKit Go.Proofs.Ytboffchjmcdkaaa.QWeightShapes Go.Proofs.YtboffchjmcdkaaaW.PrintWords Go.Proofs.YtboffchjmcdkaaaW.PrintLast Go.Proofs.YtboffchjmcdkaaaW.PrintMore Go.PelMath
set_option linter.unusedVariables false
set_option linter.unusedSimpArgs false
theorem wf64 {x : Int} (h : (Lit.int .i64 x).wf = true) : -9223372036854775808 ≤ x ∧ x ≤ 9223372036854775807 := by
  simp [Lit.wf, IntKind.min, IntKind.max, IntKind.bits, IntKind.signed] at h; omega
theorem wf32 {x : Int} (h : (Lit.int .i32 x).wf = true) : -2147483648 ≤ x ∧ x ≤ 2147483647 := by
  simp [Lit.wf, IntKind.min, IntKind.max, IntKind.bits, IntKind.signed] at h; omega
theorem wf8 {x : Int} (h : (Lit.int .i8 x).wf = true) : -128 ≤ x ∧ x ≤ 127 := by
  simp [Lit.wf, IntKind.min, IntKind.max, IntKind.bits, IntKind.signed] at h; omega

def nn (n : Int) : Nat := (mn (mx n 0) 62).toNat
theorem nn_le (n : Int) : nn n ≤ 62 := by unfold nn mn mx; (repeat' split) <;> omega
theorem nn_of (n : Int) (h0 : 0 ≤ n) (h1 : n ≤ 62) : nn n = n.toNat := by unfold nn mn mx; (repeat' split) <;> omega

def clamp (x a b : Int) : Int := if x < a then a else if b < x then b else x
theorem clamp_range (x a b : Int) (h : a ≤ b) : a ≤ clamp x a b ∧ clamp x a b ≤ b := by unfold clamp; (repeat' split) <;> omega
theorem clamp_mono (x y a b : Int) (h : a ≤ b) (hxy : x ≤ y) : clamp x a b ≤ clamp y a b := by unfold clamp; (repeat' split) <;> omega
theorem clamp_id (x a b : Int) (h0 : a ≤ x) (h1 : x ≤ b) : clamp x a b = x := by unfold clamp; (repeat' split) <;> omega

theorem mul32 (x y : Int) (hx : -2147483648 ≤ x ∧ x ≤ 2147483647) (hy : -2147483648 ≤ y ∧ y ≤ 2147483647) : -4611686018427387904 ≤ x * y ∧ x * y ≤ 4611686018427387904 := by
  have h := Int.natAbs_mul x y
  have h1 : x.natAbs ≤ 2147483648 := by omega
  have h2 : y.natAbs ≤ 2147483648 := by omega
  have h3 : x.natAbs * y.natAbs ≤ 2147483648 * 2147483648 := Nat.mul_le_mul h1 h2
  omega

theorem wrap32_range (x : Int) : -2147483648 ≤ wrap32 x ∧ wrap32 x ≤ 2147483647 := by unfold wrap32; omega
theorem wrap32_0 : wrap32 0 = 0 := by unfold wrap32; omega
theorem rd_nat (l : List Int) (i : Nat) (h : i < l.length) : rd l (i : Int) = l[i] := by
  unfold rd; simp [List.getD, h]
theorem drop_cons (l : List Int) (i : Nat) (h : i < l.length) : l.drop i = rd l (i : Int) :: l.drop (i + 1) := by
  rw [rd_nat l i h, List.drop_eq_getElem_cons h]
theorem rd_mem (l : List Int) (i : Nat) (h : i < l.length) : rd l (i : Int) ∈ l := by rw [rd_nat l i h]; exact List.getElem_mem h
theorem next (i n : Nat) (h : i < n) (hn : n ≤ 9223372036854775807) : wrap64 ((i : Int) + 1) = ((i + 1 : Nat) : Int) := by
  rw [wrap64_wf _ (by omega) (by omega)]; omega

def dotI : List Int → List Int → Int
  | x :: a, y :: b => x * y + dotI a b
  | _, _ => 0
def prods : List Int → List Int → List Int
  | x :: a, y :: b => x * y :: prods a b
  | _, _ => []
theorem dotI_nil (a : List Int) : dotI a [] = 0 := by cases a <;> rfl
theorem tot_prods (a : List Int) : ∀ b, tot (prods a b) = dotI a b := by
  induction a with
  | nil => intro b; rfl
  | cons x a ih => intro b; cases b with
    | nil => rfl
    | cons y b => simp only [prods, tot, dotI, ih]
theorem prods_length (a : List Int) : ∀ b, (prods a b).length ≤ a.length := by
  induction a with
  | nil => intro b; simp [prods]
  | cons x a ih => intro b; cases b with
    | nil => simp [prods]
    | cons y b => simp only [prods, List.length_cons]; have := ih b; omega

theorem dotI_split (a : List Int) : ∀ (b : List Int) (k n : Nat), k ≤ n → n = min a.length b.length →
    dotI a b = dotI (a.take k) (b.take k) + dotI ((a.take n).drop k) ((b.take n).drop k) := by
  induction a with
  | nil => intro b k n h hn; simp [dotI]
  | cons x a ih =>
    intro b k n h hn
    cases b with
    | nil => simp [dotI_nil]
    | cons y b =>
      simp only [List.length_cons] at hn
      obtain ⟨n, rfl⟩ : ∃ m, n = m + 1 := ⟨n - 1, by omega⟩
      cases k with
      | zero =>
        have := ih b 0 n (by omega) (by omega)
        simp only [List.take_zero, List.drop_zero, dotI, Int.zero_add, List.take_succ_cons] at this ⊢
        rw [this]
      | succ k =>
        have := ih b k n (by omega) (by omega)
        simp only [List.take_succ_cons, List.drop_succ_cons, dotI]
        rw [this]; omega

theorem rest9 (n : Int) (h : -9223372036854775808 ≤ n ∧ n ≤ 9223372036854775807) : ∃ m : Nat, Int.tmod (wrap64 (Int.tmod n 9 + 9)) 9 = m ∧ m ≤ 8 := by
  have h1 := Int.tmod_lt_of_pos n (show (0 : Int) < 9 by omega)
  have h2 := Int.lt_tmod_of_pos n (show (0 : Int) < 9 by omega)
  rw [wrap64_wf _ (by omega) (by omega), Int.tmod_eq_emod_of_nonneg (by omega)]
  exact ⟨((Int.tmod n 9 + 9) % 9).toNat, by omega, by omega⟩

theorem rest31 (n : Int) (h : -9223372036854775808 ≤ n ∧ n ≤ 9223372036854775807) : ∃ m : Nat, Int.tmod (wrap64 (Int.tmod n 31 + 31)) 31 = m ∧ m ≤ 30 := by
  have h1 := Int.tmod_lt_of_pos n (show (0 : Int) < 31 by omega)
  have h2 := Int.lt_tmod_of_pos n (show (0 : Int) < 31 by omega)
  rw [wrap64_wf _ (by omega) (by omega), Int.tmod_eq_emod_of_nonneg (by omega)]
  exact ⟨((Int.tmod n 31 + 31) % 31).toNat, by omega, by omega⟩

def RightS (L W H I V P : Int) : Prop := (1 ≤ L ∧ L ≤ 16) ∧ (1 ≤ H ∧ H ≤ 16) ∧ (2 ≤ W ∧ W ≤ 128) ∧ W % (2 * H) = 0 ∧ (1 ≤ I ∧ I ≤ 256) ∧ (1 ≤ V ∧ V ≤ 512) ∧ (1 ≤ P ∧ P ≤ 256)
instance (L W H I V P : Int) : Decidable (RightS L W H I V P) := by unfold RightS; infer_instance

theorem in_eq (n a b : Int) : weight_in.f n a b = some (decide (a ≤ n ∧ n ≤ b)) := by
  unfold weight_in.f
  by_cases h : n ≥ a
  · rw [if_pos h]
    by_cases h2 : n ≤ b
    · rw [decide_eq_true h2, decide_eq_true ⟨h, h2⟩]
    · rw [decide_eq_false h2, decide_eq_false (fun x => h2 x.2)]
  · rw [if_neg h, decide_eq_false (fun x => h x.1)]
theorem wright_eq (L W H I V P : Int) : weight_Right.f L W H I V P = some (decide (RightS L W H I V P)) := by
  unfold weight_Right.f
  simp only [in_eq, Option.bind_some, decide_eq_true_eq]
  by_cases h1 : 1 ≤ L ∧ L ≤ 16
  · rw [if_pos h1]
    by_cases h2 : 1 ≤ H ∧ H ≤ 16
    · rw [if_pos h2]
      by_cases h3 : 2 ≤ W ∧ W ≤ 128
      · rw [if_pos h3, wrap64_wf (2 * H) (by omega) (by omega), if_neg (by omega), Int.tmod_eq_emod_of_nonneg (by omega)]
        by_cases h4 : W % (2 * H) = 0
        · rw [if_pos h4]
          by_cases h5 : 1 ≤ I ∧ I ≤ 256
          · rw [if_pos h5]
            by_cases h6 : 1 ≤ V ∧ V ≤ 512
            · rw [if_pos h6]
              by_cases h7 : 1 ≤ P ∧ P ≤ 256
              · have hm : RightS L W H I V P := ⟨h1, h2, h3, h4, h5, h6, h7⟩
                rw [decide_eq_true hm, decide_eq_true h7]
              · rw [decide_eq_false h7, decide_eq_false (fun x => h7 x.2.2.2.2.2.2)]
            · rw [if_neg h6, decide_eq_false (fun x => h6 x.2.2.2.2.2.1)]
          · rw [if_neg h5, decide_eq_false (fun x => h5 x.2.2.2.2.1)]
        · rw [if_neg h4, decide_eq_false (fun x => h4 x.2.2.2.1)]
      · rw [if_neg h3, decide_eq_false (fun x => h3 x.2.2.1)]
    · rw [if_neg h2, decide_eq_false (fun x => h2 x.2.1)]
  · rw [if_neg h1, decide_eq_false (fun x => h1 x.1)]

theorem r7right_eq (L W H I V P : Int) : pelotonref07_Right.f L W H I V P = some (decide (RightS L W H I V P)) := by
  have hbad : ¬ RightS L W H I V P → some false = some (decide (RightS L W H I V P)) := fun h => by rw [decide_eq_false h]
  unfold pelotonref07_Right.f
  by_cases a1 : L < 1
  · rw [if_pos a1, hbad (fun h => by have := h.1; omega)]
  rw [if_neg a1]
  by_cases a2 : L > 16
  · rw [if_pos a2, hbad (fun h => by have := h.1; omega)]
  rw [if_neg a2]
  by_cases a3 : H < 1
  · rw [if_pos a3, hbad (fun h => by have := h.2.1; omega)]
  rw [if_neg a3]
  by_cases a4 : H > 16
  · rw [if_pos a4, hbad (fun h => by have := h.2.1; omega)]
  rw [if_neg a4]
  by_cases a5 : W < 2
  · rw [if_pos a5, hbad (fun h => by have := h.2.2.1; omega)]
  rw [if_neg a5]
  by_cases a6 : W > 128
  · rw [if_pos a6, hbad (fun h => by have := h.2.2.1; omega)]
  rw [if_neg a6, wrap64_wf (2 * H) (by omega) (by omega), if_neg (by omega), Int.tmod_eq_emod_of_nonneg (by omega)]
  by_cases a7 : W % (2 * H) = 0
  · rw [if_pos a7]
    by_cases b1 : I ≥ 1
    · rw [if_pos b1]
      by_cases b2 : I ≤ 256
      · rw [if_pos b2]
        by_cases b3 : V ≥ 1
        · rw [if_pos b3]
          by_cases b4 : V ≤ 512
          · rw [if_pos b4]
            by_cases b5 : P ≥ 1
            · rw [if_pos b5]
              by_cases b6 : P ≤ 256
              · have hm : RightS L W H I V P := ⟨⟨by omega, by omega⟩, ⟨by omega, by omega⟩, ⟨by omega, by omega⟩, a7, ⟨b1, b2⟩, ⟨b3, b4⟩, ⟨b5, b6⟩⟩
                rw [decide_eq_true hm, decide_eq_true b6]
              · rw [decide_eq_false b6, decide_eq_false (fun x => b6 x.2.2.2.2.2.2.2)]
            · rw [if_neg b5, decide_eq_false (fun x => b5 x.2.2.2.2.2.2.1)]
          · rw [if_neg b4, decide_eq_false (fun x => b4 x.2.2.2.2.2.1.2)]
        · rw [if_neg b3, decide_eq_false (fun x => b3 x.2.2.2.2.2.1.1)]
      · rw [if_neg b2, decide_eq_false (fun x => b2 x.2.2.2.2.1.2)]
    · rw [if_neg b1, decide_eq_false (fun x => b1 x.2.2.2.2.1.1)]
  · rw [if_neg a7, hbad (fun h => a7 h.2.2.2.1)]

theorem div_b' (x p : Int) (h0 : 0 ≤ x) (hp : 1 ≤ p) : 0 ≤ x / p ∧ x / p ≤ x :=
  ⟨Int.ediv_nonneg h0 (by omega), Int.ediv_le_self _ h0⟩
theorem mulb10 {a b A B : Int} (h0 : 0 ≤ a) (h1 : a ≤ A) (h2 : 0 ≤ b) (h3 : b ≤ B) : 0 ≤ a * b ∧ a * b ≤ A * B :=
  ⟨Int.mul_nonneg h0 h2, Int.mul_le_mul h1 h3 h2 (Int.le_trans h0 h1)⟩

def bst (r : Nat) : Nat := if r % 2 = 1 then (r / 2) ^^^ 3988292384 else r / 2
def b4 (r : Nat) : Nat := bst (bst (bst (bst r)))
def b8 (r : Nat) : Nat := b4 (b4 r)
def crcB (s x : Nat) : Nat := b8 (s ^^^ x)
def crcL (s : Nat) (l : List Nat) : Nat := l.foldl crcB s

theorem xor_lt32 {a b : Nat} (ha : a < 2 ^ 32) (hb : b < 2 ^ 32) : a ^^^ b < 2 ^ 32 := Nat.xor_lt_two_pow ha hb
theorem bst_lt {r : Nat} (h : r < 2 ^ 32) : bst r < 2 ^ 32 := by
  unfold bst; split
  · exact xor_lt32 (by omega) (by decide)
  · omega
theorem xor_div2 (a b : Nat) : (a ^^^ b) / 2 = a / 2 ^^^ b / 2 := by
  apply Nat.eq_of_testBit_eq
  intro i
  rw [Nat.testBit_div_two, Nat.testBit_xor, Nat.testBit_xor, Nat.testBit_div_two, Nat.testBit_div_two]
theorem xor_mod2 (a b : Nat) : (a ^^^ b) % 2 = (a % 2 + b % 2) % 2 := by
  have h := Nat.testBit_xor a b 0
  rw [Nat.testBit_zero, Nat.testBit_zero, Nat.testBit_zero] at h
  have ha : a % 2 = 0 ∨ a % 2 = 1 := by omega
  have hb : b % 2 = 0 ∨ b % 2 = 1 := by omega
  have hc : (a ^^^ b) % 2 = 0 ∨ (a ^^^ b) % 2 = 1 := by omega
  rcases ha with ha | ha <;> rcases hb with hb | hb <;> rcases hc with hc | hc <;> simp [ha, hb, hc] at h ⊢
theorem bst_xor (a b : Nat) : bst (a ^^^ b) = bst a ^^^ bst b := by
  unfold bst
  rw [xor_mod2, xor_div2]
  have ha : a % 2 = 0 ∨ a % 2 = 1 := by omega
  have hb : b % 2 = 0 ∨ b % 2 = 1 := by omega
  rcases ha with ha | ha <;> rcases hb with hb | hb <;> simp only [ha, hb] <;> simp
  · rw [Nat.xor_assoc]
  · rw [Nat.xor_assoc, Nat.xor_assoc, Nat.xor_comm 3988292384]
  · rw [Nat.xor_assoc, ← Nat.xor_assoc 3988292384, Nat.xor_comm 3988292384 (b / 2), Nat.xor_assoc, Nat.xor_self, Nat.xor_zero]
theorem b4_xor (a b : Nat) : b4 (a ^^^ b) = b4 a ^^^ b4 b := by unfold b4; rw [bst_xor, bst_xor, bst_xor, bst_xor]
theorem b8_xor (a b : Nat) : b8 (a ^^^ b) = b8 a ^^^ b8 b := by unfold b8; rw [b4_xor, b4_xor]
theorem b4_lt {r : Nat} (h : r < 2 ^ 32) : b4 r < 2 ^ 32 := bst_lt (bst_lt (bst_lt (bst_lt h)))
theorem b8_lt {r : Nat} (h : r < 2 ^ 32) : b8 r < 2 ^ 32 := b4_lt (b4_lt h)
theorem bst_even (h : Nat) : bst (2 * h) = h := by unfold bst; rw [if_neg (by omega)]; omega
theorem b4_hi (h : Nat) : b4 (16 * h) = h := by
  unfold b4
  rw [show 16 * h = 2 * (2 * (2 * (2 * h))) by omega, bst_even, bst_even, bst_even, bst_even]
theorem split16 (s : Nat) : s = (16 * (s / 16)) ^^^ (s % 16) := by
  apply Nat.eq_of_testBit_eq
  intro i
  rw [Nat.testBit_xor]
  have e1 : 16 * (s / 16) = 2 ^ 4 * (s / 2 ^ 4) := rfl
  have e2 : s % 16 = s % 2 ^ 4 := rfl
  rw [e1, e2, Nat.testBit_two_pow_mul, Nat.testBit_div_two_pow, Nat.testBit_mod_two_pow]
  by_cases hi : i < 4
  · have : ¬ 4 ≤ i := by omega
    simp [hi, this]
  · have h4 : 4 ≤ i := by omega
    simp [hi, h4]
def tab : List Nat := [0, 0x1DB71064, 0x3B6E20C8, 0x26D930AC, 0x76DC4190, 0x6B6B51F4, 0x4DB26158, 0x5005713C, 0xEDB88320, 0xF00F9344, 0xD6D6A3E8, 0xCB61B38C, 0x9B64C2B0, 0x86D3D2D4, 0xA00AE278, 0xBDBDF21C]
theorem b4_low : ∀ x, x < 16 → b4 x = tab.getD x 0 := by decide
theorem b4_tab (s : Nat) : b4 s = tab.getD (s % 16) 0 ^^^ s / 16 := by
  conv => lhs; rw [split16 s]
  rw [b4_xor, b4_hi, b4_low _ (Nat.mod_lt _ (by decide)), Nat.xor_comm]
theorem xor_mod16 (a b : Nat) : (a ^^^ b) % 16 = (a % 16) ^^^ (b % 16) := by
  apply Nat.eq_of_testBit_eq
  intro i
  have e : ∀ z : Nat, z % 16 = z % 2 ^ 4 := fun _ => rfl
  rw [e (a ^^^ b), e a, e b, Nat.testBit_xor, Nat.testBit_mod_two_pow, Nat.testBit_mod_two_pow, Nat.testBit_mod_two_pow, Nat.testBit_xor]
  by_cases hi : i < 4 <;> simp [hi]
theorem xor_div16 (a b : Nat) : (a ^^^ b) / 16 = (a / 16) ^^^ (b / 16) := by
  apply Nat.eq_of_testBit_eq
  intro i
  have e : ∀ z : Nat, z / 16 = z / 2 ^ 4 := fun _ => rfl
  rw [e (a ^^^ b), e a, e b, Nat.testBit_xor, Nat.testBit_div_two_pow, Nat.testBit_div_two_pow, Nat.testBit_div_two_pow, Nat.testBit_xor]
/-- a byte by two half bytes, out of the table -/
theorem crcB_tab (s x : Nat) (hx : x < 256) :
    crcB s x = tab.getD (((tab.getD ((s ^^^ x) % 16) 0 ^^^ s / 16) ^^^ x / 16) % 16) 0 ^^^ (tab.getD ((s ^^^ x) % 16) 0 ^^^ s / 16) / 16 := by
  have h1 : b4 (s ^^^ x) = (tab.getD ((s ^^^ x) % 16) 0 ^^^ s / 16) ^^^ x / 16 := by
    rw [b4_tab, xor_div16, Nat.xor_assoc]
  unfold crcB b8
  rw [h1, b4_tab, xor_div16 _ (x / 16), show x / 16 / 16 = 0 by omega, Nat.xor_zero]
/-- unlike states stay unlike -/
theorem bst_inj {a b : Nat} (ha : a < 2 ^ 32) (hb : b < 2 ^ 32) (h : bst a = bst b) : a = b := by
  have key : ∀ r : Nat, r < 2 ^ 32 → (bst r).testBit 31 = decide (r % 2 = 1) := by
    intro r hr
    unfold bst
    have h0 : (r / 2).testBit 31 = false := Nat.testBit_lt_two_pow (by omega)
    split
    · rename_i h1
      rw [Nat.testBit_xor, h0]; simp [h1]; decide
    · rename_i h1
      rw [h0]; simp [h1]
  have k1 := key a ha
  have k2 := key b hb
  rw [h, k2] at k1
  have hp : a % 2 = b % 2 := by
    have := decide_eq_decide.1 k1
    omega
  have hd : a / 2 = b / 2 := by
    unfold bst at h
    rw [hp] at h
    split at h
    · have h2 := congrArg (· ^^^ 3988292384) h
      simp only [Nat.xor_assoc, Nat.xor_self, Nat.xor_zero] at h2
      exact h2
    · exact h
  omega
theorem b4_inj {a b : Nat} (ha : a < 2 ^ 32) (hb : b < 2 ^ 32) (h : b4 a = b4 b) : a = b :=
  bst_inj ha hb (bst_inj (bst_lt ha) (bst_lt hb) (bst_inj (bst_lt (bst_lt ha)) (bst_lt (bst_lt hb)) (bst_inj (bst_lt (bst_lt (bst_lt ha))) (bst_lt (bst_lt (bst_lt hb))) h)))
theorem b8_inj {a b : Nat} (ha : a < 2 ^ 32) (hb : b < 2 ^ 32) (h : b8 a = b8 b) : a = b := b4_inj ha hb (b4_inj (b4_lt ha) (b4_lt hb) h)
theorem xor_cancel_r {a b c : Nat} (h : a ^^^ c = b ^^^ c) : a = b := by
  have h2 := congrArg (· ^^^ c) h
  simpa only [Nat.xor_assoc, Nat.xor_self, Nat.xor_zero] using h2
theorem xor_cancel_l {a b c : Nat} (h : c ^^^ a = c ^^^ b) : a = b := by
  rw [Nat.xor_comm c a, Nat.xor_comm c b] at h
  exact xor_cancel_r h
theorem crcB_lt {s x : Nat} (hs : s < 2 ^ 32) (hx : x < 256) : crcB s x < 2 ^ 32 := b8_lt (xor_lt32 hs (by omega))
theorem crcB_inj_s {s t x : Nat} (hs : s < 2 ^ 32) (ht : t < 2 ^ 32) (hx : x < 256) (h : crcB s x = crcB t x) : s = t :=
  xor_cancel_r (b8_inj (xor_lt32 hs (by omega)) (xor_lt32 ht (by omega)) h)
theorem crcB_inj_x {s x y : Nat} (hs : s < 2 ^ 32) (hx : x < 256) (hy : y < 256) (h : crcB s x = crcB s y) : x = y :=
  xor_cancel_l (b8_inj (xor_lt32 hs (by omega)) (xor_lt32 hs (by omega)) h)
theorem crcL_append (s : Nat) (a b : List Nat) : crcL s (a ++ b) = crcL (crcL s a) b := by unfold crcL; rw [List.foldl_append]
theorem crcL_lt {l : List Nat} : ∀ {s : Nat}, s < 2 ^ 32 → (∀ x ∈ l, x < 256) → crcL s l < 2 ^ 32 := by
  induction l with
  | nil => intro s hs _; exact hs
  | cons x l ih =>
    intro s hs h
    exact ih (crcB_lt hs (h x (by simp))) (fun y hy => h y (by simp [hy]))
theorem crcL_inj_s {l : List Nat} : ∀ {s t : Nat}, s < 2 ^ 32 → t < 2 ^ 32 → (∀ x ∈ l, x < 256) → crcL s l = crcL t l → s = t := by
  induction l with
  | nil => intro s t _ _ _ h; exact h
  | cons x l ih =>
    intro s t hs ht h he
    have hx := h x (by simp)
    exact crcB_inj_s hs ht hx (ih (crcB_lt hs hx) (crcB_lt ht hx) (fun y hy => h y (by simp [hy])) he)
/-- bytes that differ at one place have unlike check sums -/
theorem crcL_one {a b : List Nat} {x y s : Nat} (hs : s < 2 ^ 32) (ha : ∀ z ∈ a, z < 256) (hb : ∀ z ∈ b, z < 256) (hx : x < 256) (hy : y < 256) (h : crcL s (a ++ x :: b) = crcL s (a ++ y :: b)) : x = y := by
  rw [crcL_append, crcL_append] at h
  have h1 := crcL_lt hs ha
  exact crcB_inj_x h1 hx hy (crcL_inj_s (l := b) (crcB_lt h1 hx) (crcB_lt h1 hy) hb h)

theorem bxor32 (a b : Nat) (ha : a < 2 ^ 32) (hb : b < 2 ^ 32) : Go.bits .xor .u32 (a : Int) (b : Int) = ((a ^^^ b : Nat) : Int) := by
  have e : bits .xor .u32 (a : Int) (b : Int) = IntKind.u32.wrap (((BitVec.ofInt 32 a ^^^ BitVec.ofInt 32 b).toNat : Nat) : Int) := rfl
  have hw : ∀ y : Int, IntKind.u32.wrap y = y % 4294967296 := by intro y; simp [IntKind.wrap, IntKind.bits, IntKind.signed]
  have h1 : (BitVec.ofInt 32 (a : Int)).toNat = a := by rw [BitVec.toNat_ofInt]; omega
  have h2 : (BitVec.ofInt 32 (b : Int)).toNat = b := by rw [BitVec.toNat_ofInt]; omega
  have h3 := xor_lt32 ha hb
  rw [e, BitVec.toNat_xor, h1, h2, hw]
  omega
theorem band15 (a : Nat) (ha : a < 2 ^ 32) : Go.bits .and .u32 (a : Int) 15 = ((a % 16 : Nat) : Int) := by
  have e : bits .and .u32 (a : Int) 15 = IntKind.u32.wrap (((BitVec.ofInt 32 a &&& BitVec.ofInt 32 15).toNat : Nat) : Int) := rfl
  have hw : ∀ y : Int, IntKind.u32.wrap y = y % 4294967296 := by intro y; simp [IntKind.wrap, IntKind.bits, IntKind.signed]
  have h1 : (BitVec.ofInt 32 (a : Int)).toNat = a := by rw [BitVec.toNat_ofInt]; omega
  have h2 : (BitVec.ofInt 32 (15 : Int)).toNat = 2 ^ 4 - 1 := by decide
  rw [e, BitVec.toNat_and, h1, h2, Nat.and_two_pow_sub_one_eq_mod, hw]
  omega
/-- bytes as natural numbers -/
def nb (l : List Int) : List Nat := l.map Int.toNat
def Byt (l : List Int) : Prop := ∀ x ∈ l, 0 ≤ x ∧ x ≤ 255
theorem nb_append (a b : List Int) : nb (a ++ b) = nb a ++ nb b := by simp [nb]
theorem nb_lt {l : List Int} (h : Byt l) : ∀ x ∈ nb l, x < 256 := by
  intro x hx
  obtain ⟨y, hy, rfl⟩ := List.mem_map.1 hx
  have := h y hy; omega
theorem nb_length (l : List Int) : (nb l).length = l.length := by simp [nb]
theorem nb_inj {a b : List Int} (ha : Byt a) (hb : Byt b) (h : nb a = nb b) : a = b := by
  induction a generalizing b with
  | nil => cases b with
    | nil => rfl
    | cons y b => simp [nb] at h
  | cons x a ih =>
    cases b with
    | nil => simp [nb] at h
    | cons y b =>
      simp only [nb, List.map_cons, List.cons.injEq] at h
      have h1 := ha x (by simp); have h2 := hb y (by simp)
      rw [ih (fun z hz => ha z (by simp [hz])) (fun z hz => hb z (by simp [hz])) h.2]
      congr 1; omega
/-- the check sum of bytes -/
def crc (l : List Int) : Nat := crcL 4294967295 (nb l) ^^^ 4294967295
theorem crc_lt {l : List Int} (h : Byt l) : crc l < 2 ^ 32 := xor_lt32 (crcL_lt (by decide) (nb_lt h)) (by decide)

theorem tab_rd : ∀ m : Nat, m < 16 → rd weight_Sum.tab (m : Int) = ((tab.getD m 0 : Nat) : Int) := by decide
theorem tab_lt : ∀ m : Nat, m < 16 → tab.getD m 0 < 2 ^ 32 := by decide
theorem wsum_h1 (s y : Nat) (hs : s < 2 ^ 32) (hy : y < 2 ^ 32) : weight_Sum.h1 (s : Int) (y : Int) = ((tab.getD ((s ^^^ y) % 16) 0 ^^^ s / 16 : Nat) : Int) := by
  unfold weight_Sum.h1
  have hm := Nat.mod_lt (s ^^^ y) (show 0 < 16 by omega)
  rw [bxor32 s y hs hy, band15 _ (xor_lt32 hs hy), tab_rd _ hm, show ((s : Int) / 16) = ((s / 16 : Nat) : Int) by omega, bxor32 _ _ (tab_lt _ hm) (by omega)]
theorem wsum_step (s : Nat) (x : Int) (hs : s < 2 ^ 32) (hx : 0 ≤ x ∧ x ≤ 255) : weight_Sum.step (s : Int) x = ((crcB s x.toNat : Nat) : Int) := by
  obtain ⟨y, rfl⟩ := Int.eq_ofNat_of_zero_le hx.1
  have hw : IntKind.u32.wrap (y : Int) = (y : Int) := by
    have : ∀ y : Int, IntKind.u32.wrap y = y % 4294967296 := by intro y; simp [IntKind.wrap, IntKind.bits, IntKind.signed]
    rw [this]; omega
  have hm := Nat.mod_lt (s ^^^ y) (show 0 < 16 by omega)
  unfold weight_Sum.step
  rw [hw, wsum_h1 s y hs (by omega), show ((y : Int) / 16) = ((y / 16 : Nat) : Int) by omega, wsum_h1 _ _ (xor_lt32 (tab_lt _ hm) (by omega)) (by omega), Int.toNat_natCast, crcB_tab s y (by omega)]
theorem wsum_piece (l : List Int) : ∀ (s : Nat), s < 2 ^ 32 → Byt l → weight_Sum.piece (s : Int) l = ((crcL s (nb l) : Nat) : Int) := by
  induction l with
  | nil => intro s _ _; rfl
  | cons x l ih =>
    intro s hs h
    have hx := h x (by simp)
    have e : weight_Sum.piece (s : Int) (x :: l) = weight_Sum.piece (weight_Sum.step (s : Int) x) l := rfl
    rw [e, wsum_step s x hs hx, ih _ (crcB_lt hs (by omega)) (fun y hy => h y (by simp [hy]))]
    rfl
theorem wsum_all (ls : List (List Int)) : ∀ (s : Nat), s < 2 ^ 32 → (∀ l ∈ ls, Byt l) → ls.foldl weight_Sum.piece (s : Int) = ((crcL s (nb ls.flatten) : Nat) : Int) := by
  induction ls with
  | nil => intro s _ _; rfl
  | cons l ls ih =>
    intro s hs h
    have hl := h l (by simp)
    rw [List.foldl_cons, wsum_piece l s hs hl, ih _ (crcL_lt hs (nb_lt hl)) (fun y hy => h y (by simp [hy])), List.flatten_cons, nb_append, crcL_append]
theorem wsum_eq (ls : List (List Int)) (hn : ls.length < 4611686018427387904) (hb : ∀ l ∈ ls, Byt l) (hl : ∀ l ∈ ls, l.length < 4611686018427387904) : weight_Sum.f ls = some ((crc ls.flatten : Nat) : Int) := by
  have hf : weight_Sum.fit ls = true := by
    unfold weight_Sum.fit
    rw [decide_eq_true hn, Bool.true_and, List.all_eq_true]
    exact fun l h => decide_eq_true (hl l h)
  have hbf : Byt ls.flatten := by
    intro x hx
    obtain ⟨l, h1, h2⟩ := List.mem_flatten.1 hx
    exact hb l h1 x h2
  unfold weight_Sum.f
  rw [if_pos hf]
  have h1 := wsum_all ls 4294967295 (by decide) hb
  have h2 := crcL_lt (l := nb ls.flatten) (s := 4294967295) (by decide) (nb_lt hbf)
  rw [show (4294967295 : Int) = ((4294967295 : Nat) : Int) from rfl, h1, bxor32 _ _ (by decide) h2, Nat.xor_comm]
  rfl

theorem wfu8 {x : Int} (h : (Lit.int .u8 x).wf = true) : 0 ≤ x ∧ x ≤ 255 := by
  simp [Lit.wf, IntKind.min, IntKind.max, IntKind.bits, IntKind.signed] at h; omega

def rowsum (l : List S35) : Int := l.foldr (fun x s => x.f1 + s) 0
theorem rowsum_append (a b : List S35) : rowsum (a ++ b) = rowsum a + rowsum b := by
  induction a with
  | nil => simp [rowsum]
  | cons x a ih =>
    have e : rowsum (x :: (a ++ b)) = x.f1 + rowsum (a ++ b) := rfl
    have e2 : rowsum (x :: a) = x.f1 + rowsum a := rfl
    rw [List.cons_append, e, e2, ih]; omega
def blk (W I : Int) : Int := W + W * W + W * W + W * W + W * W + W + I * W + W * I
theorem mulb7 (a b A B : Int) (h0 : 0 ≤ a) (h1 : a ≤ A) (g0 : 0 ≤ b) (g1 : b ≤ B) : 0 ≤ a * b ∧ a * b ≤ A * B :=
  ⟨Int.mul_nonneg h0 g0, Int.mul_le_mul h1 g1 g0 (by omega)⟩
theorem rows_loop (L W H I V P : Int) (hR : RightS L W H I V P) : ∀ (d k i : Nat) (o : List S35), (i : Int) + d = L → d < k → o.length = 1 + 8 * i → (∀ x ∈ o, 0 ≤ x.f1) →
    ∃ r, pelotonref07_Rows.l0 k o i L W H I V P = some r ∧ r.length = o.length + 8 * d + 2 ∧ rowsum r = rowsum o + d * blk W I + W + V * W ∧ ∀ x ∈ r, 0 ≤ x.f1 := by
  obtain ⟨⟨L0, L1⟩, ⟨H0, H1⟩, ⟨W0, W1⟩, _, ⟨I0, I1⟩, ⟨V0, V1⟩, _⟩ := hR
  have m1 := mulb7 W W 128 128 (by omega) W1 (by omega) W1
  have m2 := mulb7 I W 256 128 (by omega) I1 (by omega) W1
  have m3 := mulb7 W I 128 256 (by omega) W1 (by omega) I1
  have m4 := mulb7 V W 512 128 (by omega) V1 (by omega) W1
  intro d
  induction d with
  | zero =>
    intro k i o hi hk ho hp
    obtain ⟨k, rfl⟩ : ∃ m, k = m + 1 := ⟨k - 1, by omega⟩
    simp only [pelotonref07_Rows.l0]
    rw [if_neg (by omega), Option.bind_some, if_pos (by simp; omega), wrap64_wf (V * W) (by omega) (by omega)]
    refine ⟨_, rfl, by simp, ?_, ?_⟩
    · rw [rowsum_append]
      simp [rowsum]; omega
    · intro x hx
      rcases List.mem_append.1 hx with h | h
      · exact hp x h
      · simp at h; rcases h with rfl | rfl <;> dsimp only <;> omega
  | succ d ih =>
    intro k i o hi hk ho hp
    obtain ⟨k, rfl⟩ : ∃ m, k = m + 1 := ⟨k - 1, by omega⟩
    simp only [pelotonref07_Rows.l0]
    rw [if_pos (by omega), Option.bind_some, if_pos (by simp; omega), wrap64_wf (W * W) (by omega) (by omega), wrap64_wf (I * W) (by omega) (by omega), wrap64_wf (W * I) (by omega) (by omega), next i 16 (by omega) (by omega)]
    obtain ⟨r, h1, h2, h3, h4⟩ := ih k (i + 1) (o ++ [⟨true, W⟩, ⟨false, W * W⟩, ⟨false, W * W⟩, ⟨false, W * W⟩, ⟨false, W * W⟩, ⟨true, W⟩, ⟨false, I * W⟩, ⟨false, W * I⟩]) (by omega) (by omega) (by simp; omega) (by
      intro x hx
      rcases List.mem_append.1 hx with h | h
      · exact hp x h
      · simp at h; rcases h with rfl | rfl | rfl | rfl | rfl | rfl | rfl | rfl <;> dsimp only <;> omega)
    refine ⟨r, h1, by rw [h2]; simp; omega, ?_, h4⟩
    rw [h3, rowsum_append, show ((d + 1 : Nat) : Int) * blk W I = (d : Int) * blk W I + blk W I by rw [show ((d + 1 : Nat) : Int) = (d : Int) + 1 by omega, Int.add_mul, Int.one_mul]]
    unfold blk
    simp [rowsum]; omega
theorem shapes_loop (b : Bool) (L W H I V P : Int) (l : List S35) (hl : l.length ≤ 1000) (T : Int) (hT : ∀ i : Nat, -9223372036854775808 ≤ T - rowsum (l.drop i) ∧ T - rowsum (l.drop i) ≤ 9223372036854775807) : ∀ (d k i : Nat), i + d = l.length → d < k →
    pelotonlaw07_WeightShapes.l0 k b (T - rowsum (l.drop i)) l i L W H I V P = ((weight_Right.f L W H I V P).bind fun t135 => (if (t135 == b) = true then ((weight_Count.f L W H I V P).bind fun t136 => (some (t136 == T))) else (some false))) := by
  intro d
  induction d with
  | zero =>
    intro k i hi hk
    obtain ⟨k, rfl⟩ : ∃ m, k = m + 1 := ⟨k - 1, by omega⟩
    simp only [pelotonlaw07_WeightShapes.l0]
    rw [if_neg (by omega), List.drop_of_length_le (by omega)]
    simp [rowsum]
  | succ d ih =>
    intro k i hi hk
    obtain ⟨k, rfl⟩ : ∃ m, k = m + 1 := ⟨k - 1, by omega⟩
    have hx : rd_T35 l (i : Int) = l[i] := by unfold rd_T35; simp [List.getD, show i < l.length by omega]
    have hd : rowsum (l.drop i) = (l[i]).f1 + rowsum (l.drop (i + 1)) := by
      rw [List.drop_eq_getElem_cons (show i < l.length by omega)]; rfl
    simp only [pelotonlaw07_WeightShapes.l0]
    rw [if_pos (by omega), if_pos (by omega), hx, hd, show T - ((l[i]).f1 + rowsum (l.drop (i + 1))) + (l[i]).f1 = T - rowsum (l.drop (i + 1)) by omega, wrap64_wf _ (hT (i + 1)).1 (hT (i + 1)).2, next i 1000 (by omega) (by omega)]
    exact ih k (i + 1) (by omega) (by omega)
theorem count7_eq (L W H I V P : Int) (hR : RightS L W H I V P) : weight_Count.f L W H I V P = some (V * W + L * blk W I + W + V * W) := by
  unfold weight_Count.f
  rw [wright_eq, decide_eq_true hR, Option.bind_some, if_pos rfl]
  obtain ⟨⟨L0, L1⟩, ⟨H0, H1⟩, ⟨W0, W1⟩, _, ⟨I0, I1⟩, ⟨V0, V1⟩, _⟩ := hR
  have m1 := mulb7 W W 128 128 (by omega) W1 (by omega) W1
  have m3 := mulb7 W I 128 256 (by omega) W1 (by omega) I1
  have m4 := mulb7 V W 512 128 (by omega) V1 (by omega) W1
  have e1 : 2 * V * W = V * W + V * W := by rw [Int.mul_assoc]; omega
  have e2 : 4 * W * W = W * W + W * W + (W * W + W * W) := by rw [Int.mul_assoc]; omega
  have e3 : 2 * W * I = W * I + W * I := by rw [Int.mul_assoc]; omega
  have e4 : I * W = W * I := Int.mul_comm _ _
  have e5 : blk W I = 2 * W + 4 * W * W + 2 * W * I := by unfold blk; omega
  have m5 : 0 ≤ blk W I ∧ blk W I ≤ 200000 := by rw [e5]; omega
  have m6 := mulb7 L (blk W I) 16 200000 (by omega) L1 m5.1 m5.2
  rw [wrap64_wf (2 * V) (by omega) (by omega), wrap64_wf (2 * V * W) (by omega) (by omega), wrap64_wf (2 * V * W + W) (by omega) (by omega), wrap64_wf (2 * W) (by omega) (by omega), wrap64_wf (4 * W) (by omega) (by omega), wrap64_wf (4 * W * W) (by omega) (by omega), wrap64_wf (2 * W + 4 * W * W) (by omega) (by omega), wrap64_wf (2 * W * I) (by omega) (by omega), wrap64_wf (2 * W + 4 * W * W + 2 * W * I) (by omega) (by omega), ← e5, wrap64_wf (L * blk W I) (by omega) (by omega), wrap64_wf (2 * V * W + W + L * blk W I) (by omega) (by omega)]
  congr 1; omega
theorem WeightShapes : pelotonlaw07_WeightShapes.Pure := by
  intro L W H I V P hw
  refine ⟨2000, ?_⟩
  unfold pelotonlaw07_WeightShapes.f pelotonlaw07_awake.f
  simp only [Option.bind_some, if_true]
  rw [r7right_eq, Option.bind_some]
  by_cases hR : RightS L W H I V P
  · rw [decide_eq_true hR, if_pos rfl]
    obtain ⟨⟨L0, L1⟩, ⟨H0, H1⟩, ⟨W0, W1⟩, _, ⟨I0, I1⟩, ⟨V0, V1⟩, _⟩ := id hR
    have m4 := mulb7 V W 512 128 (by omega) V1 (by omega) W1
    unfold pelotonref07_Rows.f
    rw [wrap64_wf (V * W) (by omega) (by omega)]
    obtain ⟨r, h1, h2, h3, h4⟩ := rows_loop L W H I V P hR L.toNat 2000 0 [⟨false, V * W⟩] (by omega) (by omega) (by simp) (by intro x hx; rw [List.mem_singleton.1 hx]; exact m4.1)
    rw [show ((0 : Nat) : Int) = 0 from rfl] at h1
    rw [h1, Option.bind_some]
    have e0 : rowsum [(⟨false, V * W⟩ : S35)] = V * W := by simp [rowsum]
    rw [e0, show ((L.toNat : Nat) : Int) = L by omega] at h3
    have hlen : r.length ≤ 1000 := by simp at h2; omega
    have m1 := mulb7 W W 128 128 (by omega) W1 (by omega) W1
    have m2 := mulb7 I W 256 128 (by omega) I1 (by omega) W1
    have m3 := mulb7 W I 128 256 (by omega) W1 (by omega) I1
    have m5 : 0 ≤ blk W I ∧ blk W I ≤ 200000 := by unfold blk; omega
    have m6 := mulb7 L (blk W I) 16 200000 (by omega) L1 m5.1 m5.2
    have hT : ∀ i : Nat, 0 ≤ rowsum r - rowsum (r.drop i) ∧ rowsum r - rowsum (r.drop i) ≤ rowsum r := by
      intro i
      have hs : ∀ l : List S35, (∀ x ∈ l, 0 ≤ x.f1) → 0 ≤ rowsum l := by
        intro l
        induction l with
        | nil => intro _; simp [rowsum]
        | cons x l ih =>
          intro h
          have a1 := h x (by simp)
          have a2 := ih (fun y hy => h y (by simp [hy]))
          have e2 : rowsum (x :: l) = x.f1 + rowsum l := rfl
          omega
      have e := rowsum_append (r.take i) (r.drop i)
      rw [List.take_append_drop] at e
      have a1 := hs (r.take i) (fun x hx => h4 x (List.mem_of_mem_take hx))
      have a2 := hs (r.drop i) (fun x hx => h4 x (List.mem_of_mem_drop hx))
      omega
    have hloop := shapes_loop true L W H I V P r hlen (rowsum r) (fun i => by have := hT i; omega) r.length 2000 0 (by omega) (by omega)
    rw [show rowsum r - rowsum (r.drop 0) = 0 by simp, show ((0 : Nat) : Int) = 0 from rfl] at hloop
    rw [hloop, wright_eq, decide_eq_true hR, Option.bind_some, count7_eq L W H I V P hR, h3]
    simp
  · rw [decide_eq_false hR, if_neg (by simp), wright_eq, Option.bind_some, decide_eq_false hR]
    simp only [beq_self_eq_true, if_true]
    unfold weight_Count.f
    rw [wright_eq, decide_eq_false hR]
    simp

end Go.Proofs.Ytboffchjmcdkaaa.Pure
