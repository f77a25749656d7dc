/- FrameCatches: the law's plain part: what its functions compute answers true, for all arguments of its types. No condition beside the given bounds. -/
import Derived.Test.YtofoimndhndffaaQFrameCatchesx3
import Derived.Test.YtofoimndhndffaaMath
namespace Go.Proofs.Ytofoimndhndffaa.Pure
open Go.RowKit Go.Proofs.Ytofoimndhndffaa.QFrameCatches Go.Proofs.YtofoimndhndffaaW.PrintWords Go.Proofs.YtofoimndhndffaaW.PrintLast Go.Proofs.YtofoimndhndffaaW.PrintMore Go.PelMath
set_option linter.unusedVariables false
set_option linter.unusedSimpArgs false
theorem wf64 {x : Int} (h : (Lit.int .i64 x).wf = true) : -9223372036854775808 ≤ x ∧ x ≤ 9223372036854775807 := by
  simp [Lit.wf, IntKind.min, IntKind.max, IntKind.bits, IntKind.signed] at h; omega
theorem wf32 {x : Int} (h : (Lit.int .i32 x).wf = true) : -2147483648 ≤ x ∧ x ≤ 2147483647 := by
  simp [Lit.wf, IntKind.min, IntKind.max, IntKind.bits, IntKind.signed] at h; omega
theorem wf8 {x : Int} (h : (Lit.int .i8 x).wf = true) : -128 ≤ x ∧ x ≤ 127 := by
  simp [Lit.wf, IntKind.min, IntKind.max, IntKind.bits, IntKind.signed] at h; omega

def nn (n : Int) : Nat := (mn (mx n 0) 62).toNat
theorem nn_le (n : Int) : nn n ≤ 62 := by unfold nn mn mx; (repeat' split) <;> omega
theorem nn_of (n : Int) (h0 : 0 ≤ n) (h1 : n ≤ 62) : nn n = n.toNat := by unfold nn mn mx; (repeat' split) <;> omega

def clamp (x a b : Int) : Int := if x < a then a else if b < x then b else x
theorem clamp_range (x a b : Int) (h : a ≤ b) : a ≤ clamp x a b ∧ clamp x a b ≤ b := by unfold clamp; (repeat' split) <;> omega
theorem clamp_mono (x y a b : Int) (h : a ≤ b) (hxy : x ≤ y) : clamp x a b ≤ clamp y a b := by unfold clamp; (repeat' split) <;> omega
theorem clamp_id (x a b : Int) (h0 : a ≤ x) (h1 : x ≤ b) : clamp x a b = x := by unfold clamp; (repeat' split) <;> omega

theorem mul32 (x y : Int) (hx : -2147483648 ≤ x ∧ x ≤ 2147483647) (hy : -2147483648 ≤ y ∧ y ≤ 2147483647) : -4611686018427387904 ≤ x * y ∧ x * y ≤ 4611686018427387904 := by
  have h := Int.natAbs_mul x y
  have h1 : x.natAbs ≤ 2147483648 := by omega
  have h2 : y.natAbs ≤ 2147483648 := by omega
  have h3 : x.natAbs * y.natAbs ≤ 2147483648 * 2147483648 := Nat.mul_le_mul h1 h2
  omega

theorem wrap32_range (x : Int) : -2147483648 ≤ wrap32 x ∧ wrap32 x ≤ 2147483647 := by unfold wrap32; omega
theorem wrap32_0 : wrap32 0 = 0 := by unfold wrap32; omega
theorem rd_nat (l : List Int) (i : Nat) (h : i < l.length) : rd l (i : Int) = l[i] := by
  unfold rd; simp [List.getD, h]
theorem drop_cons (l : List Int) (i : Nat) (h : i < l.length) : l.drop i = rd l (i : Int) :: l.drop (i + 1) := by
  rw [rd_nat l i h, List.drop_eq_getElem_cons h]
theorem rd_mem (l : List Int) (i : Nat) (h : i < l.length) : rd l (i : Int) ∈ l := by rw [rd_nat l i h]; exact List.getElem_mem h
theorem next (i n : Nat) (h : i < n) (hn : n ≤ 9223372036854775807) : wrap64 ((i : Int) + 1) = ((i + 1 : Nat) : Int) := by
  rw [wrap64_wf _ (by omega) (by omega)]; omega

def dotI : List Int → List Int → Int
  | x :: a, y :: b => x * y + dotI a b
  | _, _ => 0
def prods : List Int → List Int → List Int
  | x :: a, y :: b => x * y :: prods a b
  | _, _ => []
theorem dotI_nil (a : List Int) : dotI a [] = 0 := by cases a <;> rfl
theorem tot_prods (a : List Int) : ∀ b, tot (prods a b) = dotI a b := by
  induction a with
  | nil => intro b; rfl
  | cons x a ih => intro b; cases b with
    | nil => rfl
    | cons y b => simp only [prods, tot, dotI, ih]
theorem prods_length (a : List Int) : ∀ b, (prods a b).length ≤ a.length := by
  induction a with
  | nil => intro b; simp [prods]
  | cons x a ih => intro b; cases b with
    | nil => simp [prods]
    | cons y b => simp only [prods, List.length_cons]; have := ih b; omega

theorem dotI_split (a : List Int) : ∀ (b : List Int) (k n : Nat), k ≤ n → n = min a.length b.length →
    dotI a b = dotI (a.take k) (b.take k) + dotI ((a.take n).drop k) ((b.take n).drop k) := by
  induction a with
  | nil => intro b k n h hn; simp [dotI]
  | cons x a ih =>
    intro b k n h hn
    cases b with
    | nil => simp [dotI_nil]
    | cons y b =>
      simp only [List.length_cons] at hn
      obtain ⟨n, rfl⟩ : ∃ m, n = m + 1 := ⟨n - 1, by omega⟩
      cases k with
      | zero =>
        have := ih b 0 n (by omega) (by omega)
        simp only [List.take_zero, List.drop_zero, dotI, Int.zero_add, List.take_succ_cons] at this ⊢
        rw [this]
      | succ k =>
        have := ih b k n (by omega) (by omega)
        simp only [List.take_succ_cons, List.drop_succ_cons, dotI]
        rw [this]; omega

theorem rest9 (n : Int) (h : -9223372036854775808 ≤ n ∧ n ≤ 9223372036854775807) : ∃ m : Nat, Int.tmod (wrap64 (Int.tmod n 9 + 9)) 9 = m ∧ m ≤ 8 := by
  have h1 := Int.tmod_lt_of_pos n (show (0 : Int) < 9 by omega)
  have h2 := Int.lt_tmod_of_pos n (show (0 : Int) < 9 by omega)
  rw [wrap64_wf _ (by omega) (by omega), Int.tmod_eq_emod_of_nonneg (by omega)]
  exact ⟨((Int.tmod n 9 + 9) % 9).toNat, by omega, by omega⟩

theorem rest31 (n : Int) (h : -9223372036854775808 ≤ n ∧ n ≤ 9223372036854775807) : ∃ m : Nat, Int.tmod (wrap64 (Int.tmod n 31 + 31)) 31 = m ∧ m ≤ 30 := by
  have h1 := Int.tmod_lt_of_pos n (show (0 : Int) < 31 by omega)
  have h2 := Int.lt_tmod_of_pos n (show (0 : Int) < 31 by omega)
  rw [wrap64_wf _ (by omega) (by omega), Int.tmod_eq_emod_of_nonneg (by omega)]
  exact ⟨((Int.tmod n 31 + 31) % 31).toNat, by omega, by omega⟩

def bst (r : Nat) : Nat := if r % 2 = 1 then (r / 2) ^^^ 3988292384 else r / 2
def b4 (r : Nat) : Nat := bst (bst (bst (bst r)))
def b8 (r : Nat) : Nat := b4 (b4 r)
def crcB (s x : Nat) : Nat := b8 (s ^^^ x)
def crcL (s : Nat) (l : List Nat) : Nat := l.foldl crcB s

theorem xor_lt32 {a b : Nat} (ha : a < 2 ^ 32) (hb : b < 2 ^ 32) : a ^^^ b < 2 ^ 32 := Nat.xor_lt_two_pow ha hb
theorem bst_lt {r : Nat} (h : r < 2 ^ 32) : bst r < 2 ^ 32 := by
  unfold bst; split
  · exact xor_lt32 (by omega) (by decide)
  · omega
theorem xor_div2 (a b : Nat) : (a ^^^ b) / 2 = a / 2 ^^^ b / 2 := by
  apply Nat.eq_of_testBit_eq
  intro i
  rw [Nat.testBit_div_two, Nat.testBit_xor, Nat.testBit_xor, Nat.testBit_div_two, Nat.testBit_div_two]
theorem xor_mod2 (a b : Nat) : (a ^^^ b) % 2 = (a % 2 + b % 2) % 2 := by
  have h := Nat.testBit_xor a b 0
  rw [Nat.testBit_zero, Nat.testBit_zero, Nat.testBit_zero] at h
  have ha : a % 2 = 0 ∨ a % 2 = 1 := by omega
  have hb : b % 2 = 0 ∨ b % 2 = 1 := by omega
  have hc : (a ^^^ b) % 2 = 0 ∨ (a ^^^ b) % 2 = 1 := by omega
  rcases ha with ha | ha <;> rcases hb with hb | hb <;> rcases hc with hc | hc <;> simp [ha, hb, hc] at h ⊢
theorem bst_xor (a b : Nat) : bst (a ^^^ b) = bst a ^^^ bst b := by
  unfold bst
  rw [xor_mod2, xor_div2]
  have ha : a % 2 = 0 ∨ a % 2 = 1 := by omega
  have hb : b % 2 = 0 ∨ b % 2 = 1 := by omega
  rcases ha with ha | ha <;> rcases hb with hb | hb <;> simp only [ha, hb] <;> simp
  · rw [Nat.xor_assoc]
  · rw [Nat.xor_assoc, Nat.xor_assoc, Nat.xor_comm 3988292384]
  · rw [Nat.xor_assoc, ← Nat.xor_assoc 3988292384, Nat.xor_comm 3988292384 (b / 2), Nat.xor_assoc, Nat.xor_self, Nat.xor_zero]
theorem b4_xor (a b : Nat) : b4 (a ^^^ b) = b4 a ^^^ b4 b := by unfold b4; rw [bst_xor, bst_xor, bst_xor, bst_xor]
theorem b8_xor (a b : Nat) : b8 (a ^^^ b) = b8 a ^^^ b8 b := by unfold b8; rw [b4_xor, b4_xor]
theorem b4_lt {r : Nat} (h : r < 2 ^ 32) : b4 r < 2 ^ 32 := bst_lt (bst_lt (bst_lt (bst_lt h)))
theorem b8_lt {r : Nat} (h : r < 2 ^ 32) : b8 r < 2 ^ 32 := b4_lt (b4_lt h)
theorem bst_even (h : Nat) : bst (2 * h) = h := by unfold bst; rw [if_neg (by omega)]; omega
theorem b4_hi (h : Nat) : b4 (16 * h) = h := by
  unfold b4
  rw [show 16 * h = 2 * (2 * (2 * (2 * h))) by omega, bst_even, bst_even, bst_even, bst_even]
theorem split16 (s : Nat) : s = (16 * (s / 16)) ^^^ (s % 16) := by
  apply Nat.eq_of_testBit_eq
  intro i
  rw [Nat.testBit_xor]
  have e1 : 16 * (s / 16) = 2 ^ 4 * (s / 2 ^ 4) := rfl
  have e2 : s % 16 = s % 2 ^ 4 := rfl
  rw [e1, e2, Nat.testBit_two_pow_mul, Nat.testBit_div_two_pow, Nat.testBit_mod_two_pow]
  by_cases hi : i < 4
  · have : ¬ 4 ≤ i := by omega
    simp [hi, this]
  · have h4 : 4 ≤ i := by omega
    simp [hi, h4]
def tab : List Nat := [0, 0x1DB71064, 0x3B6E20C8, 0x26D930AC, 0x76DC4190, 0x6B6B51F4, 0x4DB26158, 0x5005713C, 0xEDB88320, 0xF00F9344, 0xD6D6A3E8, 0xCB61B38C, 0x9B64C2B0, 0x86D3D2D4, 0xA00AE278, 0xBDBDF21C]
theorem b4_low : ∀ x, x < 16 → b4 x = tab.getD x 0 := by decide
theorem b4_tab (s : Nat) : b4 s = tab.getD (s % 16) 0 ^^^ s / 16 := by
  conv => lhs; rw [split16 s]
  rw [b4_xor, b4_hi, b4_low _ (Nat.mod_lt _ (by decide)), Nat.xor_comm]
theorem xor_mod16 (a b : Nat) : (a ^^^ b) % 16 = (a % 16) ^^^ (b % 16) := by
  apply Nat.eq_of_testBit_eq
  intro i
  have e : ∀ z : Nat, z % 16 = z % 2 ^ 4 := fun _ => rfl
  rw [e (a ^^^ b), e a, e b, Nat.testBit_xor, Nat.testBit_mod_two_pow, Nat.testBit_mod_two_pow, Nat.testBit_mod_two_pow, Nat.testBit_xor]
  by_cases hi : i < 4 <;> simp [hi]
theorem xor_div16 (a b : Nat) : (a ^^^ b) / 16 = (a / 16) ^^^ (b / 16) := by
  apply Nat.eq_of_testBit_eq
  intro i
  have e : ∀ z : Nat, z / 16 = z / 2 ^ 4 := fun _ => rfl
  rw [e (a ^^^ b), e a, e b, Nat.testBit_xor, Nat.testBit_div_two_pow, Nat.testBit_div_two_pow, Nat.testBit_div_two_pow, Nat.testBit_xor]
/-- a byte by two half bytes, out of the table -/
theorem crcB_tab (s x : Nat) (hx : x < 256) :
    crcB s x = tab.getD (((tab.getD ((s ^^^ x) % 16) 0 ^^^ s / 16) ^^^ x / 16) % 16) 0 ^^^ (tab.getD ((s ^^^ x) % 16) 0 ^^^ s / 16) / 16 := by
  have h1 : b4 (s ^^^ x) = (tab.getD ((s ^^^ x) % 16) 0 ^^^ s / 16) ^^^ x / 16 := by
    rw [b4_tab, xor_div16, Nat.xor_assoc]
  unfold crcB b8
  rw [h1, b4_tab, xor_div16 _ (x / 16), show x / 16 / 16 = 0 by omega, Nat.xor_zero]
/-- unlike states stay unlike -/
theorem bst_inj {a b : Nat} (ha : a < 2 ^ 32) (hb : b < 2 ^ 32) (h : bst a = bst b) : a = b := by
  have key : ∀ r : Nat, r < 2 ^ 32 → (bst r).testBit 31 = decide (r % 2 = 1) := by
    intro r hr
    unfold bst
    have h0 : (r / 2).testBit 31 = false := Nat.testBit_lt_two_pow (by omega)
    split
    · rename_i h1
      rw [Nat.testBit_xor, h0]; simp [h1]; decide
    · rename_i h1
      rw [h0]; simp [h1]
  have k1 := key a ha
  have k2 := key b hb
  rw [h, k2] at k1
  have hp : a % 2 = b % 2 := by
    have := decide_eq_decide.1 k1
    omega
  have hd : a / 2 = b / 2 := by
    unfold bst at h
    rw [hp] at h
    split at h
    · have h2 := congrArg (· ^^^ 3988292384) h
      simp only [Nat.xor_assoc, Nat.xor_self, Nat.xor_zero] at h2
      exact h2
    · exact h
  omega
theorem b4_inj {a b : Nat} (ha : a < 2 ^ 32) (hb : b < 2 ^ 32) (h : b4 a = b4 b) : a = b :=
  bst_inj ha hb (bst_inj (bst_lt ha) (bst_lt hb) (bst_inj (bst_lt (bst_lt ha)) (bst_lt (bst_lt hb)) (bst_inj (bst_lt (bst_lt (bst_lt ha))) (bst_lt (bst_lt (bst_lt hb))) h)))
theorem b8_inj {a b : Nat} (ha : a < 2 ^ 32) (hb : b < 2 ^ 32) (h : b8 a = b8 b) : a = b := b4_inj ha hb (b4_inj (b4_lt ha) (b4_lt hb) h)
theorem xor_cancel_r {a b c : Nat} (h : a ^^^ c = b ^^^ c) : a = b := by
  have h2 := congrArg (· ^^^ c) h
  simpa only [Nat.xor_assoc, Nat.xor_self, Nat.xor_zero] using h2
theorem xor_cancel_l {a b c : Nat} (h : c ^^^ a = c ^^^ b) : a = b := by
  rw [Nat.xor_comm c a, Nat.xor_comm c b] at h
  exact xor_cancel_r h
theorem crcB_lt {s x : Nat} (hs : s < 2 ^ 32) (hx : x < 256) : crcB s x < 2 ^ 32 := b8_lt (xor_lt32 hs (by omega))
theorem crcB_inj_s {s t x : Nat} (hs : s < 2 ^ 32) (ht : t < 2 ^ 32) (hx : x < 256) (h : crcB s x = crcB t x) : s = t :=
  xor_cancel_r (b8_inj (xor_lt32 hs (by omega)) (xor_lt32 ht (by omega)) h)
theorem crcB_inj_x {s x y : Nat} (hs : s < 2 ^ 32) (hx : x < 256) (hy : y < 256) (h : crcB s x = crcB s y) : x = y :=
  xor_cancel_l (b8_inj (xor_lt32 hs (by omega)) (xor_lt32 hs (by omega)) h)
theorem crcL_append (s : Nat) (a b : List Nat) : crcL s (a ++ b) = crcL (crcL s a) b := by unfold crcL; rw [List.foldl_append]
theorem crcL_lt {l : List Nat} : ∀ {s : Nat}, s < 2 ^ 32 → (∀ x ∈ l, x < 256) → crcL s l < 2 ^ 32 := by
  induction l with
  | nil => intro s hs _; exact hs
  | cons x l ih =>
    intro s hs h
    exact ih (crcB_lt hs (h x (by simp))) (fun y hy => h y (by simp [hy]))
theorem crcL_inj_s {l : List Nat} : ∀ {s t : Nat}, s < 2 ^ 32 → t < 2 ^ 32 → (∀ x ∈ l, x < 256) → crcL s l = crcL t l → s = t := by
  induction l with
  | nil => intro s t _ _ _ h; exact h
  | cons x l ih =>
    intro s t hs ht h he
    have hx := h x (by simp)
    exact crcB_inj_s hs ht hx (ih (crcB_lt hs hx) (crcB_lt ht hx) (fun y hy => h y (by simp [hy])) he)
/-- bytes that differ at one place have unlike check sums -/
theorem crcL_one {a b : List Nat} {x y s : Nat} (hs : s < 2 ^ 32) (ha : ∀ z ∈ a, z < 256) (hb : ∀ z ∈ b, z < 256) (hx : x < 256) (hy : y < 256) (h : crcL s (a ++ x :: b) = crcL s (a ++ y :: b)) : x = y := by
  rw [crcL_append, crcL_append] at h
  have h1 := crcL_lt hs ha
  exact crcB_inj_x h1 hx hy (crcL_inj_s (l := b) (crcB_lt h1 hx) (crcB_lt h1 hy) hb h)

theorem bxor32 (a b : Nat) (ha : a < 2 ^ 32) (hb : b < 2 ^ 32) : Go.bits .xor .u32 (a : Int) (b : Int) = ((a ^^^ b : Nat) : Int) := by
  have e : bits .xor .u32 (a : Int) (b : Int) = IntKind.u32.wrap (((BitVec.ofInt 32 a ^^^ BitVec.ofInt 32 b).toNat : Nat) : Int) := rfl
  have hw : ∀ y : Int, IntKind.u32.wrap y = y % 4294967296 := by intro y; simp [IntKind.wrap, IntKind.bits, IntKind.signed]
  have h1 : (BitVec.ofInt 32 (a : Int)).toNat = a := by rw [BitVec.toNat_ofInt]; omega
  have h2 : (BitVec.ofInt 32 (b : Int)).toNat = b := by rw [BitVec.toNat_ofInt]; omega
  have h3 := xor_lt32 ha hb
  rw [e, BitVec.toNat_xor, h1, h2, hw]
  omega
theorem band15 (a : Nat) (ha : a < 2 ^ 32) : Go.bits .and .u32 (a : Int) 15 = ((a % 16 : Nat) : Int) := by
  have e : bits .and .u32 (a : Int) 15 = IntKind.u32.wrap (((BitVec.ofInt 32 a &&& BitVec.ofInt 32 15).toNat : Nat) : Int) := rfl
  have hw : ∀ y : Int, IntKind.u32.wrap y = y % 4294967296 := by intro y; simp [IntKind.wrap, IntKind.bits, IntKind.signed]
  have h1 : (BitVec.ofInt 32 (a : Int)).toNat = a := by rw [BitVec.toNat_ofInt]; omega
  have h2 : (BitVec.ofInt 32 (15 : Int)).toNat = 2 ^ 4 - 1 := by decide
  rw [e, BitVec.toNat_and, h1, h2, Nat.and_two_pow_sub_one_eq_mod, hw]
  omega
/-- bytes as natural numbers -/
def nb (l : List Int) : List Nat := l.map Int.toNat
def Byt (l : List Int) : Prop := ∀ x ∈ l, 0 ≤ x ∧ x ≤ 255
theorem nb_append (a b : List Int) : nb (a ++ b) = nb a ++ nb b := by simp [nb]
theorem nb_lt {l : List Int} (h : Byt l) : ∀ x ∈ nb l, x < 256 := by
  intro x hx
  obtain ⟨y, hy, rfl⟩ := List.mem_map.1 hx
  have := h y hy; omega
theorem nb_length (l : List Int) : (nb l).length = l.length := by simp [nb]
theorem nb_inj {a b : List Int} (ha : Byt a) (hb : Byt b) (h : nb a = nb b) : a = b := by
  induction a generalizing b with
  | nil => cases b with
    | nil => rfl
    | cons y b => simp [nb] at h
  | cons x a ih =>
    cases b with
    | nil => simp [nb] at h
    | cons y b =>
      simp only [nb, List.map_cons, List.cons.injEq] at h
      have h1 := ha x (by simp); have h2 := hb y (by simp)
      rw [ih (fun z hz => ha z (by simp [hz])) (fun z hz => hb z (by simp [hz])) h.2]
      congr 1; omega
/-- the check sum of bytes -/
def crc (l : List Int) : Nat := crcL 4294967295 (nb l) ^^^ 4294967295
theorem crc_lt {l : List Int} (h : Byt l) : crc l < 2 ^ 32 := xor_lt32 (crcL_lt (by decide) (nb_lt h)) (by decide)

theorem tab_rd : ∀ m : Nat, m < 16 → rd weight_Sum.tab (m : Int) = ((tab.getD m 0 : Nat) : Int) := by decide
theorem tab_lt : ∀ m : Nat, m < 16 → tab.getD m 0 < 2 ^ 32 := by decide
theorem wsum_h1 (s y : Nat) (hs : s < 2 ^ 32) (hy : y < 2 ^ 32) : weight_Sum.h1 (s : Int) (y : Int) = ((tab.getD ((s ^^^ y) % 16) 0 ^^^ s / 16 : Nat) : Int) := by
  unfold weight_Sum.h1
  have hm := Nat.mod_lt (s ^^^ y) (show 0 < 16 by omega)
  rw [bxor32 s y hs hy, band15 _ (xor_lt32 hs hy), tab_rd _ hm, show ((s : Int) / 16) = ((s / 16 : Nat) : Int) by omega, bxor32 _ _ (tab_lt _ hm) (by omega)]
theorem wsum_step (s : Nat) (x : Int) (hs : s < 2 ^ 32) (hx : 0 ≤ x ∧ x ≤ 255) : weight_Sum.step (s : Int) x = ((crcB s x.toNat : Nat) : Int) := by
  obtain ⟨y, rfl⟩ := Int.eq_ofNat_of_zero_le hx.1
  have hw : IntKind.u32.wrap (y : Int) = (y : Int) := by
    have : ∀ y : Int, IntKind.u32.wrap y = y % 4294967296 := by intro y; simp [IntKind.wrap, IntKind.bits, IntKind.signed]
    rw [this]; omega
  have hm := Nat.mod_lt (s ^^^ y) (show 0 < 16 by omega)
  unfold weight_Sum.step
  rw [hw, wsum_h1 s y hs (by omega), show ((y : Int) / 16) = ((y / 16 : Nat) : Int) by omega, wsum_h1 _ _ (xor_lt32 (tab_lt _ hm) (by omega)) (by omega), Int.toNat_natCast, crcB_tab s y (by omega)]
theorem wsum_piece (l : List Int) : ∀ (s : Nat), s < 2 ^ 32 → Byt l → weight_Sum.piece (s : Int) l = ((crcL s (nb l) : Nat) : Int) := by
  induction l with
  | nil => intro s _ _; rfl
  | cons x l ih =>
    intro s hs h
    have hx := h x (by simp)
    have e : weight_Sum.piece (s : Int) (x :: l) = weight_Sum.piece (weight_Sum.step (s : Int) x) l := rfl
    rw [e, wsum_step s x hs hx, ih _ (crcB_lt hs (by omega)) (fun y hy => h y (by simp [hy]))]
    rfl
theorem wsum_all (ls : List (List Int)) : ∀ (s : Nat), s < 2 ^ 32 → (∀ l ∈ ls, Byt l) → ls.foldl weight_Sum.piece (s : Int) = ((crcL s (nb ls.flatten) : Nat) : Int) := by
  induction ls with
  | nil => intro s _ _; rfl
  | cons l ls ih =>
    intro s hs h
    have hl := h l (by simp)
    rw [List.foldl_cons, wsum_piece l s hs hl, ih _ (crcL_lt hs (nb_lt hl)) (fun y hy => h y (by simp [hy])), List.flatten_cons, nb_append, crcL_append]
theorem wsum_eq (ls : List (List Int)) (hn : ls.length < 4611686018427387904) (hb : ∀ l ∈ ls, Byt l) (hl : ∀ l ∈ ls, l.length < 4611686018427387904) : weight_Sum.f ls = some ((crc ls.flatten : Nat) : Int) := by
  have hf : weight_Sum.fit ls = true := by
    unfold weight_Sum.fit
    rw [decide_eq_true hn, Bool.true_and, List.all_eq_true]
    exact fun l h => decide_eq_true (hl l h)
  have hbf : Byt ls.flatten := by
    intro x hx
    obtain ⟨l, h1, h2⟩ := List.mem_flatten.1 hx
    exact hb l h1 x h2
  unfold weight_Sum.f
  rw [if_pos hf]
  have h1 := wsum_all ls 4294967295 (by decide) hb
  have h2 := crcL_lt (l := nb ls.flatten) (s := 4294967295) (by decide) (nb_lt hbf)
  rw [show (4294967295 : Int) = ((4294967295 : Nat) : Int) from rfl, h1, bxor32 _ _ (by decide) h2, Nat.xor_comm]
  rfl

def bstN : Nat → Nat → Nat
  | 0, r => r
  | d + 1, r => bstN d (bst r)
theorem bstN_8 (r : Nat) : bstN 8 r = b8 r := rfl
theorem refsum_l1 (l : List Int) (i : Int) : ∀ (d k j r : Nat), j + d = 8 → r < 2 ^ 32 → pelotonref07_Sum.l1 (k + d + 1) l (r : Int) i j = pelotonref07_Sum.l0 k l ((bstN d r : Nat) : Int) (wrap64 (i + 1)) := by
  intro d
  induction d with
  | zero =>
    intro k j r hj hr
    simp only [pelotonref07_Sum.l1]
    rw [if_neg (by omega)]; rfl
  | succ d ih =>
    intro k j r hj hr
    have e1 : Int.tmod (r : Int) 2 = ((r % 2 : Nat) : Int) := by rw [Int.tmod_eq_emod_of_nonneg (by omega)]; omega
    have e2 : Int.tdiv (r : Int) 2 % 4294967296 = ((r / 2 : Nat) : Int) := by rw [Int.tdiv_eq_ediv_of_nonneg (by omega)]; omega
    have hb := bst_lt hr
    have ih' := ih k (j + 1) (bst r) (by omega) hb
    rw [show k + (d + 1) + 1 = (k + d + 1) + 1 by omega]
    generalize k + d + 1 = m at *
    simp only [pelotonref07_Sum.l1]
    rw [if_pos (by omega), e1, e2, show wrap64 ((j : Int) + 1) = ((j + 1 : Nat) : Int) by rw [wrap64_wf _ (by omega) (by omega)]; omega]
    by_cases hc : r % 2 = 1
    · have e3 : Go.bits .xor .u32 ((r / 2 : Nat) : Int) 3988292384 = ((bst r : Nat) : Int) := by
        have := bxor32 (r / 2) 3988292384 (by omega) (by decide)
        rw [show (3988292384 : Int) = ((3988292384 : Nat) : Int) from rfl, this]
        unfold bst; rw [if_pos hc]
      rw [if_pos (by omega), e3, ih']; rfl
    · have e3 : ((r / 2 : Nat) : Int) = ((bst r : Nat) : Int) := by unfold bst; rw [if_neg hc]
      rw [if_neg (by omega), e3, ih']; rfl
theorem refsum_l0 (l : List Int) (hl : l.length ≤ 9223372036854775807) (hb : Byt l) : ∀ (d k i s : Nat), i + d = l.length → s < 2 ^ 32 → 10 * d < k →
    pelotonref07_Sum.l0 k l (s : Int) i = some ((crcL s (nb (l.drop i)) ^^^ 4294967295 : Nat) : Int) := by
  intro d
  induction d with
  | zero =>
    intro k i s hi hs hk
    obtain ⟨k, rfl⟩ : ∃ m, k = m + 1 := ⟨k - 1, by omega⟩
    simp only [pelotonref07_Sum.l0]
    rw [if_neg (by omega), List.drop_of_length_le (by omega)]
    have := bxor32 s 4294967295 hs (by decide)
    rw [show (4294967295 : Int) = ((4294967295 : Nat) : Int) from rfl, this]; rfl
  | succ d ih =>
    intro k i s hi hs hk
    obtain ⟨k, rfl⟩ : ∃ m, k = (m + 8 + 1) + 1 := ⟨k - 10, by omega⟩
    have hx := hb _ (rd_mem l i (by omega))
    simp only [pelotonref07_Sum.l0]
    rw [if_pos (by omega), if_pos (by omega)]
    have e1 : Go.bits .xor .u32 (s : Int) (rd l (i : Int) % 4294967296) = ((s ^^^ (rd l (i : Int)).toNat : Nat) : Int) := by
      rw [show rd l (i : Int) % 4294967296 = (((rd l (i : Int)).toNat : Nat) : Int) by omega]
      exact bxor32 _ _ hs (by omega)
    rw [e1]
    have h8 := refsum_l1 l i 8 k 0 (s ^^^ (rd l (i : Int)).toNat) rfl (xor_lt32 hs (by omega))
    rw [show ((0 : Nat) : Int) = 0 from rfl] at h8
    rw [h8, bstN_8, next i _ (show i < l.length by omega) hl]
    have hB : b8 (s ^^^ (rd l (i : Int)).toNat) = crcB s (rd l (i : Int)).toNat := rfl
    rw [hB, ih k (i + 1) _ (by omega) (crcB_lt hs (by omega)) (by omega), drop_cons l i (by omega)]
    rfl
theorem refsum_eq (l : List Int) (hl : l.length ≤ 9223372036854775807) (hb : Byt l) (k : Nat) (hk : 10 * l.length < k) : pelotonref07_Sum.f k l = some ((crc l : Nat) : Int) := by
  have := refsum_l0 l hl hb l.length k 0 4294967295 (by omega) (by decide) hk
  simpa [pelotonref07_Sum.f, crc] using this

theorem wfu8 {x : Int} (h : (Lit.int .u8 x).wf = true) : 0 ≤ x ∧ x ≤ 255 := by
  simp [Lit.wf, IntKind.min, IntKind.max, IntKind.bits, IntKind.signed] at h; omega

theorem str_list (a : List Int) : (strOfNums a).toList = a.map fun n => UInt8.ofNat n.toNat := by
  rw [show (strOfNums a).toList = (strOfNums a).data.toList from Go.ByteArray.toList_eq _]; rfl
theorem str_eq {a b : List Int} (ha : Byt a) (hb : Byt b) : (strOfNums a).toList = (strOfNums b).toList ↔ a = b := by
  rw [str_list, str_list]
  constructor
  · intro h
    have key : ∀ l : List Int, Byt l → (l.map fun n => UInt8.ofNat n.toNat).map (fun u : UInt8 => (u.toNat : Int)) = l := by
      intro l hl
      rw [List.map_map]
      conv => rhs; rw [← List.map_id l]
      apply List.map_congr_left
      intro x hx
      have := hl x hx
      simp only [Function.comp, id_eq, UInt8.toNat_ofNat']
      omega
    rw [← key a ha, ← key b hb, h]
  · intro h; rw [h]
theorem str_beq {a b : List Int} (ha : Byt a) (hb : Byt b) : ((strOfNums a).toList == (strOfNums b).toList) = decide (a = b) := by
  by_cases h : a = b
  · rw [decide_eq_true h, h]; simp
  · rw [decide_eq_false h]; exact beq_eq_false_iff_ne.2 (fun e => h ((str_eq ha hb).1 e))
theorem Byt.append {a b : List Int} (ha : Byt a) (hb : Byt b) : Byt (a ++ b) := by
  intro x hx
  rcases List.mem_append.1 hx with h | h
  · exact ha x h
  · exact hb x h
theorem Byt.take {a : List Int} (ha : Byt a) (n : Nat) : Byt (a.take n) := fun x hx => ha x (List.mem_of_mem_take hx)
theorem Byt.drop {a : List Int} (ha : Byt a) (n : Nat) : Byt (a.drop n) := fun x hx => ha x (List.mem_of_mem_drop hx)
theorem Byt.left {a b : List Int} (h : Byt (a ++ b)) : Byt a := fun x hx => h x (List.mem_append.2 (Or.inl hx))
theorem Byt.right {a b : List Int} (h : Byt (a ++ b)) : Byt b := fun x hx => h x (List.mem_append.2 (Or.inr hx))

def be4 (n : Nat) : List Int := [((n / 16777216 % 256 : Nat) : Int), ((n / 65536 % 256 : Nat) : Int), ((n / 256 % 256 : Nat) : Int), ((n % 256 : Nat) : Int)]
theorem be4_length (n : Nat) : (be4 n).length = 4 := rfl
theorem be4_byt (n : Nat) : Byt (be4 n) := by
  intro x hx
  simp only [be4, List.mem_cons, List.not_mem_nil, or_false] at hx
  rcases hx with rfl | rfl | rfl | rfl <;> omega
theorem be4_inj {a b : Nat} (ha : a < 2 ^ 32) (hb : b < 2 ^ 32) (h : be4 a = be4 b) : a = b := by
  simp only [be4, List.cons.injEq, and_true] at h
  omega
def w4 (l : List Int) : Nat := (rd l 0).toNat * 16777216 + (rd l 1).toNat * 65536 + (rd l 2).toNat * 256 + (rd l 3).toNat
theorem w4_be4 (n : Nat) (h : n < 2 ^ 32) (t : List Int) : w4 (be4 n ++ t) = n := by
  have e0 : rd (be4 n ++ t) 0 = ((n / 16777216 % 256 : Nat) : Int) := rfl
  have e1 : rd (be4 n ++ t) 1 = ((n / 65536 % 256 : Nat) : Int) := rfl
  have e2 : rd (be4 n ++ t) 2 = ((n / 256 % 256 : Nat) : Int) := rfl
  have e3 : rd (be4 n ++ t) 3 = ((n % 256 : Nat) : Int) := rfl
  unfold w4
  rw [e0, e1, e2, e3]
  simp only [Int.toNat_natCast]
  omega
theorem be4_w4 (l : List Int) (hl : 4 ≤ l.length) (hb : Byt l) : be4 (w4 l) = l.take 4 := by
  match l, hl, hb with
  | a :: b :: c :: d :: l, _, hb =>
    have h0 := hb a (by simp); have h1 := hb b (by simp); have h2 := hb c (by simp); have h3 := hb d (by simp)
    have e : w4 (a :: b :: c :: d :: l) = a.toNat * 16777216 + b.toNat * 65536 + c.toNat * 256 + d.toNat := rfl
    rw [e]
    simp only [be4, List.take, List.cons.injEq, and_true]
    omega
theorem w4_lt (l : List Int) (hl : 4 ≤ l.length) (hb : Byt l) : w4 l < 2 ^ 32 := by
  match l, hl, hb with
  | a :: b :: c :: d :: l, _, hb =>
    have h0 := hb a (by simp); have h1 := hb b (by simp); have h2 := hb c (by simp); have h3 := hb d (by simp)
    have e : w4 (a :: b :: c :: d :: l) = a.toNat * 16777216 + b.toNat * 65536 + c.toNat * 256 + d.toNat := rfl
    rw [e]; omega

theorem four_eq (o : List Int) (n : Nat) (hn : n < 2 ^ 32) (ho : o.length + 4 < 140737488355328) : frame_four.f o (n : Int) = some (o ++ be4 n) := by
  unfold frame_four.f
  rw [Option.bind_some, if_pos (by simpa using ho)]
  congr 2 <;> (simp only [be4, List.cons.injEq, and_true]; try omega)

theorem reffour_eq (n : Nat) (hn : n < 2 ^ 32) : pelotonref14_four.f (n : Int) = some (be4 n) := by
  unfold pelotonref14_four.f
  have e1 : Int.tdiv (n : Int) 16777216 = ((n / 16777216 : Nat) : Int) := t_div n 16777216
  have e2 : Int.tdiv (n : Int) 65536 = ((n / 65536 : Nat) : Int) := t_div n 65536
  have e3 : Int.tdiv (n : Int) 256 = ((n / 256 : Nat) : Int) := t_div n 256
  rw [e1, e2, e3]
  congr 1
  simp only [be4, List.cons.injEq, and_true]
  try omega

def frH (k : Int) (l : List Int) : List Int := [80, 76, 1, k] ++ be4 l.length ++ l
def frL (k : Int) (l : List Int) : List Int := frH k l ++ be4 (crc (frH k l))
theorem frH_length (k : Int) (l : List Int) : (frH k l).length = l.length + 8 := by simp [frH, be4_length]; omega
theorem frL_length (k : Int) (l : List Int) : (frL k l).length = l.length + 12 := by simp [frL, frH_length, be4_length]
theorem frH_byt {k : Int} {l : List Int} (hk : 0 ≤ k ∧ k ≤ 255) (hl : Byt l) : Byt (frH k l) := by
  refine Byt.append (Byt.append ?_ (be4_byt _)) hl
  intro x hx
  simp only [List.mem_cons, List.not_mem_nil, or_false] at hx
  rcases hx with rfl | rfl | rfl | rfl <;> omega
theorem frL_byt {k : Int} {l : List Int} (hk : 0 ≤ k ∧ k ≤ 255) (hl : Byt l) : Byt (frL k l) := Byt.append (frH_byt hk hl) (be4_byt _)

theorem pack_eq (k : Int) (l : List Int) (hk : 0 ≤ k ∧ k ≤ 255) (hb : Byt l) (hl : l.length ≤ 1048576) : frame_Pack.f k l = some (frL k l, 0) := by
  unfold frame_Pack.f
  have e0 : (l.length : Int) % 4294967296 = (l.length : Int) := by omega
  rw [if_neg (by omega), e0, four_eq _ _ (by omega) (by simp), Option.bind_some, if_pos (by simp [be4_length]; omega)]
  have e : [80, 76, 1, k] ++ be4 l.length ++ l = frH k l := rfl
  have hh := frH_byt hk hb
  have hlen := frH_length k l
  rw [e, wsum_eq [frH k l] (by simp) (fun x hx => by rw [List.mem_singleton.1 hx]; exact hh) (fun x hx => by rw [List.mem_singleton.1 hx]; omega), Option.bind_some]
  simp only [List.flatten_cons, List.flatten_nil, List.append_nil]
  rw [four_eq _ _ (crc_lt hh) (by omega)]
  rfl

theorem refpack_eq (K : Nat) (k : Int) (l : List Int) (hk : 0 ≤ k ∧ k ≤ 255) (hb : Byt l) (hl : l.length ≤ 1048576) (hK : 10 * l.length + 100 < K) : pelotonref14_Pack.f K k l = some (frL k l) := by
  unfold pelotonref14_Pack.f
  have e0 : (l.length : Int) % 4294967296 = (l.length : Int) := by omega
  have hh := frH_byt hk hb
  have hlen := frH_length k l
  rw [Option.bind_some, e0, reffour_eq _ (by omega), Option.bind_some, if_pos (by simp [be4_length]), Option.bind_some, if_pos (by simp [be4_length]; omega), Option.bind_some]
  have e : [80, 76, 1, k] ++ be4 l.length ++ l = frH k l := rfl
  rw [e, refsum_eq _ (by omega) hh K (by omega), Option.bind_some, reffour_eq _ (crc_lt hh), Option.bind_some, if_pos (by rw [be4_length]; omega)]
  rfl

theorem bor32 (a b i : Nat) (ha : 2 ^ i * a + b < 2 ^ 32) (hb : b < 2 ^ i) : Go.bits .or .u32 ((2 ^ i * a : Nat) : Int) (b : Int) = ((2 ^ i * a + b : Nat) : Int) := by
  have e : bits .or .u32 ((2 ^ i * a : Nat) : Int) (b : Int) = IntKind.u32.wrap (((BitVec.ofInt 32 ((2 ^ i * a : Nat) : Int) ||| BitVec.ofInt 32 (b : Int)).toNat : Nat) : Int) := rfl
  have hw : ∀ y : Int, IntKind.u32.wrap y = y % 4294967296 := by intro y; simp [IntKind.wrap, IntKind.bits, IntKind.signed]
  have hx : 2 ^ i * a < 2 ^ 32 := by omega
  have h1 : (BitVec.ofInt 32 ((2 ^ i * a : Nat) : Int)).toNat = 2 ^ i * a := by rw [BitVec.toNat_ofInt]; omega
  have h2 : (BitVec.ofInt 32 (b : Int)).toNat = b := by rw [BitVec.toNat_ofInt]; omega
  rw [e, BitVec.toNat_or, h1, h2, ← Nat.two_pow_add_eq_or_of_lt hb, hw]
  omega
theorem word_eq (l : List Int) (hl : 4 ≤ l.length) (hb : Byt l) : frame_word.f l = some ((w4 l : Nat) : Int) := by
  match l, hl, hb with
  | a :: b :: c :: d :: l, _, hb =>
    have h0 := hb a (by simp); have h1 := hb b (by simp); have h2 := hb c (by simp); have h3 := hb d (by simp)
    obtain ⟨a, rfl⟩ := Int.eq_ofNat_of_zero_le h0.1
    obtain ⟨b, rfl⟩ := Int.eq_ofNat_of_zero_le h1.1
    obtain ⟨c, rfl⟩ := Int.eq_ofNat_of_zero_le h2.1
    obtain ⟨d, rfl⟩ := Int.eq_ofNat_of_zero_le h3.1
    unfold frame_word.f
    have r0 : rd (((a : Nat) : Int) :: ((b : Nat) : Int) :: ((c : Nat) : Int) :: ((d : Nat) : Int) :: l) 0 = (a : Int) := rfl
    have r1 : rd (((a : Nat) : Int) :: ((b : Nat) : Int) :: ((c : Nat) : Int) :: ((d : Nat) : Int) :: l) 1 = (b : Int) := rfl
    have r2 : rd (((a : Nat) : Int) :: ((b : Nat) : Int) :: ((c : Nat) : Int) :: ((d : Nat) : Int) :: l) 2 = (c : Int) := rfl
    have r3 : rd (((a : Nat) : Int) :: ((b : Nat) : Int) :: ((c : Nat) : Int) :: ((d : Nat) : Int) :: l) 3 = (d : Int) := rfl
    have e : w4 (((a : Nat) : Int) :: ((b : Nat) : Int) :: ((c : Nat) : Int) :: ((d : Nat) : Int) :: l) = a * 16777216 + b * 65536 + c * 256 + d := by
      unfold w4; rw [r0, r1, r2, r3]; simp only [Int.toNat_natCast]
    rw [if_pos (by simp only [List.length_cons]; omega), if_pos (by simp only [List.length_cons]; omega), if_pos (by simp only [List.length_cons]; omega), if_pos (by simp only [List.length_cons]; omega), r0, r1, r2, r3, e]
    have f1 : ((a : Int) % 4294967296) * 16777216 % 4294967296 = ((2 ^ 24 * a : Nat) : Int) := by omega
    have f2 : ((b : Int) % 4294967296) * 65536 % 4294967296 = ((2 ^ 16 * b : Nat) : Int) := by omega
    have f3 : ((c : Int) % 4294967296) * 256 % 4294967296 = ((2 ^ 8 * c : Nat) : Int) := by omega
    have f4 : (d : Int) % 4294967296 = (d : Int) := by omega
    rw [f1, f2, f3, f4, bor32 a (2 ^ 16 * b) 24 (by omega) (by omega), show 2 ^ 24 * a + 2 ^ 16 * b = 2 ^ 16 * (256 * a + b) by omega, bor32 (256 * a + b) (2 ^ 8 * c) 16 (by omega) (by omega),
      show 2 ^ 16 * (256 * a + b) + 2 ^ 8 * c = 2 ^ 8 * (256 * (256 * a + b) + c) by omega, bor32 (256 * (256 * a + b) + c) d 8 (by omega) (by omega)]
    congr 2; omega

def sizeS (l : List Int) : Int × Int :=
  if l.length < 12 then (0, 70) else if rd l 0 ≠ 80 ∨ rd l 1 ≠ 76 then (0, 71) else if rd l 2 ≠ 1 then (0, 141) else if w4 (l.drop 4) > 1048576 then (0, 140) else (((w4 (l.drop 4) + 12 : Nat) : Int), 0)
theorem sizeS_ok {l : List Int} {n : Int} (h : sizeS l = (n, 0)) : 12 ≤ l.length ∧ rd l 0 = 80 ∧ rd l 1 = 76 ∧ rd l 2 = 1 ∧ w4 (l.drop 4) ≤ 1048576 ∧ n = ((w4 (l.drop 4) + 12 : Nat) : Int) := by
  unfold sizeS at h
  split at h
  · cases h
  split at h
  · cases h
  split at h
  · cases h
  split at h
  · cases h
  rename_i h1 h2 h3 h4
  simp only [Prod.mk.injEq, and_true] at h
  refine ⟨by omega, ?_, ?_, by omega, by omega, h.symm⟩ <;> omega

theorem size_eq (k : Nat) (l : List Int) (hb : Byt l) : frame_size.f (k + 1) l = some (sizeS l) := by
  unfold frame_size.f sizeS
  by_cases h1 : l.length < 12
  · rw [if_pos (by omega), if_pos h1]
  rw [if_neg (by omega), if_neg h1, if_pos (by omega)]
  simp only [frame_size.j0]
  by_cases h2 : rd l 0 = 80
  · rw [if_pos h2, if_pos (by omega)]
    by_cases h3 : rd l 1 = 76
    · rw [show (rd l 1 != 76) = false from bne_eq_false_iff_eq.2 h3, if_neg (by simp), if_pos (by omega), if_neg (show ¬ (rd l 0 ≠ 80 ∨ rd l 1 ≠ 76) by omega)]
      by_cases h4 : rd l 2 = 1
      · have hlt := w4_lt (l.drop 4) (by simp; omega) (hb.drop 4)
        rw [if_pos h4, if_pos (by omega), word_eq _ (by simp; omega) (hb.drop 4), Option.bind_some, if_neg (show ¬ rd l 2 ≠ 1 by omega)]
        by_cases h5 : w4 (l.drop 4) > 1048576
        · rw [if_pos (by omega), if_pos h5]
        · rw [if_neg (by omega), if_neg h5, wrap64_wf ((w4 (l.drop 4) : Nat) : Int) (by omega) (by omega), wrap64_wf _ (by omega) (by omega)]
          congr 2; omega
      · rw [if_neg h4, if_pos (show rd l 2 ≠ 1 from h4)]
    · rw [show (rd l 1 != 76) = true from bne_iff_ne.2 h3, if_pos rfl, if_pos (show rd l 0 ≠ 80 ∨ rd l 1 ≠ 76 by omega)]
  · rw [if_neg h2, if_pos trivial, if_pos (show rd l 0 ≠ 80 ∨ rd l 1 ≠ 76 by omega)]

def parseS (l : List Int) : Int × List Int × Int :=
  if (sizeS l).2 ≠ 0 then (0, [], (sizeS l).2) else if (l.length : Int) < (sizeS l).1 then (0, [], 70) else if (l.length : Int) > (sizeS l).1 then (0, [], 72)
  else if w4 (l.drop (l.length - 4)) ≠ crc (l.take (l.length - 4)) then (0, [], 73) else (rd l 3, (l.take (l.length - 4)).drop 8, 0)

theorem parse_eq (k : Nat) (l : List Int) (hb : Byt l) (hl : l.length < 100000000) : frame_Parse.f (k + 1) l = some (parseS l) := by
  unfold frame_Parse.f parseS
  rw [size_eq k l hb, Option.bind_some]
  rcases hs : sizeS l with ⟨n, e⟩
  simp only
  by_cases he : e = 0
  · subst he
    obtain ⟨h12, _, _, _, hn, rfl⟩ := sizeS_ok hs
    rw [if_pos rfl, if_neg (show ¬ ((0 : Int) ≠ 0) by simp)]
    by_cases h1 : (l.length : Int) < ((w4 (l.drop 4) + 12 : Nat) : Int)
    · rw [if_pos h1, if_pos h1]
    rw [if_neg h1, if_neg h1]
    by_cases h2 : (l.length : Int) > ((w4 (l.drop 4) + 12 : Nat) : Int)
    · rw [if_pos h2, if_pos h2]
    rw [if_neg h2, if_neg h2]
    have hn4 : wrap64 (((w4 (l.drop 4) + 12 : Nat) : Int) - 4) = ((l.length - 4 : Nat) : Int) := by rw [wrap64_wf _ (by omega) (by omega)]; omega
    have hbt := hb.take (l.length - 4)
    rw [hn4, if_pos (by omega), if_pos (by omega)]
    simp only [Int.toNat_natCast]
    rw [word_eq _ (by simp; omega) (hb.drop _), Option.bind_some, wsum_eq [l.take (l.length - 4)] (by simp) (fun x hx => by rw [List.mem_singleton.1 hx]; exact hbt) (fun x hx => by rw [List.mem_singleton.1 hx]; simp; omega), Option.bind_some]
    simp only [List.flatten_cons, List.flatten_nil, List.append_nil]
    by_cases h3 : w4 (l.drop (l.length - 4)) = crc (l.take (l.length - 4))
    · rw [if_pos (by omega), if_pos (by omega), if_pos (by omega), if_neg (by omega)]
      unfold bytes_Clone.f
      rw [Option.bind_some, if_pos (by simp; omega)]
      simp
    · rw [if_neg (by omega), if_pos h3]
  · rw [if_neg he, if_pos he]

theorem frL_head (k : Int) (l : List Int) : frL k l = 80 :: 76 :: 1 :: k :: (be4 l.length ++ (l ++ be4 (crc (frH k l)))) := by simp [frL, frH]
theorem sizeS_fr (k : Int) (l t : List Int) (hl : l.length ≤ 1048576) : sizeS (frL k l ++ t) = (((l.length + 12 : Nat) : Int), 0) := by
  have e : (frL k l ++ t).drop 4 = be4 l.length ++ (l ++ be4 (crc (frH k l)) ++ t) := by rw [frL_head]; simp
  have h0 : rd (frL k l ++ t) 0 = 80 := by rw [frL_head]; rfl
  have h1 : rd (frL k l ++ t) 1 = 76 := by rw [frL_head]; rfl
  have h2 : rd (frL k l ++ t) 2 = 1 := by rw [frL_head]; rfl
  unfold sizeS
  rw [e, w4_be4 _ (by omega), h0, h1, h2, if_neg (by rw [List.length_append, frL_length]; omega), if_neg (by simp), if_neg (by simp), if_neg (by omega)]
theorem parse_fr (k : Int) (l : List Int) (hk : 0 ≤ k ∧ k ≤ 255) (hb : Byt l) (hl : l.length ≤ 1048576) : parseS (frL k l) = (k, l, 0) := by
  have hs := sizeS_fr k l [] hl
  rw [List.append_nil] at hs
  have hlen := frL_length k l
  have hH := frH_length k l
  have ht : (frL k l).take ((frL k l).length - 4) = frH k l := by
    rw [hlen]; unfold frL
    rw [List.take_append_of_le_length (by omega), List.take_of_length_le (by omega)]
  have hd : (frL k l).drop ((frL k l).length - 4) = be4 (crc (frH k l)) := by
    rw [hlen]; unfold frL
    rw [show l.length + 12 - 4 = (frH k l).length by omega, List.drop_left]
  have h3 : rd (frL k l) 3 = k := by rw [frL_head]; rfl
  have hc := crc_lt (frH_byt hk hb)
  have hw := w4_be4 (crc (frH k l)) hc []
  rw [List.append_nil] at hw
  unfold parseS
  rw [hs, ht, hd, hw, h3, if_neg (by simp), if_neg (by omega), if_neg (by omega), if_neg (by simp)]
  congr 2

theorem parseS_ok {l : List Int} (h : (parseS l).2.2 = 0) : 12 ≤ l.length ∧ parseS l = (rd l 3, (l.take (l.length - 4)).drop 8, 0) ∧ sizeS l = ((l.length : Int), 0) := by
  unfold parseS at h ⊢
  rcases hs : sizeS l with ⟨n, e⟩
  rw [hs] at h
  simp only at h ⊢
  split at h
  · rename_i h1; exact absurd h h1
  rename_i he
  have he' : e = 0 := by omega
  subst he'
  obtain ⟨h12, _, _, _, _, hn⟩ := sizeS_ok hs
  rw [if_neg he]
  split at h
  · cases h
  rename_i h1
  rw [if_neg h1]
  split at h
  · cases h
  rename_i h2
  rw [if_neg h2]
  split at h
  · cases h
  rename_i h3
  rw [if_neg h3]
  refine ⟨h12, rfl, ?_⟩
  congr 1; omega
theorem parseS_bad {l : List Int} (h : (parseS l).2.2 ≠ 0) : (parseS l).1 = 0 ∧ (parseS l).2.1 = [] := by
  unfold parseS at h ⊢
  split
  · exact ⟨rfl, rfl⟩
  split
  · exact ⟨rfl, rfl⟩
  split
  · exact ⟨rfl, rfl⟩
  split
  · exact ⟨rfl, rfl⟩
  rename_i h1 h2 h3 h4
  rw [if_neg h1, if_neg h2, if_neg h3, if_neg h4] at h
  exact absurd rfl h

theorem bxor8 (a b : Nat) (ha : a < 256) (hb : b < 256) : Go.bits .xor .u8 (a : Int) (b : Int) = ((a ^^^ b : Nat) : Int) ∧ a ^^^ b < 256 := by
  have e : bits .xor .u8 (a : Int) (b : Int) = IntKind.u8.wrap (((BitVec.ofInt 8 a ^^^ BitVec.ofInt 8 b).toNat : Nat) : Int) := rfl
  have hw : ∀ y : Int, IntKind.u8.wrap y = y % 256 := by intro y; simp [IntKind.wrap, IntKind.bits, IntKind.signed]
  have h1 : (BitVec.ofInt 8 (a : Int)).toNat = a := by rw [BitVec.toNat_ofInt]; omega
  have h2 : (BitVec.ofInt 8 (b : Int)).toNat = b := by rw [BitVec.toNat_ofInt]; omega
  have h3 : a ^^^ b < 2 ^ 8 := Nat.xor_lt_two_pow (by omega) (by omega)
  constructor
  · rw [e, BitVec.toNat_xor, h1, h2, hw]; omega
  · omega
theorem sizeS_congr {a b : List Int} (ha : 12 ≤ a.length) (hb : 12 ≤ b.length) (h : a.take 8 = b.take 8) : sizeS a = sizeS b := by
  have key : ∀ l : List Int, 12 ≤ l.length → ∀ j : Nat, j < 8 → rd l (j : Int) = rd (l.take 8) (j : Int) := by
    intro l hl j hj
    rw [rd_nat l j (by omega), rd_nat (l.take 8) j (by simp; omega), List.getElem_take]
  have eq : ∀ j : Nat, j < 8 → rd a (j : Int) = rd b (j : Int) := fun j hj => by rw [key a ha j hj, key b hb j hj, h]
  have dr : ∀ l : List Int, 12 ≤ l.length → ∀ j : Nat, j < 4 → rd (l.drop 4) (j : Int) = rd l ((4 + j : Nat) : Int) := by
    intro l hl j hj
    rw [rd_nat _ j (by simp; omega), rd_nat l (4 + j) (by omega), List.getElem_drop]
  have hw : w4 (a.drop 4) = w4 (b.drop 4) := by
    have d : ∀ j : Nat, j < 4 → rd (a.drop 4) (j : Int) = rd (b.drop 4) (j : Int) := fun j hj => by rw [dr a ha j hj, dr b hb j hj, eq (4 + j) (by omega)]
    unfold w4
    have d0 : rd (a.drop 4) 0 = rd (b.drop 4) 0 := d 0 (by omega)
    have d1 : rd (a.drop 4) 1 = rd (b.drop 4) 1 := d 1 (by omega)
    have d2 : rd (a.drop 4) 2 = rd (b.drop 4) 2 := d 2 (by omega)
    have d3 : rd (a.drop 4) 3 = rd (b.drop 4) 3 := d 3 (by omega)
    rw [d0, d1, d2, d3]
  have e0 : rd a 0 = rd b 0 := eq 0 (by omega)
  have e1 : rd a 1 = rd b 1 := eq 1 (by omega)
  have e2 : rd a 2 = rd b 2 := eq 2 (by omega)
  unfold sizeS
  rw [if_neg (show ¬ a.length < 12 by omega), if_neg (show ¬ b.length < 12 by omega), hw, e0, e1, e2]
theorem cut_bad (k : Int) (l : List Int) (hl : l.length ≤ 1048576) (i : Nat) (hi : i < l.length + 12) : (parseS ((frL k l).take i)).2.2 ≠ 0 := by
  intro h
  obtain ⟨h12, _, hs⟩ := parseS_ok h
  have hn := frL_length k l
  have hti : ((frL k l).take i).length = i := by simp; omega
  have hf := sizeS_fr k l [] hl
  rw [List.append_nil] at hf
  have hc := sizeS_congr (a := (frL k l).take i) (b := frL k l) h12 (by omega) (by rw [List.take_take, show min 8 i = 8 by omega])
  rw [hc, hf, hti] at hs
  simp only [Prod.mk.injEq, and_true] at hs
  omega
theorem more_bad (k x : Int) (l : List Int) (hl : l.length ≤ 1048576) : (parseS (frL k l ++ [x])).2.2 = 72 := by
  have hf := sizeS_fr k l [x] hl
  have hn := frL_length k l
  unfold parseS
  have hx : (frL k l ++ [x]).length = l.length + 13 := by rw [List.length_append, hn]; rfl
  rw [hf, if_neg (by simp), if_neg (by simp only []; omega), if_pos (by simp only []; omega)]
theorem Byt.set {a : List Int} (ha : Byt a) (i : Nat) (y : Int) (hy : 0 ≤ y ∧ y ≤ 255) : Byt (a.set i y) := by
  intro x hx
  rcases List.mem_or_eq_of_mem_set hx with h | h
  · exact ha x h
  · rw [h]; exact hy
theorem crc_one {a : List Int} (ha : Byt a) (i : Nat) (hi : i < a.length) (y : Int) (hy : 0 ≤ y ∧ y ≤ 255) (h : crc (a.set i y) = crc a) : y = a[i] := by
  have h1 : crcL 4294967295 (nb (a.set i y)) = crcL 4294967295 (nb a) := xor_cancel_r h
  have ea : a = a.take i ++ a[i] :: a.drop (i + 1) := by rw [← List.drop_eq_getElem_cons hi, List.take_append_drop]
  have hai := ha a[i] (List.getElem_mem hi)
  rw [List.set_eq_take_append_cons_drop, if_pos hi] at h1
  rw [nb_append] at h1
  have e2 : nb a = nb (a.take i) ++ (a[i]).toNat :: nb (a.drop (i + 1)) := by
    conv => lhs; rw [ea]
    rw [nb_append]; rfl
  rw [e2] at h1
  have e3 : nb (y :: a.drop (i + 1)) = y.toNat :: nb (a.drop (i + 1)) := rfl
  rw [e3] at h1
  have := crcL_one (by decide) (nb_lt (ha.take i)) (nb_lt (ha.drop (i + 1))) (by omega) (by omega) h1
  omega
theorem turned_bad (k : Int) (l : List Int) (hk : 0 ≤ k ∧ k ≤ 255) (hb : Byt l) (hl : l.length ≤ 1048576) (i : Nat) (hi : i < (frL k l).length) (y : Int) (hy : 0 ≤ y ∧ y ≤ 255) (hne : y ≠ (frL k l)[i]) : (parseS ((frL k l).set i y)).2.2 ≠ 0 := by
  intro h
  have hB := frL_byt hk hb
  have hn := frL_length k l
  have hc0 := crc_lt (frH_byt hk hb)
  have hH := frH_length k l
  have ht : (frL k l).take (l.length + 8) = frH k l := by
    unfold frL
    rw [List.take_append_of_le_length (by omega), List.take_of_length_le (by omega)]
  have hd : (frL k l).drop (l.length + 8) = be4 (crc (frH k l)) := by
    unfold frL
    rw [show l.length + 8 = (frH k l).length by omega, List.drop_left]
  obtain ⟨h12, hp, hs⟩ := parseS_ok h
  have hlen : ((frL k l).set i y).length = l.length + 12 := by simp [hn]
  have hw : w4 (((frL k l).set i y).drop (l.length + 8)) = crc (((frL k l).set i y).take (l.length + 8)) := by
    unfold parseS at h
    rw [hs, hlen] at h
    simp only at h
    rw [if_neg (by simp), if_neg (by omega), if_neg (by omega), show l.length + 12 - 4 = l.length + 8 by omega] at h
    split at h
    · cases h
    · rename_i h3; omega
  by_cases hc : i < l.length + 8
  · have e1 : ((frL k l).set i y).drop (l.length + 8) = be4 (crc (frH k l)) := by rw [List.drop_set_of_lt hc, hd]
    have e2 : ((frL k l).set i y).take (l.length + 8) = (frH k l).set i y := by rw [List.take_set, ht]
    have hw4 := w4_be4 (crc (frH k l)) hc0 []
    rw [List.append_nil] at hw4
    rw [e1, e2, hw4] at hw
    have := crc_one (frH_byt hk hb) i (by omega) y hy hw.symm
    apply hne
    have h7 : (frL k l)[i]? = (frH k l)[i]? := by
      unfold frL
      exact List.getElem?_append_left (by omega)
    rw [List.getElem?_eq_getElem hi, List.getElem?_eq_getElem (by omega)] at h7
    rw [this]
    exact (Option.some.inj h7).symm
  · have e2 : ((frL k l).set i y).take (l.length + 8) = frH k l := by rw [List.take_set_of_le (by omega), ht]
    have e1 : ((frL k l).set i y).drop (l.length + 8) = (be4 (crc (frH k l))).set (i - (l.length + 8)) y := by
      rw [List.drop_set, if_neg (by omega), hd]
    rw [e2, e1] at hw
    have hby := (be4_byt (crc (frH k l))).set (i - (l.length + 8)) y hy
    have h4 := be4_w4 ((be4 (crc (frH k l))).set (i - (l.length + 8)) y) (by simp [be4_length]) hby
    rw [hw, List.take_of_length_le (by simp [be4_length])] at h4
    apply hne
    have h5 : i - (l.length + 8) < (be4 (crc (frH k l))).length := by rw [be4_length]; omega
    have h6 : (be4 (crc (frH k l)))[i - (l.length + 8)]? = some y := by rw [h4]; exact List.getElem?_set_self h5
    have h7 : (frL k l)[i]? = some y := by
      unfold frL
      rw [List.getElem?_append_right (by omega), hH]
      exact h6
    rw [List.getElem?_eq_getElem hi] at h7
    exact (Option.some.inj h7).symm
theorem restl (a : Int) (n : Nat) (h0 : 0 < n) (hn : n ≤ 4611686018427387904) : ∃ i : Nat, Int.tmod (wrap64 ((Int.tmod a (n : Int)) + (n : Int))) (n : Int) = (i : Int) ∧ i < n := by
  have hb : -(n : Int) < Int.tmod a (n : Int) ∧ Int.tmod a (n : Int) < (n : Int) := by
    have h1 := Int.emod_nonneg a (show (n : Int) ≠ 0 by omega)
    have h2 := Int.emod_lt_of_pos a (show (0 : Int) < (n : Int) by omega)
    rw [Int.tmod_eq_emod]; split <;> omega
  generalize Int.tmod a (n : Int) = z at *
  rw [wrap64_wf _ (by omega) (by omega), Int.tmod_eq_emod_of_nonneg (by omega)]
  have h1 := Int.emod_nonneg (z + n) (show (n : Int) ≠ 0 by omega)
  have h2 := Int.emod_lt_of_pos (z + n) (show (0 : Int) < (n : Int) by omega)
  exact ⟨((z + n) % (n : Int)).toNat, by omega, by omega⟩
theorem FrameCatches_f (l : List Int) (a x : Int) (hb : Byt l) (hx : 0 ≤ x ∧ x ≤ 255) (K : Nat) (hK : 40000 ≤ K) : pelotonlaw14_FrameCatches.f K l a x = some true := by
  obtain ⟨K, rfl⟩ : ∃ m, K = m + 2 := ⟨K - 2, by omega⟩
  unfold pelotonlaw14_FrameCatches.f
  rw [show pelotonlaw14_awake.f = some true from rfl, Option.bind_some, if_pos rfl]
  by_cases hc : (l.length : Int) > 2000
  · rw [decide_eq_true hc]
    simp [pelotonlaw14_FrameCatches.j0, pelotonlaw14_awake.f]
  rw [decide_eq_false hc]
  simp only [pelotonlaw14_FrameCatches.j0]
  have hk : (0 : Int) ≤ 3 ∧ (3 : Int) ≤ 255 := by omega
  have hn := frL_length 3 l
  have hB := frL_byt hk hb
  rw [if_neg (by simp), refpack_eq (K + 1) 3 l hk hb (by omega) (by omega), Option.bind_some]
  obtain ⟨i, hi, hin⟩ := restl a (frL 3 l).length (by omega) (by omega)
  rw [hi, if_neg (by omega), if_pos (by omega), if_pos (by omega)]
  simp only [Int.toNat_natCast]
  have hri := hB _ (rd_mem (frL 3 l) i hin)
  have hrd := rd_nat (frL 3 l) i hin
  obtain ⟨p, hp⟩ := Int.eq_ofNat_of_zero_le hri.1
  obtain ⟨q, hq⟩ := Int.eq_ofNat_of_zero_le hx.1
  obtain ⟨hx1, hx2⟩ := bxor8 p q (by omega) (by omega)
  have hxor : Go.bits .xor .u8 (rd (frL 3 l) (i : Int)) x = ((p ^^^ q : Nat) : Int) := by rw [hp, hq]; exact hx1
  have hlast : (parseS ((frL 3 l).set i ((p ^^^ q : Nat) : Int))).2.2 = 0 ↔ x = 0 := by
    constructor
    · intro h0
      by_cases hz : ((p ^^^ q : Nat) : Int) = (frL 3 l)[i]
      · rw [← hrd, hp] at hz
        have h1 : p ^^^ q = p := by omega
        have h2 : p ^^^ q = p ^^^ 0 := by rw [h1, Nat.xor_zero]
        have := xor_cancel_l h2
        omega
      · exact absurd h0 (turned_bad 3 l hk hb (by omega) i hin _ (by omega) hz)
    · intro h0
      have hq0 : q = 0 := by omega
      rw [hq0, Nat.xor_zero, ← hp, hrd, List.set_getElem_self, parse_fr 3 l hk hb (by omega)]
  rw [parse_eq K _ (hB.take i) (by simp; omega), Option.bind_some, Option.bind_some, if_pos (by simp; omega), Option.bind_some, List.nil_append, if_pos (by omega), parse_eq K _ (hB.append (by intro z hz; rw [List.mem_singleton.1 hz]; exact hx)) (by simp; omega), Option.bind_some, Option.bind_some, if_pos (by simp; omega), Option.bind_some, List.nil_append, if_pos (by omega), hxor,
    parse_eq K _ (hB.set i _ (by omega)) (by simp; omega), Option.bind_some, if_neg (cut_bad 3 l (by omega) i (by omega)), if_pos (more_bad 3 x l (by omega))]
  by_cases h0 : x = 0
  · rw [hlast.2 h0, h0]; rfl
  · rw [show ((parseS ((frL 3 l).set i ((p ^^^ q : Nat) : Int))).2.2 == 0) = false from beq_eq_false_iff_ne.2 (fun h => h0 (hlast.1 h)), show (x == 0) = false from beq_eq_false_iff_ne.2 h0]; rfl
theorem FrameCatches : pelotonlaw14_FrameCatches.Pure := by
  intro l a x ⟨_, hw⟩ ha hx
  exact ⟨40000, FrameCatches_f l a x (fun y hy => wfu8 (hw y hy)) (wfu8 hx) 40000 (Nat.le_refl _)⟩

end Go.Proofs.Ytofoimndhndffaa.Pure
