/- FrameSplits: the law's plain part: what its functions compute answers true, for all arguments of its types. No condition beside the given bounds. -/
import Derived.Test.YtofoimndhndffaaQFrameSplitsx6
import Derived.Test.YtofoimndhndffaaMath
namespace Go.Proofs.Ytofoimndhndffaa.Pure
open Go.RowKit Go.Proofs.Ytofoimndhndffaa.QFrameSplits Go.Proofs.YtofoimndhndffaaW.PrintWords Go.Proofs.YtofoimndhndffaaW.PrintLast Go.Proofs.YtofoimndhndffaaW.PrintMore Go.PelMath
set_option linter.unusedVariables false
set_option linter.unusedSimpArgs false
theorem wrap32_range (x : Int) : -2147483648 ≤ wrap32 x ∧ wrap32 x ≤ 2147483647 := by unfold wrap32; omega
theorem wrap32_0 : wrap32 0 = 0 := by unfold wrap32; omega
theorem rd_nat (l : List Int) (i : Nat) (h : i < l.length) : rd l (i : Int) = l[i] := by
  unfold rd; simp [List.getD, h]
theorem drop_cons (l : List Int) (i : Nat) (h : i < l.length) : l.drop i = rd l (i : Int) :: l.drop (i + 1) := by
  rw [rd_nat l i h, List.drop_eq_getElem_cons h]
theorem rd_mem (l : List Int) (i : Nat) (h : i < l.length) : rd l (i : Int) ∈ l := by rw [rd_nat l i h]; exact List.getElem_mem h
theorem next (i n : Nat) (h : i < n) (hn : n ≤ 9223372036854775807) : wrap64 ((i : Int) + 1) = ((i + 1 : Nat) : Int) := by
  rw [wrap64_wf _ (by omega) (by omega)]; omega

def bst (r : Nat) : Nat := if r % 2 = 1 then (r / 2) ^^^ 3988292384 else r / 2
def b4 (r : Nat) : Nat := bst (bst (bst (bst r)))
def b8 (r : Nat) : Nat := b4 (b4 r)
def crcB (s x : Nat) : Nat := b8 (s ^^^ x)
def crcL (s : Nat) (l : List Nat) : Nat := l.foldl crcB s

theorem xor_lt32 {a b : Nat} (ha : a < 2 ^ 32) (hb : b < 2 ^ 32) : a ^^^ b < 2 ^ 32 := Nat.xor_lt_two_pow ha hb
theorem bst_lt {r : Nat} (h : r < 2 ^ 32) : bst r < 2 ^ 32 := by
  unfold bst; split
  · exact xor_lt32 (by omega) (by decide)
  · omega
theorem xor_div2 (a b : Nat) : (a ^^^ b) / 2 = a / 2 ^^^ b / 2 := by
  apply Nat.eq_of_testBit_eq
  intro i
  rw [Nat.testBit_div_two, Nat.testBit_xor, Nat.testBit_xor, Nat.testBit_div_two, Nat.testBit_div_two]
theorem xor_mod2 (a b : Nat) : (a ^^^ b) % 2 = (a % 2 + b % 2) % 2 := by
  have h := Nat.testBit_xor a b 0
  rw [Nat.testBit_zero, Nat.testBit_zero, Nat.testBit_zero] at h
  have ha : a % 2 = 0 ∨ a % 2 = 1 := by omega
  have hb : b % 2 = 0 ∨ b % 2 = 1 := by omega
  have hc : (a ^^^ b) % 2 = 0 ∨ (a ^^^ b) % 2 = 1 := by omega
  rcases ha with ha | ha <;> rcases hb with hb | hb <;> rcases hc with hc | hc <;> simp [ha, hb, hc] at h ⊢
theorem bst_xor (a b : Nat) : bst (a ^^^ b) = bst a ^^^ bst b := by
  unfold bst
  rw [xor_mod2, xor_div2]
  have ha : a % 2 = 0 ∨ a % 2 = 1 := by omega
  have hb : b % 2 = 0 ∨ b % 2 = 1 := by omega
  rcases ha with ha | ha <;> rcases hb with hb | hb <;> simp only [ha, hb] <;> simp
  · rw [Nat.xor_assoc]
  · rw [Nat.xor_assoc, Nat.xor_assoc, Nat.xor_comm 3988292384]
  · rw [Nat.xor_assoc, ← Nat.xor_assoc 3988292384, Nat.xor_comm 3988292384 (b / 2), Nat.xor_assoc, Nat.xor_self, Nat.xor_zero]
theorem b4_xor (a b : Nat) : b4 (a ^^^ b) = b4 a ^^^ b4 b := by unfold b4; rw [bst_xor, bst_xor, bst_xor, bst_xor]
theorem b8_xor (a b : Nat) : b8 (a ^^^ b) = b8 a ^^^ b8 b := by unfold b8; rw [b4_xor, b4_xor]
theorem b4_lt {r : Nat} (h : r < 2 ^ 32) : b4 r < 2 ^ 32 := bst_lt (bst_lt (bst_lt (bst_lt h)))
theorem b8_lt {r : Nat} (h : r < 2 ^ 32) : b8 r < 2 ^ 32 := b4_lt (b4_lt h)
theorem bst_even (h : Nat) : bst (2 * h) = h := by unfold bst; rw [if_neg (by omega)]; omega
theorem b4_hi (h : Nat) : b4 (16 * h) = h := by
  unfold b4
  rw [show 16 * h = 2 * (2 * (2 * (2 * h))) by omega, bst_even, bst_even, bst_even, bst_even]
theorem split16 (s : Nat) : s = (16 * (s / 16)) ^^^ (s % 16) := by
  apply Nat.eq_of_testBit_eq
  intro i
  rw [Nat.testBit_xor]
  have e1 : 16 * (s / 16) = 2 ^ 4 * (s / 2 ^ 4) := rfl
  have e2 : s % 16 = s % 2 ^ 4 := rfl
  rw [e1, e2, Nat.testBit_two_pow_mul, Nat.testBit_div_two_pow, Nat.testBit_mod_two_pow]
  by_cases hi : i < 4
  · have : ¬ 4 ≤ i := by omega
    simp [hi, this]
  · have h4 : 4 ≤ i := by omega
    simp [hi, h4]
def tab : List Nat := [0, 0x1DB71064, 0x3B6E20C8, 0x26D930AC, 0x76DC4190, 0x6B6B51F4, 0x4DB26158, 0x5005713C, 0xEDB88320, 0xF00F9344, 0xD6D6A3E8, 0xCB61B38C, 0x9B64C2B0, 0x86D3D2D4, 0xA00AE278, 0xBDBDF21C]
theorem b4_low : ∀ x, x < 16 → b4 x = tab.getD x 0 := by decide
theorem b4_tab (s : Nat) : b4 s = tab.getD (s % 16) 0 ^^^ s / 16 := by
  conv => lhs; rw [split16 s]
  rw [b4_xor, b4_hi, b4_low _ (Nat.mod_lt _ (by decide)), Nat.xor_comm]
theorem xor_mod16 (a b : Nat) : (a ^^^ b) % 16 = (a % 16) ^^^ (b % 16) := by
  apply Nat.eq_of_testBit_eq
  intro i
  have e : ∀ z : Nat, z % 16 = z % 2 ^ 4 := fun _ => rfl
  rw [e (a ^^^ b), e a, e b, Nat.testBit_xor, Nat.testBit_mod_two_pow, Nat.testBit_mod_two_pow, Nat.testBit_mod_two_pow, Nat.testBit_xor]
  by_cases hi : i < 4 <;> simp [hi]
theorem xor_div16 (a b : Nat) : (a ^^^ b) / 16 = (a / 16) ^^^ (b / 16) := by
  apply Nat.eq_of_testBit_eq
  intro i
  have e : ∀ z : Nat, z / 16 = z / 2 ^ 4 := fun _ => rfl
  rw [e (a ^^^ b), e a, e b, Nat.testBit_xor, Nat.testBit_div_two_pow, Nat.testBit_div_two_pow, Nat.testBit_div_two_pow, Nat.testBit_xor]
/-- a byte by two half bytes, out of the table -/
theorem crcB_tab (s x : Nat) (hx : x < 256) :
    crcB s x = tab.getD (((tab.getD ((s ^^^ x) % 16) 0 ^^^ s / 16) ^^^ x / 16) % 16) 0 ^^^ (tab.getD ((s ^^^ x) % 16) 0 ^^^ s / 16) / 16 := by
  have h1 : b4 (s ^^^ x) = (tab.getD ((s ^^^ x) % 16) 0 ^^^ s / 16) ^^^ x / 16 := by
    rw [b4_tab, xor_div16, Nat.xor_assoc]
  unfold crcB b8
  rw [h1, b4_tab, xor_div16 _ (x / 16), show x / 16 / 16 = 0 by omega, Nat.xor_zero]
/-- unlike states stay unlike -/
theorem bst_inj {a b : Nat} (ha : a < 2 ^ 32) (hb : b < 2 ^ 32) (h : bst a = bst b) : a = b := by
  have key : ∀ r : Nat, r < 2 ^ 32 → (bst r).testBit 31 = decide (r % 2 = 1) := by
    intro r hr
    unfold bst
    have h0 : (r / 2).testBit 31 = false := Nat.testBit_lt_two_pow (by omega)
    split
    · rename_i h1
      rw [Nat.testBit_xor, h0]; simp [h1]; decide
    · rename_i h1
      rw [h0]; simp [h1]
  have k1 := key a ha
  have k2 := key b hb
  rw [h, k2] at k1
  have hp : a % 2 = b % 2 := by
    have := decide_eq_decide.1 k1
    omega
  have hd : a / 2 = b / 2 := by
    unfold bst at h
    rw [hp] at h
    split at h
    · have h2 := congrArg (· ^^^ 3988292384) h
      simp only [Nat.xor_assoc, Nat.xor_self, Nat.xor_zero] at h2
      exact h2
    · exact h
  omega
theorem b4_inj {a b : Nat} (ha : a < 2 ^ 32) (hb : b < 2 ^ 32) (h : b4 a = b4 b) : a = b :=
  bst_inj ha hb (bst_inj (bst_lt ha) (bst_lt hb) (bst_inj (bst_lt (bst_lt ha)) (bst_lt (bst_lt hb)) (bst_inj (bst_lt (bst_lt (bst_lt ha))) (bst_lt (bst_lt (bst_lt hb))) h)))
theorem b8_inj {a b : Nat} (ha : a < 2 ^ 32) (hb : b < 2 ^ 32) (h : b8 a = b8 b) : a = b := b4_inj ha hb (b4_inj (b4_lt ha) (b4_lt hb) h)
theorem xor_cancel_r {a b c : Nat} (h : a ^^^ c = b ^^^ c) : a = b := by
  have h2 := congrArg (· ^^^ c) h
  simpa only [Nat.xor_assoc, Nat.xor_self, Nat.xor_zero] using h2
theorem xor_cancel_l {a b c : Nat} (h : c ^^^ a = c ^^^ b) : a = b := by
  rw [Nat.xor_comm c a, Nat.xor_comm c b] at h
  exact xor_cancel_r h
theorem crcB_lt {s x : Nat} (hs : s < 2 ^ 32) (hx : x < 256) : crcB s x < 2 ^ 32 := b8_lt (xor_lt32 hs (by omega))
theorem crcB_inj_s {s t x : Nat} (hs : s < 2 ^ 32) (ht : t < 2 ^ 32) (hx : x < 256) (h : crcB s x = crcB t x) : s = t :=
  xor_cancel_r (b8_inj (xor_lt32 hs (by omega)) (xor_lt32 ht (by omega)) h)
theorem crcB_inj_x {s x y : Nat} (hs : s < 2 ^ 32) (hx : x < 256) (hy : y < 256) (h : crcB s x = crcB s y) : x = y :=
  xor_cancel_l (b8_inj (xor_lt32 hs (by omega)) (xor_lt32 hs (by omega)) h)
theorem crcL_append (s : Nat) (a b : List Nat) : crcL s (a ++ b) = crcL (crcL s a) b := by unfold crcL; rw [List.foldl_append]
theorem crcL_lt {l : List Nat} : ∀ {s : Nat}, s < 2 ^ 32 → (∀ x ∈ l, x < 256) → crcL s l < 2 ^ 32 := by
  induction l with
  | nil => intro s hs _; exact hs
  | cons x l ih =>
    intro s hs h
    exact ih (crcB_lt hs (h x (by simp))) (fun y hy => h y (by simp [hy]))
theorem crcL_inj_s {l : List Nat} : ∀ {s t : Nat}, s < 2 ^ 32 → t < 2 ^ 32 → (∀ x ∈ l, x < 256) → crcL s l = crcL t l → s = t := by
  induction l with
  | nil => intro s t _ _ _ h; exact h
  | cons x l ih =>
    intro s t hs ht h he
    have hx := h x (by simp)
    exact crcB_inj_s hs ht hx (ih (crcB_lt hs hx) (crcB_lt ht hx) (fun y hy => h y (by simp [hy])) he)
/-- bytes that differ at one place have unlike check sums -/
theorem crcL_one {a b : List Nat} {x y s : Nat} (hs : s < 2 ^ 32) (ha : ∀ z ∈ a, z < 256) (hb : ∀ z ∈ b, z < 256) (hx : x < 256) (hy : y < 256) (h : crcL s (a ++ x :: b) = crcL s (a ++ y :: b)) : x = y := by
  rw [crcL_append, crcL_append] at h
  have h1 := crcL_lt hs ha
  exact crcB_inj_x h1 hx hy (crcL_inj_s (l := b) (crcB_lt h1 hx) (crcB_lt h1 hy) hb h)

theorem bxor32 (a b : Nat) (ha : a < 2 ^ 32) (hb : b < 2 ^ 32) : Go.bits .xor .u32 (a : Int) (b : Int) = ((a ^^^ b : Nat) : Int) := by
  have e : bits .xor .u32 (a : Int) (b : Int) = IntKind.u32.wrap (((BitVec.ofInt 32 a ^^^ BitVec.ofInt 32 b).toNat : Nat) : Int) := rfl
  have hw : ∀ y : Int, IntKind.u32.wrap y = y % 4294967296 := by intro y; simp [IntKind.wrap, IntKind.bits, IntKind.signed]
  have h1 : (BitVec.ofInt 32 (a : Int)).toNat = a := by rw [BitVec.toNat_ofInt]; omega
  have h2 : (BitVec.ofInt 32 (b : Int)).toNat = b := by rw [BitVec.toNat_ofInt]; omega
  have h3 := xor_lt32 ha hb
  rw [e, BitVec.toNat_xor, h1, h2, hw]
  omega
theorem band15 (a : Nat) (ha : a < 2 ^ 32) : Go.bits .and .u32 (a : Int) 15 = ((a % 16 : Nat) : Int) := by
  have e : bits .and .u32 (a : Int) 15 = IntKind.u32.wrap (((BitVec.ofInt 32 a &&& BitVec.ofInt 32 15).toNat : Nat) : Int) := rfl
  have hw : ∀ y : Int, IntKind.u32.wrap y = y % 4294967296 := by intro y; simp [IntKind.wrap, IntKind.bits, IntKind.signed]
  have h1 : (BitVec.ofInt 32 (a : Int)).toNat = a := by rw [BitVec.toNat_ofInt]; omega
  have h2 : (BitVec.ofInt 32 (15 : Int)).toNat = 2 ^ 4 - 1 := by decide
  rw [e, BitVec.toNat_and, h1, h2, Nat.and_two_pow_sub_one_eq_mod, hw]
  omega
/-- bytes as natural numbers -/
def nb (l : List Int) : List Nat := l.map Int.toNat
def Byt (l : List Int) : Prop := ∀ x ∈ l, 0 ≤ x ∧ x ≤ 255
theorem nb_append (a b : List Int) : nb (a ++ b) = nb a ++ nb b := by simp [nb]
theorem nb_lt {l : List Int} (h : Byt l) : ∀ x ∈ nb l, x < 256 := by
  intro x hx
  obtain ⟨y, hy, rfl⟩ := List.mem_map.1 hx
  have := h y hy; omega
theorem nb_length (l : List Int) : (nb l).length = l.length := by simp [nb]
theorem nb_inj {a b : List Int} (ha : Byt a) (hb : Byt b) (h : nb a = nb b) : a = b := by
  induction a generalizing b with
  | nil => cases b with
    | nil => rfl
    | cons y b => simp [nb] at h
  | cons x a ih =>
    cases b with
    | nil => simp [nb] at h
    | cons y b =>
      simp only [nb, List.map_cons, List.cons.injEq] at h
      have h1 := ha x (by simp); have h2 := hb y (by simp)
      rw [ih (fun z hz => ha z (by simp [hz])) (fun z hz => hb z (by simp [hz])) h.2]
      congr 1; omega
/-- the check sum of bytes -/
def crc (l : List Int) : Nat := crcL 4294967295 (nb l) ^^^ 4294967295
theorem crc_lt {l : List Int} (h : Byt l) : crc l < 2 ^ 32 := xor_lt32 (crcL_lt (by decide) (nb_lt h)) (by decide)

theorem tab_rd : ∀ m : Nat, m < 16 → rd weight_Sum.tab (m : Int) = ((tab.getD m 0 : Nat) : Int) := by decide
theorem tab_lt : ∀ m : Nat, m < 16 → tab.getD m 0 < 2 ^ 32 := by decide
theorem wsum_h1 (s y : Nat) (hs : s < 2 ^ 32) (hy : y < 2 ^ 32) : weight_Sum.h1 (s : Int) (y : Int) = ((tab.getD ((s ^^^ y) % 16) 0 ^^^ s / 16 : Nat) : Int) := by
  unfold weight_Sum.h1
  have hm := Nat.mod_lt (s ^^^ y) (show 0 < 16 by omega)
  rw [bxor32 s y hs hy, band15 _ (xor_lt32 hs hy), tab_rd _ hm, show ((s : Int) / 16) = ((s / 16 : Nat) : Int) by omega, bxor32 _ _ (tab_lt _ hm) (by omega)]
theorem wsum_step (s : Nat) (x : Int) (hs : s < 2 ^ 32) (hx : 0 ≤ x ∧ x ≤ 255) : weight_Sum.step (s : Int) x = ((crcB s x.toNat : Nat) : Int) := by
  obtain ⟨y, rfl⟩ := Int.eq_ofNat_of_zero_le hx.1
  have hw : IntKind.u32.wrap (y : Int) = (y : Int) := by
    have : ∀ y : Int, IntKind.u32.wrap y = y % 4294967296 := by intro y; simp [IntKind.wrap, IntKind.bits, IntKind.signed]
    rw [this]; omega
  have hm := Nat.mod_lt (s ^^^ y) (show 0 < 16 by omega)
  unfold weight_Sum.step
  rw [hw, wsum_h1 s y hs (by omega), show ((y : Int) / 16) = ((y / 16 : Nat) : Int) by omega, wsum_h1 _ _ (xor_lt32 (tab_lt _ hm) (by omega)) (by omega), Int.toNat_natCast, crcB_tab s y (by omega)]
theorem wsum_piece (l : List Int) : ∀ (s : Nat), s < 2 ^ 32 → Byt l → weight_Sum.piece (s : Int) l = ((crcL s (nb l) : Nat) : Int) := by
  induction l with
  | nil => intro s _ _; rfl
  | cons x l ih =>
    intro s hs h
    have hx := h x (by simp)
    have e : weight_Sum.piece (s : Int) (x :: l) = weight_Sum.piece (weight_Sum.step (s : Int) x) l := rfl
    rw [e, wsum_step s x hs hx, ih _ (crcB_lt hs (by omega)) (fun y hy => h y (by simp [hy]))]
    rfl
theorem wsum_all (ls : List (List Int)) : ∀ (s : Nat), s < 2 ^ 32 → (∀ l ∈ ls, Byt l) → ls.foldl weight_Sum.piece (s : Int) = ((crcL s (nb ls.flatten) : Nat) : Int) := by
  induction ls with
  | nil => intro s _ _; rfl
  | cons l ls ih =>
    intro s hs h
    have hl := h l (by simp)
    rw [List.foldl_cons, wsum_piece l s hs hl, ih _ (crcL_lt hs (nb_lt hl)) (fun y hy => h y (by simp [hy])), List.flatten_cons, nb_append, crcL_append]
theorem wsum_eq (ls : List (List Int)) (hn : ls.length < 4611686018427387904) (hb : ∀ l ∈ ls, Byt l) (hl : ∀ l ∈ ls, l.length < 4611686018427387904) : weight_Sum.f ls = some ((crc ls.flatten : Nat) : Int) := by
  have hf : weight_Sum.fit ls = true := by
    unfold weight_Sum.fit
    rw [decide_eq_true hn, Bool.true_and, List.all_eq_true]
    exact fun l h => decide_eq_true (hl l h)
  have hbf : Byt ls.flatten := by
    intro x hx
    obtain ⟨l, h1, h2⟩ := List.mem_flatten.1 hx
    exact hb l h1 x h2
  unfold weight_Sum.f
  rw [if_pos hf]
  have h1 := wsum_all ls 4294967295 (by decide) hb
  have h2 := crcL_lt (l := nb ls.flatten) (s := 4294967295) (by decide) (nb_lt hbf)
  rw [show (4294967295 : Int) = ((4294967295 : Nat) : Int) from rfl, h1, bxor32 _ _ (by decide) h2, Nat.xor_comm]
  rfl

def bstN : Nat → Nat → Nat
  | 0, r => r
  | d + 1, r => bstN d (bst r)
theorem bstN_8 (r : Nat) : bstN 8 r = b8 r := rfl
theorem refsum_l1 (l : List Int) (i : Int) : ∀ (d k j r : Nat), j + d = 8 → r < 2 ^ 32 → pelotonref07_Sum.l1 (k + d + 1) l (r : Int) i j = pelotonref07_Sum.l0 k l ((bstN d r : Nat) : Int) (wrap64 (i + 1)) := by
  intro d
  induction d with
  | zero =>
    intro k j r hj hr
    simp only [pelotonref07_Sum.l1]
    rw [if_neg (by omega)]; rfl
  | succ d ih =>
    intro k j r hj hr
    have e1 : Int.tmod (r : Int) 2 = ((r % 2 : Nat) : Int) := by rw [Int.tmod_eq_emod_of_nonneg (by omega)]; omega
    have e2 : Int.tdiv (r : Int) 2 % 4294967296 = ((r / 2 : Nat) : Int) := by rw [Int.tdiv_eq_ediv_of_nonneg (by omega)]; omega
    have hb := bst_lt hr
    have ih' := ih k (j + 1) (bst r) (by omega) hb
    rw [show k + (d + 1) + 1 = (k + d + 1) + 1 by omega]
    generalize k + d + 1 = m at *
    simp only [pelotonref07_Sum.l1]
    rw [if_pos (by omega), e1, e2, show wrap64 ((j : Int) + 1) = ((j + 1 : Nat) : Int) by rw [wrap64_wf _ (by omega) (by omega)]; omega]
    by_cases hc : r % 2 = 1
    · have e3 : Go.bits .xor .u32 ((r / 2 : Nat) : Int) 3988292384 = ((bst r : Nat) : Int) := by
        have := bxor32 (r / 2) 3988292384 (by omega) (by decide)
        rw [show (3988292384 : Int) = ((3988292384 : Nat) : Int) from rfl, this]
        unfold bst; rw [if_pos hc]
      rw [if_pos (by omega), e3, ih']; rfl
    · have e3 : ((r / 2 : Nat) : Int) = ((bst r : Nat) : Int) := by unfold bst; rw [if_neg hc]
      rw [if_neg (by omega), e3, ih']; rfl
theorem refsum_l0 (l : List Int) (hl : l.length ≤ 9223372036854775807) (hb : Byt l) : ∀ (d k i s : Nat), i + d = l.length → s < 2 ^ 32 → 10 * d < k →
    pelotonref07_Sum.l0 k l (s : Int) i = some ((crcL s (nb (l.drop i)) ^^^ 4294967295 : Nat) : Int) := by
  intro d
  induction d with
  | zero =>
    intro k i s hi hs hk
    obtain ⟨k, rfl⟩ : ∃ m, k = m + 1 := ⟨k - 1, by omega⟩
    simp only [pelotonref07_Sum.l0]
    rw [if_neg (by omega), List.drop_of_length_le (by omega)]
    have := bxor32 s 4294967295 hs (by decide)
    rw [show (4294967295 : Int) = ((4294967295 : Nat) : Int) from rfl, this]; rfl
  | succ d ih =>
    intro k i s hi hs hk
    obtain ⟨k, rfl⟩ : ∃ m, k = (m + 8 + 1) + 1 := ⟨k - 10, by omega⟩
    have hx := hb _ (rd_mem l i (by omega))
    simp only [pelotonref07_Sum.l0]
    rw [if_pos (by omega), if_pos (by omega)]
    have e1 : Go.bits .xor .u32 (s : Int) (rd l (i : Int) % 4294967296) = ((s ^^^ (rd l (i : Int)).toNat : Nat) : Int) := by
      rw [show rd l (i : Int) % 4294967296 = (((rd l (i : Int)).toNat : Nat) : Int) by omega]
      exact bxor32 _ _ hs (by omega)
    rw [e1]
    have h8 := refsum_l1 l i 8 k 0 (s ^^^ (rd l (i : Int)).toNat) rfl (xor_lt32 hs (by omega))
    rw [show ((0 : Nat) : Int) = 0 from rfl] at h8
    rw [h8, bstN_8, next i _ (show i < l.length by omega) hl]
    have hB : b8 (s ^^^ (rd l (i : Int)).toNat) = crcB s (rd l (i : Int)).toNat := rfl
    rw [hB, ih k (i + 1) _ (by omega) (crcB_lt hs (by omega)) (by omega), drop_cons l i (by omega)]
    rfl
theorem refsum_eq (l : List Int) (hl : l.length ≤ 9223372036854775807) (hb : Byt l) (k : Nat) (hk : 10 * l.length < k) : pelotonref07_Sum.f k l = some ((crc l : Nat) : Int) := by
  have := refsum_l0 l hl hb l.length k 0 4294967295 (by omega) (by decide) hk
  simpa [pelotonref07_Sum.f, crc] using this

theorem wfu8 {x : Int} (h : (Lit.int .u8 x).wf = true) : 0 ≤ x ∧ x ≤ 255 := by
  simp [Lit.wf, IntKind.min, IntKind.max, IntKind.bits, IntKind.signed] at h; omega

theorem str_list (a : List Int) : (strOfNums a).toList = a.map fun n => UInt8.ofNat n.toNat := by
  rw [show (strOfNums a).toList = (strOfNums a).data.toList from Go.ByteArray.toList_eq _]; rfl
theorem str_eq {a b : List Int} (ha : Byt a) (hb : Byt b) : (strOfNums a).toList = (strOfNums b).toList ↔ a = b := by
  rw [str_list, str_list]
  constructor
  · intro h
    have key : ∀ l : List Int, Byt l → (l.map fun n => UInt8.ofNat n.toNat).map (fun u : UInt8 => (u.toNat : Int)) = l := by
      intro l hl
      rw [List.map_map]
      conv => rhs; rw [← List.map_id l]
      apply List.map_congr_left
      intro x hx
      have := hl x hx
      simp only [Function.comp, id_eq, UInt8.toNat_ofNat']
      omega
    rw [← key a ha, ← key b hb, h]
  · intro h; rw [h]
theorem str_beq {a b : List Int} (ha : Byt a) (hb : Byt b) : ((strOfNums a).toList == (strOfNums b).toList) = decide (a = b) := by
  by_cases h : a = b
  · rw [decide_eq_true h, h]; simp
  · rw [decide_eq_false h]; exact beq_eq_false_iff_ne.2 (fun e => h ((str_eq ha hb).1 e))
theorem Byt.append {a b : List Int} (ha : Byt a) (hb : Byt b) : Byt (a ++ b) := by
  intro x hx
  rcases List.mem_append.1 hx with h | h
  · exact ha x h
  · exact hb x h
theorem Byt.take {a : List Int} (ha : Byt a) (n : Nat) : Byt (a.take n) := fun x hx => ha x (List.mem_of_mem_take hx)
theorem Byt.drop {a : List Int} (ha : Byt a) (n : Nat) : Byt (a.drop n) := fun x hx => ha x (List.mem_of_mem_drop hx)
theorem Byt.left {a b : List Int} (h : Byt (a ++ b)) : Byt a := fun x hx => h x (List.mem_append.2 (Or.inl hx))
theorem Byt.right {a b : List Int} (h : Byt (a ++ b)) : Byt b := fun x hx => h x (List.mem_append.2 (Or.inr hx))

def be4 (n : Nat) : List Int := [((n / 16777216 % 256 : Nat) : Int), ((n / 65536 % 256 : Nat) : Int), ((n / 256 % 256 : Nat) : Int), ((n % 256 : Nat) : Int)]
theorem be4_length (n : Nat) : (be4 n).length = 4 := rfl
theorem be4_byt (n : Nat) : Byt (be4 n) := by
  intro x hx
  simp only [be4, List.mem_cons, List.not_mem_nil, or_false] at hx
  rcases hx with rfl | rfl | rfl | rfl <;> omega
theorem be4_inj {a b : Nat} (ha : a < 2 ^ 32) (hb : b < 2 ^ 32) (h : be4 a = be4 b) : a = b := by
  simp only [be4, List.cons.injEq, and_true] at h
  omega
def w4 (l : List Int) : Nat := (rd l 0).toNat * 16777216 + (rd l 1).toNat * 65536 + (rd l 2).toNat * 256 + (rd l 3).toNat
theorem w4_be4 (n : Nat) (h : n < 2 ^ 32) (t : List Int) : w4 (be4 n ++ t) = n := by
  have e0 : rd (be4 n ++ t) 0 = ((n / 16777216 % 256 : Nat) : Int) := rfl
  have e1 : rd (be4 n ++ t) 1 = ((n / 65536 % 256 : Nat) : Int) := rfl
  have e2 : rd (be4 n ++ t) 2 = ((n / 256 % 256 : Nat) : Int) := rfl
  have e3 : rd (be4 n ++ t) 3 = ((n % 256 : Nat) : Int) := rfl
  unfold w4
  rw [e0, e1, e2, e3]
  simp only [Int.toNat_natCast]
  omega
theorem be4_w4 (l : List Int) (hl : 4 ≤ l.length) (hb : Byt l) : be4 (w4 l) = l.take 4 := by
  match l, hl, hb with
  | a :: b :: c :: d :: l, _, hb =>
    have h0 := hb a (by simp); have h1 := hb b (by simp); have h2 := hb c (by simp); have h3 := hb d (by simp)
    have e : w4 (a :: b :: c :: d :: l) = a.toNat * 16777216 + b.toNat * 65536 + c.toNat * 256 + d.toNat := rfl
    rw [e]
    simp only [be4, List.take, List.cons.injEq, and_true]
    omega
theorem w4_lt (l : List Int) (hl : 4 ≤ l.length) (hb : Byt l) : w4 l < 2 ^ 32 := by
  match l, hl, hb with
  | a :: b :: c :: d :: l, _, hb =>
    have h0 := hb a (by simp); have h1 := hb b (by simp); have h2 := hb c (by simp); have h3 := hb d (by simp)
    have e : w4 (a :: b :: c :: d :: l) = a.toNat * 16777216 + b.toNat * 65536 + c.toNat * 256 + d.toNat := rfl
    rw [e]; omega

theorem reffour_eq (n : Nat) (hn : n < 2 ^ 32) : pelotonref14_four.f (n : Int) = some (be4 n) := by
  unfold pelotonref14_four.f
  have e1 : Int.tdiv (n : Int) 16777216 = ((n / 16777216 : Nat) : Int) := t_div n 16777216
  have e2 : Int.tdiv (n : Int) 65536 = ((n / 65536 : Nat) : Int) := t_div n 65536
  have e3 : Int.tdiv (n : Int) 256 = ((n / 256 : Nat) : Int) := t_div n 256
  rw [e1, e2, e3]
  congr 1
  simp only [be4, List.cons.injEq, and_true]
  try omega

def frH (k : Int) (l : List Int) : List Int := [80, 76, 1, k] ++ be4 l.length ++ l
def frL (k : Int) (l : List Int) : List Int := frH k l ++ be4 (crc (frH k l))
theorem frH_length (k : Int) (l : List Int) : (frH k l).length = l.length + 8 := by simp [frH, be4_length]; omega
theorem frL_length (k : Int) (l : List Int) : (frL k l).length = l.length + 12 := by simp [frL, frH_length, be4_length]
theorem frH_byt {k : Int} {l : List Int} (hk : 0 ≤ k ∧ k ≤ 255) (hl : Byt l) : Byt (frH k l) := by
  refine Byt.append (Byt.append ?_ (be4_byt _)) hl
  intro x hx
  simp only [List.mem_cons, List.not_mem_nil, or_false] at hx
  rcases hx with rfl | rfl | rfl | rfl <;> omega
theorem frL_byt {k : Int} {l : List Int} (hk : 0 ≤ k ∧ k ≤ 255) (hl : Byt l) : Byt (frL k l) := Byt.append (frH_byt hk hl) (be4_byt _)

theorem refpack_eq (K : Nat) (k : Int) (l : List Int) (hk : 0 ≤ k ∧ k ≤ 255) (hb : Byt l) (hl : l.length ≤ 1048576) (hK : 10 * l.length + 100 < K) : pelotonref14_Pack.f K k l = some (frL k l) := by
  unfold pelotonref14_Pack.f
  have e0 : (l.length : Int) % 4294967296 = (l.length : Int) := by omega
  have hh := frH_byt hk hb
  have hlen := frH_length k l
  rw [Option.bind_some, e0, reffour_eq _ (by omega), Option.bind_some, if_pos (by simp [be4_length]), Option.bind_some, if_pos (by simp [be4_length]; omega), Option.bind_some]
  have e : [80, 76, 1, k] ++ be4 l.length ++ l = frH k l := rfl
  rw [e, refsum_eq _ (by omega) hh K (by omega), Option.bind_some, reffour_eq _ (crc_lt hh), Option.bind_some, if_pos (by rw [be4_length]; omega)]
  rfl

theorem bor32 (a b i : Nat) (ha : 2 ^ i * a + b < 2 ^ 32) (hb : b < 2 ^ i) : Go.bits .or .u32 ((2 ^ i * a : Nat) : Int) (b : Int) = ((2 ^ i * a + b : Nat) : Int) := by
  have e : bits .or .u32 ((2 ^ i * a : Nat) : Int) (b : Int) = IntKind.u32.wrap (((BitVec.ofInt 32 ((2 ^ i * a : Nat) : Int) ||| BitVec.ofInt 32 (b : Int)).toNat : Nat) : Int) := rfl
  have hw : ∀ y : Int, IntKind.u32.wrap y = y % 4294967296 := by intro y; simp [IntKind.wrap, IntKind.bits, IntKind.signed]
  have hx : 2 ^ i * a < 2 ^ 32 := by omega
  have h1 : (BitVec.ofInt 32 ((2 ^ i * a : Nat) : Int)).toNat = 2 ^ i * a := by rw [BitVec.toNat_ofInt]; omega
  have h2 : (BitVec.ofInt 32 (b : Int)).toNat = b := by rw [BitVec.toNat_ofInt]; omega
  rw [e, BitVec.toNat_or, h1, h2, ← Nat.two_pow_add_eq_or_of_lt hb, hw]
  omega
theorem word_eq (l : List Int) (hl : 4 ≤ l.length) (hb : Byt l) : frame_word.f l = some ((w4 l : Nat) : Int) := by
  match l, hl, hb with
  | a :: b :: c :: d :: l, _, hb =>
    have h0 := hb a (by simp); have h1 := hb b (by simp); have h2 := hb c (by simp); have h3 := hb d (by simp)
    obtain ⟨a, rfl⟩ := Int.eq_ofNat_of_zero_le h0.1
    obtain ⟨b, rfl⟩ := Int.eq_ofNat_of_zero_le h1.1
    obtain ⟨c, rfl⟩ := Int.eq_ofNat_of_zero_le h2.1
    obtain ⟨d, rfl⟩ := Int.eq_ofNat_of_zero_le h3.1
    unfold frame_word.f
    have r0 : rd (((a : Nat) : Int) :: ((b : Nat) : Int) :: ((c : Nat) : Int) :: ((d : Nat) : Int) :: l) 0 = (a : Int) := rfl
    have r1 : rd (((a : Nat) : Int) :: ((b : Nat) : Int) :: ((c : Nat) : Int) :: ((d : Nat) : Int) :: l) 1 = (b : Int) := rfl
    have r2 : rd (((a : Nat) : Int) :: ((b : Nat) : Int) :: ((c : Nat) : Int) :: ((d : Nat) : Int) :: l) 2 = (c : Int) := rfl
    have r3 : rd (((a : Nat) : Int) :: ((b : Nat) : Int) :: ((c : Nat) : Int) :: ((d : Nat) : Int) :: l) 3 = (d : Int) := rfl
    have e : w4 (((a : Nat) : Int) :: ((b : Nat) : Int) :: ((c : Nat) : Int) :: ((d : Nat) : Int) :: l) = a * 16777216 + b * 65536 + c * 256 + d := by
      unfold w4; rw [r0, r1, r2, r3]; simp only [Int.toNat_natCast]
    rw [if_pos (by simp only [List.length_cons]; omega), if_pos (by simp only [List.length_cons]; omega), if_pos (by simp only [List.length_cons]; omega), if_pos (by simp only [List.length_cons]; omega), r0, r1, r2, r3, e]
    have f1 : ((a : Int) % 4294967296) * 16777216 % 4294967296 = ((2 ^ 24 * a : Nat) : Int) := by omega
    have f2 : ((b : Int) % 4294967296) * 65536 % 4294967296 = ((2 ^ 16 * b : Nat) : Int) := by omega
    have f3 : ((c : Int) % 4294967296) * 256 % 4294967296 = ((2 ^ 8 * c : Nat) : Int) := by omega
    have f4 : (d : Int) % 4294967296 = (d : Int) := by omega
    rw [f1, f2, f3, f4, bor32 a (2 ^ 16 * b) 24 (by omega) (by omega), show 2 ^ 24 * a + 2 ^ 16 * b = 2 ^ 16 * (256 * a + b) by omega, bor32 (256 * a + b) (2 ^ 8 * c) 16 (by omega) (by omega),
      show 2 ^ 16 * (256 * a + b) + 2 ^ 8 * c = 2 ^ 8 * (256 * (256 * a + b) + c) by omega, bor32 (256 * (256 * a + b) + c) d 8 (by omega) (by omega)]
    congr 2; omega

def sizeS (l : List Int) : Int × Int :=
  if l.length < 12 then (0, 70) else if rd l 0 ≠ 80 ∨ rd l 1 ≠ 76 then (0, 71) else if rd l 2 ≠ 1 then (0, 141) else if w4 (l.drop 4) > 1048576 then (0, 140) else (((w4 (l.drop 4) + 12 : Nat) : Int), 0)
theorem sizeS_ok {l : List Int} {n : Int} (h : sizeS l = (n, 0)) : 12 ≤ l.length ∧ rd l 0 = 80 ∧ rd l 1 = 76 ∧ rd l 2 = 1 ∧ w4 (l.drop 4) ≤ 1048576 ∧ n = ((w4 (l.drop 4) + 12 : Nat) : Int) := by
  unfold sizeS at h
  split at h
  · cases h
  split at h
  · cases h
  split at h
  · cases h
  split at h
  · cases h
  rename_i h1 h2 h3 h4
  simp only [Prod.mk.injEq, and_true] at h
  refine ⟨by omega, ?_, ?_, by omega, by omega, h.symm⟩ <;> omega

theorem size_eq (k : Nat) (l : List Int) (hb : Byt l) : frame_size.f (k + 1) l = some (sizeS l) := by
  unfold frame_size.f sizeS
  by_cases h1 : l.length < 12
  · rw [if_pos (by omega), if_pos h1]
  rw [if_neg (by omega), if_neg h1, if_pos (by omega)]
  simp only [frame_size.j0]
  by_cases h2 : rd l 0 = 80
  · rw [if_pos h2, if_pos (by omega)]
    by_cases h3 : rd l 1 = 76
    · rw [show (rd l 1 != 76) = false from bne_eq_false_iff_eq.2 h3, if_neg (by simp), if_pos (by omega), if_neg (show ¬ (rd l 0 ≠ 80 ∨ rd l 1 ≠ 76) by omega)]
      by_cases h4 : rd l 2 = 1
      · have hlt := w4_lt (l.drop 4) (by simp; omega) (hb.drop 4)
        rw [if_pos h4, if_pos (by omega), word_eq _ (by simp; omega) (hb.drop 4), Option.bind_some, if_neg (show ¬ rd l 2 ≠ 1 by omega)]
        by_cases h5 : w4 (l.drop 4) > 1048576
        · rw [if_pos (by omega), if_pos h5]
        · rw [if_neg (by omega), if_neg h5, wrap64_wf ((w4 (l.drop 4) : Nat) : Int) (by omega) (by omega), wrap64_wf _ (by omega) (by omega)]
          congr 2; omega
      · rw [if_neg h4, if_pos (show rd l 2 ≠ 1 from h4)]
    · rw [show (rd l 1 != 76) = true from bne_iff_ne.2 h3, if_pos rfl, if_pos (show rd l 0 ≠ 80 ∨ rd l 1 ≠ 76 by omega)]
  · rw [if_neg h2, if_pos trivial, if_pos (show rd l 0 ≠ 80 ∨ rd l 1 ≠ 76 by omega)]

theorem refsize_eq (k : Nat) (l : List Int) (hb : Byt l) : pelotonref14_Size.f (k + 1) l = some (sizeS l) := by
  unfold pelotonref14_Size.f sizeS
  by_cases h1 : l.length < 12
  · rw [if_pos (by omega), if_pos h1]
  rw [if_neg (by omega), if_neg h1, if_pos (by omega)]
  simp only [pelotonref14_Size.j0]
  by_cases h2 : rd l 0 = 80
  · rw [if_pos h2, if_pos (by omega)]
    by_cases h3 : rd l 1 = 76
    · rw [show (rd l 1 != 76) = false from bne_eq_false_iff_eq.2 h3, if_neg (by simp), if_pos (by omega), if_neg (show ¬ (rd l 0 ≠ 80 ∨ rd l 1 ≠ 76) by omega)]
      by_cases h4 : rd l 2 = 1
      · have g4 : 0 ≤ rd l 4 ∧ rd l 4 ≤ 255 := hb _ (rd_mem l 4 (by omega))
        have g5 : 0 ≤ rd l 5 ∧ rd l 5 ≤ 255 := hb _ (rd_mem l 5 (by omega))
        have g6 : 0 ≤ rd l 6 ∧ rd l 6 ≤ 255 := hb _ (rd_mem l 6 (by omega))
        have g7 : 0 ≤ rd l 7 ∧ rd l 7 ≤ 255 := hb _ (rd_mem l 7 (by omega))
        have e : ∀ i : Nat, i < 4 → rd (l.drop 4) (i : Int) = rd l ((4 + i : Nat) : Int) := by
          intro i hi
          rw [rd_nat _ i (by simp; omega), rd_nat l (4 + i) (by omega), List.getElem_drop]
        have e0 : rd (l.drop 4) 0 = rd l 4 := e 0 (by omega)
        have e1 : rd (l.drop 4) 1 = rd l 5 := e 1 (by omega)
        have e2 : rd (l.drop 4) 2 = rd l 6 := e 2 (by omega)
        have e3 : rd (l.drop 4) 3 = rd l 7 := e 3 (by omega)
        have hw : ((w4 (l.drop 4) : Nat) : Int) = rd l 4 * 16777216 + rd l 5 * 65536 + rd l 6 * 256 + rd l 7 := by
          unfold w4
          rw [e0, e1, e2, e3]
          omega
        rw [if_pos h4, if_pos (by omega), if_pos (by omega), if_pos (by omega), if_pos (by omega), if_neg (show ¬ rd l 2 ≠ 1 by omega)]
        generalize rd l 4 = a at *
        generalize rd l 5 = b at *
        generalize rd l 6 = c at *
        generalize rd l 7 = d at *
        rw [wrap64_wf a (by omega) (by omega), wrap64_wf b (by omega) (by omega), wrap64_wf c (by omega) (by omega), wrap64_wf d (by omega) (by omega), wrap64_wf (a * 256) (by omega) (by omega), wrap64_wf (a * 256 + b) (by omega) (by omega),
          wrap64_wf ((a * 256 + b) * 256) (by omega) (by omega), wrap64_wf ((a * 256 + b) * 256 + c) (by omega) (by omega), wrap64_wf (((a * 256 + b) * 256 + c) * 256) (by omega) (by omega), wrap64_wf (((a * 256 + b) * 256 + c) * 256 + d) (by omega) (by omega)]
        by_cases h5 : w4 (l.drop 4) > 1048576
        · rw [if_pos (by omega), if_pos h5]
        · rw [if_neg (by omega), if_neg h5, wrap64_wf _ (by omega) (by omega)]
          congr 2; omega
      · rw [if_neg h4, if_pos (show rd l 2 ≠ 1 from h4)]
    · rw [show (rd l 1 != 76) = true from bne_iff_ne.2 h3, if_pos rfl, if_pos (show rd l 0 ≠ 80 ∨ rd l 1 ≠ 76 by omega)]
  · rw [if_neg h2, if_pos trivial, if_pos (show rd l 0 ≠ 80 ∨ rd l 1 ≠ 76 by omega)]

def parseS (l : List Int) : Int × List Int × Int :=
  if (sizeS l).2 ≠ 0 then (0, [], (sizeS l).2) else if (l.length : Int) < (sizeS l).1 then (0, [], 70) else if (l.length : Int) > (sizeS l).1 then (0, [], 72)
  else if w4 (l.drop (l.length - 4)) ≠ crc (l.take (l.length - 4)) then (0, [], 73) else (rd l 3, (l.take (l.length - 4)).drop 8, 0)

theorem parse_eq (k : Nat) (l : List Int) (hb : Byt l) (hl : l.length < 100000000) : frame_Parse.f (k + 1) l = some (parseS l) := by
  unfold frame_Parse.f parseS
  rw [size_eq k l hb, Option.bind_some]
  rcases hs : sizeS l with ⟨n, e⟩
  simp only
  by_cases he : e = 0
  · subst he
    obtain ⟨h12, _, _, _, hn, rfl⟩ := sizeS_ok hs
    rw [if_pos rfl, if_neg (show ¬ ((0 : Int) ≠ 0) by simp)]
    by_cases h1 : (l.length : Int) < ((w4 (l.drop 4) + 12 : Nat) : Int)
    · rw [if_pos h1, if_pos h1]
    rw [if_neg h1, if_neg h1]
    by_cases h2 : (l.length : Int) > ((w4 (l.drop 4) + 12 : Nat) : Int)
    · rw [if_pos h2, if_pos h2]
    rw [if_neg h2, if_neg h2]
    have hn4 : wrap64 (((w4 (l.drop 4) + 12 : Nat) : Int) - 4) = ((l.length - 4 : Nat) : Int) := by rw [wrap64_wf _ (by omega) (by omega)]; omega
    have hbt := hb.take (l.length - 4)
    rw [hn4, if_pos (by omega), if_pos (by omega)]
    simp only [Int.toNat_natCast]
    rw [word_eq _ (by simp; omega) (hb.drop _), Option.bind_some, wsum_eq [l.take (l.length - 4)] (by simp) (fun x hx => by rw [List.mem_singleton.1 hx]; exact hbt) (fun x hx => by rw [List.mem_singleton.1 hx]; simp; omega), Option.bind_some]
    simp only [List.flatten_cons, List.flatten_nil, List.append_nil]
    by_cases h3 : w4 (l.drop (l.length - 4)) = crc (l.take (l.length - 4))
    · rw [if_pos (by omega), if_pos (by omega), if_pos (by omega), if_neg (by omega)]
      unfold bytes_Clone.f
      rw [Option.bind_some, if_pos (by simp; omega)]
      simp
    · rw [if_neg (by omega), if_pos h3]
  · rw [if_neg he, if_pos he]

theorem fault_eq (k : Nat) (l : List Int) (hb : Byt l) (hl : l.length < 100000000) (hk : 10 * l.length < k) : pelotonref14_Fault.f (k + 1) l = some (parseS l).2.2 := by
  unfold pelotonref14_Fault.f parseS
  rw [refsize_eq k l hb, Option.bind_some]
  rcases hs : sizeS l with ⟨n, e⟩
  simp only
  by_cases he : e = 0
  · subst he
    obtain ⟨h12, _, _, _, hn, rfl⟩ := sizeS_ok hs
    rw [if_pos rfl, if_neg (show ¬ ((0 : Int) ≠ 0) by simp)]
    by_cases h1 : (l.length : Int) < ((w4 (l.drop 4) + 12 : Nat) : Int)
    · rw [if_pos h1, if_pos h1]
    rw [if_neg h1, if_neg h1]
    by_cases h2 : (l.length : Int) > ((w4 (l.drop 4) + 12 : Nat) : Int)
    · rw [if_pos h2, if_pos h2]
    rw [if_neg h2, if_neg h2]
    have hn4 : wrap64 (((w4 (l.drop 4) + 12 : Nat) : Int) - 4) = ((l.length - 4 : Nat) : Int) := by rw [wrap64_wf _ (by omega) (by omega)]; omega
    have hbt := hb.take (l.length - 4)
    have hdl : (l.drop (l.length - 4)).length = 4 := by simp; omega
    rw [hn4, if_pos (by omega), if_pos (by omega)]
    simp only [Int.toNat_natCast]
    rw [refsum_eq _ (by simp; omega) hbt _ (by simp; omega), Option.bind_some, reffour_eq _ (crc_lt hbt), Option.bind_some]
    have hiff : (strOfNums (be4 (crc (l.take (l.length - 4))))).toList = (strOfNums (l.drop (l.length - 4))).toList ↔ w4 (l.drop (l.length - 4)) = crc (l.take (l.length - 4)) := by
      rw [str_eq (be4_byt _) (hb.drop _)]
      constructor
      · intro h
        have := w4_be4 (crc (l.take (l.length - 4))) (crc_lt hbt) []
        rw [List.append_nil, h] at this
        exact this
      · intro h
        have := be4_w4 (l.drop (l.length - 4)) (by omega) (hb.drop _)
        have h9 : (l.drop (l.length - 4)).take 4 = l.drop (l.length - 4) := List.take_of_length_le (by omega)
        rw [h9] at this
        rw [← this, h]
    by_cases h3 : w4 (l.drop (l.length - 4)) = crc (l.take (l.length - 4))
    · rw [if_pos (hiff.2 h3), if_neg (by omega)]
    · rw [if_neg (fun h => h3 (hiff.1 h)), if_pos h3]
  · rw [if_neg he, if_pos he]

theorem frL_head (k : Int) (l : List Int) : frL k l = 80 :: 76 :: 1 :: k :: (be4 l.length ++ (l ++ be4 (crc (frH k l)))) := by simp [frL, frH]
theorem sizeS_fr (k : Int) (l t : List Int) (hl : l.length ≤ 1048576) : sizeS (frL k l ++ t) = (((l.length + 12 : Nat) : Int), 0) := by
  have e : (frL k l ++ t).drop 4 = be4 l.length ++ (l ++ be4 (crc (frH k l)) ++ t) := by rw [frL_head]; simp
  have h0 : rd (frL k l ++ t) 0 = 80 := by rw [frL_head]; rfl
  have h1 : rd (frL k l ++ t) 1 = 76 := by rw [frL_head]; rfl
  have h2 : rd (frL k l ++ t) 2 = 1 := by rw [frL_head]; rfl
  unfold sizeS
  rw [e, w4_be4 _ (by omega), h0, h1, h2, if_neg (by rw [List.length_append, frL_length]; omega), if_neg (by simp), if_neg (by simp), if_neg (by omega)]
theorem parse_fr (k : Int) (l : List Int) (hk : 0 ≤ k ∧ k ≤ 255) (hb : Byt l) (hl : l.length ≤ 1048576) : parseS (frL k l) = (k, l, 0) := by
  have hs := sizeS_fr k l [] hl
  rw [List.append_nil] at hs
  have hlen := frL_length k l
  have hH := frH_length k l
  have ht : (frL k l).take ((frL k l).length - 4) = frH k l := by
    rw [hlen]; unfold frL
    rw [List.take_append_of_le_length (by omega), List.take_of_length_le (by omega)]
  have hd : (frL k l).drop ((frL k l).length - 4) = be4 (crc (frH k l)) := by
    rw [hlen]; unfold frL
    rw [show l.length + 12 - 4 = (frH k l).length by omega, List.drop_left]
  have h3 : rd (frL k l) 3 = k := by rw [frL_head]; rfl
  have hc := crc_lt (frH_byt hk hb)
  have hw := w4_be4 (crc (frH k l)) hc []
  rw [List.append_nil] at hw
  unfold parseS
  rw [hs, ht, hd, hw, h3, if_neg (by simp), if_neg (by omega), if_neg (by omega), if_neg (by simp)]
  congr 2

def nextF (l : List Int) : Option Nat := if (sizeS l).2 = 0 ∧ (sizeS l).1 ≤ (l.length : Int) ∧ (parseS (l.take (sizeS l).1.toNat)).2.2 = 0 then some (sizeS l).1.toNat else none
theorem nextF_some {l : List Int} {n : Nat} (h : nextF l = some n) : 12 ≤ n ∧ n ≤ l.length := by
  unfold nextF at h
  split at h
  · rename_i hc
    obtain ⟨h1, h2, _⟩ := hc
    injection h with h
    rcases hs : sizeS l with ⟨a, e⟩
    rw [hs] at h1 h2 h
    simp only at h1 h2 h
    subst h1
    obtain ⟨_, _, _, _, _, hn⟩ := sizeS_ok hs
    omega
  · cases h
def cuts : Nat → List Int → List Nat
  | 0, _ => []
  | m + 1, l => match nextF l with
    | none => []
    | some n => n :: cuts m (l.drop n)
def endsF : Nat → List Nat → List Int
  | _, [] => []
  | a, n :: r => ((a + n : Nat) : Int) :: endsF (a + n) r
def piecesF : List Int → List Nat → List (List Int)
  | _, [] => []
  | l, n :: r => l.take n :: piecesF (l.drop n) r
theorem cuts_none {m : Nat} {l : List Int} (h : nextF l = none) : cuts (m + 1) l = [] := by unfold cuts; rw [h]
theorem cuts_some {m n : Nat} {l : List Int} (h : nextF l = some n) : cuts (m + 1) l = n :: cuts m (l.drop n) := by rw [cuts, h]
theorem next_cases (l : List Int) : (∃ e : Int, e ≠ 0 ∧ (sizeS l).2 = e ∧ nextF l = none) ∨ ∃ N : Nat, sizeS l = ((N : Int), 0) ∧ 12 ≤ N ∧ N ≤ 1048600 ∧ ((l.length < N ∧ nextF l = none) ∨ (N ≤ l.length ∧ ((parseS (l.take N)).2.2 = 0 ∧ nextF l = some N ∨ (parseS (l.take N)).2.2 ≠ 0 ∧ nextF l = none))) := by
  by_cases he : (sizeS l).2 = 0
  · right
    rcases hs : sizeS l with ⟨a, e⟩
    rw [hs] at he
    simp only at he
    subst he
    obtain ⟨_, _, _, _, hw, hn⟩ := sizeS_ok hs
    refine ⟨w4 (l.drop 4) + 12, by rw [hn], by omega, by omega, ?_⟩
    have hna : a.toNat = w4 (l.drop 4) + 12 := by omega
    by_cases h1 : w4 (l.drop 4) + 12 ≤ l.length
    · right
      refine ⟨h1, ?_⟩
      by_cases h2 : (parseS (l.take (w4 (l.drop 4) + 12))).2.2 = 0
      · left
        refine ⟨h2, ?_⟩
        unfold nextF
        rw [hs]
        simp only
        rw [hna, if_pos ⟨trivial, by omega, h2⟩]
      · right
        refine ⟨h2, ?_⟩
        unfold nextF
        rw [hs]
        simp only
        rw [hna, if_neg (fun h => h2 h.2.2)]
    · left
      refine ⟨by omega, ?_⟩
      unfold nextF
      rw [hs]
      simp only
      rw [if_neg (fun h => by omega)]
  · left
    refine ⟨_, he, rfl, ?_⟩
    unfold nextF
    rw [if_neg (fun h => he h.1)]
theorem refsplit : ∀ (m : Nat) (l acc : List Int) (a K : Nat), Byt l → l.length < 90000000 → a ≤ l.length → l.length - a < m → 10 * l.length + m + 4 < K → acc.length + m < 17592186044416 →
    pelotonref14_Split.l0 K l acc (a : Int) = some (acc ++ endsF a (cuts m (l.drop a)))
  | 0, _, _, _, _, _, _, _, h, _, _ => absurd h (by omega)
  | m + 1, l, acc, a, K, hb, hl, ha, hm, hK, hacc => by
    obtain ⟨K, rfl⟩ : ∃ k, K = k + 2 := ⟨K - 2, by omega⟩
    have hD := hb.drop a
    have hDl : (l.drop a).length = l.length - a := List.length_drop
    have hw1 : wrap64 ((l.length : Int) - (a : Int)) = ((l.length - a : Nat) : Int) := by rw [wrap64_wf _ (by omega) (by omega)]; omega
    rw [pelotonref14_Split.l0, if_pos (by omega), if_pos (by omega), Int.toNat_natCast, refsize_eq K _ hD, Option.bind_some, hw1]
    rcases next_cases (l.drop a) with ⟨e, he, hs, hn⟩ | ⟨N, hs, hN1, hN2, hc⟩
    · rw [if_neg (by rw [hs]; exact he), cuts_none hn]
      simp [endsF]
    · rw [hs]
      simp only
      rw [if_pos trivial]
      rcases hc with ⟨h1, hn⟩ | ⟨h1, hc⟩
      · rw [if_pos (by omega), cuts_none hn]
        simp [endsF]
      · have hw2 : wrap64 ((a : Int) + (N : Int)) = ((a + N : Nat) : Int) := by rw [wrap64_wf _ (by omega) (by omega)]; omega
        have ht : (l.take (a + N)).drop a = (l.drop a).take N := by rw [List.drop_take]; congr 1; omega
        have hTl : ((l.drop a).take N).length = N := by rw [List.length_take]; omega
        rw [if_neg (by omega), hw2, if_pos (by omega), if_pos (by omega), Int.toNat_natCast, ht, fault_eq K _ (hD.take N) (by omega) (by omega), Option.bind_some]
        rcases hc with ⟨h2, hn⟩ | ⟨h2, hn⟩
        · rw [if_pos h2, if_pos (by omega), refsplit m l _ (a + N) (K + 1) hb hl (by omega) (by omega) (by omega) (by rw [List.length_append, List.length_singleton]; omega), cuts_some hn, endsF, List.drop_drop, List.append_assoc]
          rfl
        · rw [if_neg h2, cuts_none hn]
          simp [endsF]
theorem clone_eq (l : List Int) (h : l.length < 100000000) : bytes_Clone.f l = some l := by
  unfold bytes_Clone.f
  rw [Option.bind_some, if_pos (by simp; omega), List.nil_append]
theorem fsplit : ∀ (m : Nat) (l : List Int) (acc : List (List Int)) (K : Nat), Byt l → l.length < 90000000 → l.length < m → 2 * m + 4 < K → acc.length + m < 5864062014805 →
    frame_Split.l0 K l acc = some (acc ++ piecesF l (cuts m l), l.drop (cuts m l).sum)
  | 0, _, _, _, _, _, h, _, _ => absurd h (by omega)
  | m + 1, l, acc, K, hb, hl, hm, hK, hacc => by
    obtain ⟨K, rfl⟩ : ∃ k, K = k + 4 := ⟨K - 4, by omega⟩
    rw [frame_Split.l0, size_eq (K + 2) l hb, Option.bind_some]
    have hend : nextF l = none → frame_Split.j1 (K + 3) l acc (sizeS l).1 true = some (acc ++ piecesF l (cuts (m + 1) l), l.drop (cuts (m + 1) l).sum) := by
      intro hn
      rw [frame_Split.j1, if_pos rfl, clone_eq l (by omega), Option.bind_some, cuts_none hn]
      simp [piecesF]
    rcases next_cases l with ⟨e, he, hs, hn⟩ | ⟨N, hs, hN1, hN2, hc⟩
    · rw [if_neg (by rw [hs]; exact he)]
      exact hend hn
    · rw [hs] at hend ⊢
      simp only at hend ⊢
      rw [if_pos trivial]
      rcases hc with ⟨h1, hn⟩ | ⟨h1, hc⟩
      · rw [decide_eq_true (show (N : Int) > (l.length : Int) by omega)]
        exact hend hn
      · have hTl : (l.take N).length = N := by rw [List.length_take]; omega
        rw [decide_eq_false (show ¬ (N : Int) > (l.length : Int) by omega), frame_Split.j1, if_neg (by simp), if_pos (by omega), if_pos (by omega), Int.toNat_natCast, parse_eq (K + 1) _ (hb.take N) (by omega), Option.bind_some]
        rcases hc with ⟨h2, hn⟩ | ⟨h2, hn⟩
        · rw [if_pos h2, clone_eq _ (by omega), Option.bind_some, if_pos (by omega), fsplit m (l.drop N) _ (K + 2) (hb.drop N) (by rw [List.length_drop]; omega) (by rw [List.length_drop]; omega) (by omega) (by rw [List.length_append, List.length_singleton]; omega), cuts_some hn, piecesF, List.append_assoc, List.sum_cons, List.drop_drop]
          rfl
        · rw [if_neg h2, clone_eq l (by omega), Option.bind_some, cuts_none hn]
          simp [piecesF]
theorem next_fr (k : Int) (b t : List Int) (hk : 0 ≤ k ∧ k ≤ 255) (hb : Byt b) (hl : b.length ≤ 1048576) : nextF (frL k b ++ t) = some (frL k b).length := by
  have hs := sizeS_fr k b t hl
  have hlen := frL_length k b
  unfold nextF
  rw [hs]
  simp only
  rw [Int.toNat_natCast, ← hlen, List.take_left, if_pos ⟨trivial, by rw [List.length_append]; omega, by rw [parse_fr k b hk hb hl]⟩]
def framesF : Int → List (List Int) → List (List Int)
  | _, [] => []
  | i, b :: r => frL i b :: framesF (i + 1) r
theorem framesF_length : ∀ (i : Int) (bs : List (List Int)), (framesF i bs).length = bs.length
  | _, [] => rfl
  | i, b :: r => by simp [framesF, framesF_length (i + 1) r]
theorem framesF_snoc : ∀ (i : Int) (bs : List (List Int)) (b : List Int), framesF i (bs ++ [b]) = framesF i bs ++ [frL (i + bs.length) b]
  | i, [], b => by simp [framesF]
  | i, c :: r, b => by
    rw [List.cons_append, framesF, framesF, framesF_snoc (i + 1) r b, List.cons_append, List.length_cons]
    congr 4
    omega
theorem cuts_fr (t : List Int) (m : Nat) : ∀ (i : Int) (bs : List (List Int)), 0 ≤ i → i + bs.length ≤ 256 → (∀ b ∈ bs, Byt b ∧ b.length ≤ 500) →
    cuts (m + bs.length) ((framesF i bs).flatten ++ t) = (framesF i bs).map List.length ++ cuts m t
  | i, [], _, _, _ => by simp [framesF]
  | i, b :: r, h0, h1, hb => by
    have hb0 := hb b (by simp)
    rw [List.length_cons] at h1
    have e : (framesF i (b :: r)).flatten ++ t = frL i b ++ ((framesF (i + 1) r).flatten ++ t) := by rw [framesF, List.flatten_cons, List.append_assoc]
    rw [e, List.length_cons, ← Nat.add_assoc, cuts_some (next_fr i b _ (by omega) hb0.1 (by omega)), List.drop_left, cuts_fr t m (i + 1) r (by omega) (by omega) (fun c hc => hb c (by simp [hc])), framesF, List.map_cons, List.cons_append]
theorem flat_facts : ∀ (i : Int) (bs : List (List Int)), 0 ≤ i → i + bs.length ≤ 256 → (∀ b ∈ bs, Byt b ∧ b.length ≤ 500) → Byt (framesF i bs).flatten ∧ (framesF i bs).flatten.length ≤ 512 * bs.length ∧ ∀ f ∈ framesF i bs, f ≠ [] ∧ ∀ x ∈ f, 0 ≤ x ∧ x < 256
  | i, [], _, _, _ => ⟨fun x hx => by simp [framesF] at hx, by simp [framesF], fun f hf => by simp [framesF] at hf⟩
  | i, b :: r, h0, h1, hb => by
    have hb0 := hb b (by simp)
    rw [List.length_cons] at h1
    obtain ⟨g1, g2, g3⟩ := flat_facts (i + 1) r (by omega) (by omega) (fun c hc => hb c (by simp [hc]))
    have hf := frL_byt (k := i) (by omega) hb0.1
    have hlen := frL_length i b
    refine ⟨?_, ?_, fun f hm => ?_⟩
    · rw [framesF, List.flatten_cons]; exact hf.append g1
    · rw [framesF, List.flatten_cons, List.length_append, List.length_cons]; omega
    · rw [framesF, List.mem_cons] at hm
      rcases hm with rfl | hm
      · refine ⟨fun e => by rw [e] at hlen; simp at hlen, fun x hx => ?_⟩
        have := hf x hx
        omega
      · exact g3 f hm
theorem cuts_fit : ∀ (m : Nat) (l : List Int), (cuts m l).sum ≤ l.length
  | 0, _ => by simp [cuts]
  | m + 1, l => by
    cases h : nextF l with
    | none => rw [cuts_none h]; simp
    | some n =>
      have := nextF_some h
      have := cuts_fit m (l.drop n)
      rw [List.length_drop] at this
      rw [cuts_some h, List.sum_cons]; omega
theorem endsF_length : ∀ (a : Nat) (ns : List Nat), (endsF a ns).length = ns.length
  | _, [] => rfl
  | a, n :: r => by simp [endsF, endsF_length]
theorem piecesF_length : ∀ (l : List Int) (ns : List Nat), (piecesF l ns).length = ns.length
  | _, [] => rfl
  | l, n :: r => by simp [piecesF, piecesF_length]
theorem splits_l1 (x1 all rest : List Int) (ns0 : List Nat) (hb1 : Byt x1) (hl1 : x1.length ≤ 1000) (hball : Byt all) (hall : all.length < 80000000) (hsum : ns0.sum ≤ all.length) (hlen0 : ns0.length < 80000000) (hrest : rest = all.drop ns0.sum) :
    ∀ (ns done : List Nat) (K : Nat), ns0 = done ++ ns → 3000 + ns.length < K → pelotonlaw14_FrameSplits.l1 K x1 all (endsF 0 ns0) (piecesF all ns0) rest (done.sum : Int) (done.length : Int) = some true
  | [], done, K, hd, hK => by
    rw [List.append_nil] at hd
    subst hd
    obtain ⟨K, rfl⟩ : ∃ k, K = k + 1 := ⟨K - 1, by omega⟩
    rw [pelotonlaw14_FrameSplits.l1, endsF_length, if_neg (by omega), frame_Split.f, fsplit (x1.length + 1) x1 [] K hb1 (by omega) (by omega) (by omega) (by simp; omega), Option.bind_some, if_pos (by omega), if_pos (by omega), Int.toNat_natCast, hrest, if_pos rfl]
    simp only [List.nil_append, piecesF_length]
    by_cases h : ((cuts (x1.length + 1) x1).length : Int) > 0
    · rw [if_pos h]
    · rw [if_neg h]
      have h0 : cuts (x1.length + 1) x1 = [] := List.eq_nil_of_length_eq_zero (by omega)
      rw [h0]
      simp
  | n :: r, done, K, hd, hK => by
    obtain ⟨K, rfl⟩ : ∃ k, K = k + 1 := ⟨K - 1, by omega⟩
    have hlen : ns0.length = done.length + (r.length + 1) := by rw [hd]; simp
    have hs : ns0.sum = done.sum + (n + r.sum) := by rw [hd]; simp
    have hends : ∀ (a : Nat) (d : List Nat), (endsF a (d ++ n :: r))[d.length]? = some ((a + d.sum + n : Nat) : Int) := by
      intro a d
      induction d generalizing a with
      | nil => simp [endsF]
      | cons c d ih => rw [List.cons_append, endsF, List.length_cons, List.getElem?_cons_succ, ih, List.sum_cons]; congr 2; omega
    have hpc : ∀ (l : List Int) (d : List Nat), (piecesF l (d ++ n :: r))[d.length]? = some ((l.drop d.sum).take n) := by
      intro l d
      induction d generalizing l with
      | nil => simp [piecesF]
      | cons c d ih => rw [List.cons_append, piecesF, List.length_cons, List.getElem?_cons_succ, ih, List.sum_cons, List.drop_drop]
    have he := hends 0 done
    have hp := hpc all done
    rw [← hd] at he hp
    have r1 : rd (endsF 0 ns0) (done.length : Int) = ((done.sum + n : Nat) : Int) := by
      unfold rd
      rw [Int.toNat_natCast, List.getD_eq_getElem?_getD, he, Nat.zero_add]
      rfl
    have r2 : rd_L1 (piecesF all ns0) (done.length : Int) = (all.drop done.sum).take n := by
      unfold rd_L1
      rw [Int.toNat_natCast, List.getD_eq_getElem?_getD, hp]
      rfl
    have ht : (all.take (done.sum + n)).drop done.sum = (all.drop done.sum).take n := by rw [List.drop_take]; congr 1; omega
    have hw : wrap64 ((done.length : Int) + 1) = ((done ++ [n]).length : Int) := by rw [wrap64_wf _ (by omega) (by omega)]; simp
    have hsn : ((done.sum + n : Nat) : Int) = (((done ++ [n]).sum : Nat) : Int) := by simp
    rw [pelotonlaw14_FrameSplits.l1, endsF_length, piecesF_length, if_pos (by omega), if_pos (by omega), if_pos (by omega), if_pos (by omega), r1, r2, if_pos (by omega), if_pos (by omega), Int.toNat_natCast, Int.toNat_natCast, ht, if_pos rfl, hw, hsn]
    exact splits_l1 x1 all rest ns0 hb1 hl1 hball hall hsum hlen0 hrest r (done ++ [n]) K (by rw [hd]; simp) (by rw [List.length_cons] at hK; omega)
theorem FrameSplits_l0 (bs : List (List Int)) (t : List Int) (hn : bs.length ≤ 20) (hb : ∀ b ∈ bs, Byt b) (ht : Byt t) (htl : t.length ≤ 1000) :
    ∀ (r d : List (List Int)) (K : Nat), bs = d ++ r → (∀ b ∈ d, Byt b ∧ b.length ≤ 500) → 200000 + r.length < K → pelotonlaw14_FrameSplits.l0 K bs t (framesF 0 d) (d.length : Int) = some true
  | [], d, K, hd, hdb, hK => by
    rw [List.append_nil] at hd
    subst hd
    obtain ⟨K, rfl⟩ : ∃ k, K = k + 2 := ⟨K - 2, by omega⟩
    obtain ⟨g1, g2, g3⟩ := flat_facts 0 bs (by omega) (by omega) hdb
    have hj : frame_Join.f (framesF 0 bs) = some (framesF 0 bs).flatten := by
      unfold frame_Join.f
      rw [if_pos ⟨g3, by rw [framesF_length]; omega, by omega⟩]
    have hall := g1.append ht
    have hal : ((framesF 0 bs).flatten ++ t).length ≤ 11240 := by rw [List.length_append]; omega
    have hc := cuts_fr t 12000 0 bs (by omega) (by omega) hdb
    rw [pelotonlaw14_FrameSplits.l0, if_neg (by omega), hj, Option.bind_some, if_pos (by omega), Option.bind_some, pelotonref14_Split.f]
    have h1 := refsplit (12000 + bs.length) ((framesF 0 bs).flatten ++ t) [] 0 (K + 1) hall (by omega) (by omega) (by omega) (by omega) (by simp; omega)
    have h2 := fsplit (12000 + bs.length) ((framesF 0 bs).flatten ++ t) [] (K + 1) hall (by omega) (by omega) (by omega) (by simp; omega)
    rw [List.drop_zero, List.nil_append] at h1
    rw [List.nil_append] at h2
    have h1' : pelotonref14_Split.l0 (K + 1) ((framesF 0 bs).flatten ++ t) [] 0 = _ := h1
    have h2' : frame_Split.f (K + 1) ((framesF 0 bs).flatten ++ t) = _ := h2
    rw [h1', Option.bind_some, h2', Option.bind_some]
    have hsum := cuts_fit (12000 + bs.length) ((framesF 0 bs).flatten ++ t)
    have hcl : (cuts (12000 + bs.length) ((framesF 0 bs).flatten ++ t)).length ≤ 12000 + bs.length ∧ bs.length ≤ (cuts (12000 + bs.length) ((framesF 0 bs).flatten ++ t)).length := by
      have hmax : ∀ (m : Nat) (l : List Int), (cuts m l).length ≤ m := by
        intro m
        induction m with
        | zero => intro l; simp [cuts]
        | succ m ih =>
          intro l
          cases h : nextF l with
          | none => rw [cuts_none h]; simp
          | some n => rw [cuts_some h, List.length_cons]; have := ih (l.drop n); omega
      have := hmax (12000 + bs.length) ((framesF 0 bs).flatten ++ t)
      refine ⟨this, ?_⟩
      rw [hc, List.length_append, List.length_map, framesF_length]
      omega
    clear hc
    generalize cuts (12000 + bs.length) ((framesF 0 bs).flatten ++ t) = ns at *
    simp only [piecesF_length, endsF_length, framesF_length]
    rw [if_pos trivial, decide_eq_false (show ¬ ((ns.length : Int) < (bs.length : Int)) by omega), pelotonlaw14_FrameSplits.j2, if_neg (by simp)]
    exact splits_l1 t _ _ ns ht htl hall (by omega) hsum (by omega) rfl ns [] K rfl (by omega)
  | b :: r, d, K, hd, hdb, hK => by
    obtain ⟨K, rfl⟩ : ∃ k, K = k + 1 := ⟨K - 1, by omega⟩
    have hlen : bs.length = d.length + (r.length + 1) := by rw [hd]; simp
    have hbm : b ∈ bs := by rw [hd]; simp
    have hrd : rd_L1 bs (d.length : Int) = b := by
      unfold rd_L1
      rw [Int.toNat_natCast, List.getD_eq_getElem?_getD, hd, List.getElem?_append_right (Nat.le_refl _), Nat.sub_self]
      rfl
    rw [pelotonlaw14_FrameSplits.l0, if_pos (by omega), if_pos (by omega), hrd]
    by_cases hc : (b.length : Int) > 500
    · rw [if_pos hc]
    · have hmod : (d.length : Int) % 256 = 0 + (d.length : Int) := by omega
      have hw : wrap64 ((d.length : Int) + 1) = ((d ++ [b]).length : Int) := by rw [wrap64_wf _ (by omega) (by omega)]; simp
      rw [if_neg hc, hmod, refpack_eq K _ b (by omega) (hb b hbm) (by omega) (by omega), Option.bind_some, framesF_length, if_pos (by omega), hw, ← framesF_snoc]
      exact FrameSplits_l0 bs t hn hb ht htl r (d ++ [b]) K (by rw [hd]; simp) (fun c hm => by
        rcases List.mem_append.1 hm with h | h
        · exact hdb c h
        · rw [List.mem_singleton.1 h]; exact ⟨hb b hbm, by omega⟩) (by rw [List.length_cons] at hK; omega)
theorem FrameSplits : pelotonlaw14_FrameSplits.Pure := by
  intro bs t ⟨_, hbs⟩ ⟨_, ht⟩
  have hb : ∀ b ∈ bs, Byt b := fun b hm x hx => wfu8 ((hbs b hm).2 x hx)
  have htb : Byt t := fun x hx => wfu8 (ht x hx)
  refine ⟨300001, ?_⟩
  have hA : pelotonlaw14_FrameSplits.j0 300001 bs t true = some true := by simp [pelotonlaw14_FrameSplits.j0, pelotonlaw14_awake.f]
  unfold pelotonlaw14_FrameSplits.f
  rw [show pelotonlaw14_awake.f = some true from rfl, Option.bind_some, if_pos rfl]
  by_cases c1 : (bs.length : Int) > 20
  · rw [if_pos c1]; exact hA
  rw [if_neg c1]
  by_cases c2 : (t.length : Int) > 1000
  · rw [decide_eq_true c2]; exact hA
  rw [decide_eq_false c2, pelotonlaw14_FrameSplits.j0, if_neg (by simp)]
  exact FrameSplits_l0 bs t (by omega) hb htb (by omega) bs [] 300000 rfl (fun b hb => by cases hb) (by omega)

end Go.Proofs.Ytofoimndhndffaa.Pure
