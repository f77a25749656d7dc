/- MsgForms: the law's plain part: what its functions compute answers true, for all arguments of its types. No condition beside the given bounds. -/
import Derived.Test.YtnkphgiodpledaaQMsgFormsx6
import Derived.Test.YtnkphgiodpledaaMath
namespace Go.Proofs.Ytnkphgiodpledaa.Pure
open Go.RowKit Go.Proofs.Ytnkphgiodpledaa.QMsgForms Go.Proofs.YtnkphgiodpledaaW.PrintWords Go.Proofs.YtnkphgiodpledaaW.PrintLast Go.Proofs.YtnkphgiodpledaaW.PrintMore Go.PelMath
set_option linter.unusedVariables false
set_option linter.unusedSimpArgs false
theorem wrap32_range (x : Int) : -2147483648 ≤ wrap32 x ∧ wrap32 x ≤ 2147483647 := by unfold wrap32; omega
theorem wrap32_0 : wrap32 0 = 0 := by unfold wrap32; omega
theorem rd_nat (l : List Int) (i : Nat) (h : i < l.length) : rd l (i : Int) = l[i] := by
  unfold rd; simp [List.getD, h]
theorem drop_cons (l : List Int) (i : Nat) (h : i < l.length) : l.drop i = rd l (i : Int) :: l.drop (i + 1) := by
  rw [rd_nat l i h, List.drop_eq_getElem_cons h]
theorem rd_mem (l : List Int) (i : Nat) (h : i < l.length) : rd l (i : Int) ∈ l := by rw [rd_nat l i h]; exact List.getElem_mem h
theorem next (i n : Nat) (h : i < n) (hn : n ≤ 9223372036854775807) : wrap64 ((i : Int) + 1) = ((i + 1 : Nat) : Int) := by
  rw [wrap64_wf _ (by omega) (by omega)]; omega

def bst (r : Nat) : Nat := if r % 2 = 1 then (r / 2) ^^^ 3988292384 else r / 2
def b4 (r : Nat) : Nat := bst (bst (bst (bst r)))
def b8 (r : Nat) : Nat := b4 (b4 r)
def crcB (s x : Nat) : Nat := b8 (s ^^^ x)
def crcL (s : Nat) (l : List Nat) : Nat := l.foldl crcB s

theorem xor_lt32 {a b : Nat} (ha : a < 2 ^ 32) (hb : b < 2 ^ 32) : a ^^^ b < 2 ^ 32 := Nat.xor_lt_two_pow ha hb
theorem bst_lt {r : Nat} (h : r < 2 ^ 32) : bst r < 2 ^ 32 := by
  unfold bst; split
  · exact xor_lt32 (by omega) (by decide)
  · omega
theorem xor_div2 (a b : Nat) : (a ^^^ b) / 2 = a / 2 ^^^ b / 2 := by
  apply Nat.eq_of_testBit_eq
  intro i
  rw [Nat.testBit_div_two, Nat.testBit_xor, Nat.testBit_xor, Nat.testBit_div_two, Nat.testBit_div_two]
theorem xor_mod2 (a b : Nat) : (a ^^^ b) % 2 = (a % 2 + b % 2) % 2 := by
  have h := Nat.testBit_xor a b 0
  rw [Nat.testBit_zero, Nat.testBit_zero, Nat.testBit_zero] at h
  have ha : a % 2 = 0 ∨ a % 2 = 1 := by omega
  have hb : b % 2 = 0 ∨ b % 2 = 1 := by omega
  have hc : (a ^^^ b) % 2 = 0 ∨ (a ^^^ b) % 2 = 1 := by omega
  rcases ha with ha | ha <;> rcases hb with hb | hb <;> rcases hc with hc | hc <;> simp [ha, hb, hc] at h ⊢
theorem bst_xor (a b : Nat) : bst (a ^^^ b) = bst a ^^^ bst b := by
  unfold bst
  rw [xor_mod2, xor_div2]
  have ha : a % 2 = 0 ∨ a % 2 = 1 := by omega
  have hb : b % 2 = 0 ∨ b % 2 = 1 := by omega
  rcases ha with ha | ha <;> rcases hb with hb | hb <;> simp only [ha, hb] <;> simp
  · rw [Nat.xor_assoc]
  · rw [Nat.xor_assoc, Nat.xor_assoc, Nat.xor_comm 3988292384]
  · rw [Nat.xor_assoc, ← Nat.xor_assoc 3988292384, Nat.xor_comm 3988292384 (b / 2), Nat.xor_assoc, Nat.xor_self, Nat.xor_zero]
theorem b4_xor (a b : Nat) : b4 (a ^^^ b) = b4 a ^^^ b4 b := by unfold b4; rw [bst_xor, bst_xor, bst_xor, bst_xor]
theorem b8_xor (a b : Nat) : b8 (a ^^^ b) = b8 a ^^^ b8 b := by unfold b8; rw [b4_xor, b4_xor]
theorem b4_lt {r : Nat} (h : r < 2 ^ 32) : b4 r < 2 ^ 32 := bst_lt (bst_lt (bst_lt (bst_lt h)))
theorem b8_lt {r : Nat} (h : r < 2 ^ 32) : b8 r < 2 ^ 32 := b4_lt (b4_lt h)
theorem bst_even (h : Nat) : bst (2 * h) = h := by unfold bst; rw [if_neg (by omega)]; omega
theorem b4_hi (h : Nat) : b4 (16 * h) = h := by
  unfold b4
  rw [show 16 * h = 2 * (2 * (2 * (2 * h))) by omega, bst_even, bst_even, bst_even, bst_even]
theorem split16 (s : Nat) : s = (16 * (s / 16)) ^^^ (s % 16) := by
  apply Nat.eq_of_testBit_eq
  intro i
  rw [Nat.testBit_xor]
  have e1 : 16 * (s / 16) = 2 ^ 4 * (s / 2 ^ 4) := rfl
  have e2 : s % 16 = s % 2 ^ 4 := rfl
  rw [e1, e2, Nat.testBit_two_pow_mul, Nat.testBit_div_two_pow, Nat.testBit_mod_two_pow]
  by_cases hi : i < 4
  · have : ¬ 4 ≤ i := by omega
    simp [hi, this]
  · have h4 : 4 ≤ i := by omega
    simp [hi, h4]
def tab : List Nat := [0, 0x1DB71064, 0x3B6E20C8, 0x26D930AC, 0x76DC4190, 0x6B6B51F4, 0x4DB26158, 0x5005713C, 0xEDB88320, 0xF00F9344, 0xD6D6A3E8, 0xCB61B38C, 0x9B64C2B0, 0x86D3D2D4, 0xA00AE278, 0xBDBDF21C]
theorem b4_low : ∀ x, x < 16 → b4 x = tab.getD x 0 := by decide
theorem b4_tab (s : Nat) : b4 s = tab.getD (s % 16) 0 ^^^ s / 16 := by
  conv => lhs; rw [split16 s]
  rw [b4_xor, b4_hi, b4_low _ (Nat.mod_lt _ (by decide)), Nat.xor_comm]
theorem xor_mod16 (a b : Nat) : (a ^^^ b) % 16 = (a % 16) ^^^ (b % 16) := by
  apply Nat.eq_of_testBit_eq
  intro i
  have e : ∀ z : Nat, z % 16 = z % 2 ^ 4 := fun _ => rfl
  rw [e (a ^^^ b), e a, e b, Nat.testBit_xor, Nat.testBit_mod_two_pow, Nat.testBit_mod_two_pow, Nat.testBit_mod_two_pow, Nat.testBit_xor]
  by_cases hi : i < 4 <;> simp [hi]
theorem xor_div16 (a b : Nat) : (a ^^^ b) / 16 = (a / 16) ^^^ (b / 16) := by
  apply Nat.eq_of_testBit_eq
  intro i
  have e : ∀ z : Nat, z / 16 = z / 2 ^ 4 := fun _ => rfl
  rw [e (a ^^^ b), e a, e b, Nat.testBit_xor, Nat.testBit_div_two_pow, Nat.testBit_div_two_pow, Nat.testBit_div_two_pow, Nat.testBit_xor]
/-- a byte by two half bytes, out of the table -/
theorem crcB_tab (s x : Nat) (hx : x < 256) :
    crcB s x = tab.getD (((tab.getD ((s ^^^ x) % 16) 0 ^^^ s / 16) ^^^ x / 16) % 16) 0 ^^^ (tab.getD ((s ^^^ x) % 16) 0 ^^^ s / 16) / 16 := by
  have h1 : b4 (s ^^^ x) = (tab.getD ((s ^^^ x) % 16) 0 ^^^ s / 16) ^^^ x / 16 := by
    rw [b4_tab, xor_div16, Nat.xor_assoc]
  unfold crcB b8
  rw [h1, b4_tab, xor_div16 _ (x / 16), show x / 16 / 16 = 0 by omega, Nat.xor_zero]
/-- unlike states stay unlike -/
theorem bst_inj {a b : Nat} (ha : a < 2 ^ 32) (hb : b < 2 ^ 32) (h : bst a = bst b) : a = b := by
  have key : ∀ r : Nat, r < 2 ^ 32 → (bst r).testBit 31 = decide (r % 2 = 1) := by
    intro r hr
    unfold bst
    have h0 : (r / 2).testBit 31 = false := Nat.testBit_lt_two_pow (by omega)
    split
    · rename_i h1
      rw [Nat.testBit_xor, h0]; simp [h1]; decide
    · rename_i h1
      rw [h0]; simp [h1]
  have k1 := key a ha
  have k2 := key b hb
  rw [h, k2] at k1
  have hp : a % 2 = b % 2 := by
    have := decide_eq_decide.1 k1
    omega
  have hd : a / 2 = b / 2 := by
    unfold bst at h
    rw [hp] at h
    split at h
    · have h2 := congrArg (· ^^^ 3988292384) h
      simp only [Nat.xor_assoc, Nat.xor_self, Nat.xor_zero] at h2
      exact h2
    · exact h
  omega
theorem b4_inj {a b : Nat} (ha : a < 2 ^ 32) (hb : b < 2 ^ 32) (h : b4 a = b4 b) : a = b :=
  bst_inj ha hb (bst_inj (bst_lt ha) (bst_lt hb) (bst_inj (bst_lt (bst_lt ha)) (bst_lt (bst_lt hb)) (bst_inj (bst_lt (bst_lt (bst_lt ha))) (bst_lt (bst_lt (bst_lt hb))) h)))
theorem b8_inj {a b : Nat} (ha : a < 2 ^ 32) (hb : b < 2 ^ 32) (h : b8 a = b8 b) : a = b := b4_inj ha hb (b4_inj (b4_lt ha) (b4_lt hb) h)
theorem xor_cancel_r {a b c : Nat} (h : a ^^^ c = b ^^^ c) : a = b := by
  have h2 := congrArg (· ^^^ c) h
  simpa only [Nat.xor_assoc, Nat.xor_self, Nat.xor_zero] using h2
theorem xor_cancel_l {a b c : Nat} (h : c ^^^ a = c ^^^ b) : a = b := by
  rw [Nat.xor_comm c a, Nat.xor_comm c b] at h
  exact xor_cancel_r h
theorem crcB_lt {s x : Nat} (hs : s < 2 ^ 32) (hx : x < 256) : crcB s x < 2 ^ 32 := b8_lt (xor_lt32 hs (by omega))
theorem crcB_inj_s {s t x : Nat} (hs : s < 2 ^ 32) (ht : t < 2 ^ 32) (hx : x < 256) (h : crcB s x = crcB t x) : s = t :=
  xor_cancel_r (b8_inj (xor_lt32 hs (by omega)) (xor_lt32 ht (by omega)) h)
theorem crcB_inj_x {s x y : Nat} (hs : s < 2 ^ 32) (hx : x < 256) (hy : y < 256) (h : crcB s x = crcB s y) : x = y :=
  xor_cancel_l (b8_inj (xor_lt32 hs (by omega)) (xor_lt32 hs (by omega)) h)
theorem crcL_append (s : Nat) (a b : List Nat) : crcL s (a ++ b) = crcL (crcL s a) b := by unfold crcL; rw [List.foldl_append]
theorem crcL_lt {l : List Nat} : ∀ {s : Nat}, s < 2 ^ 32 → (∀ x ∈ l, x < 256) → crcL s l < 2 ^ 32 := by
  induction l with
  | nil => intro s hs _; exact hs
  | cons x l ih =>
    intro s hs h
    exact ih (crcB_lt hs (h x (by simp))) (fun y hy => h y (by simp [hy]))
theorem crcL_inj_s {l : List Nat} : ∀ {s t : Nat}, s < 2 ^ 32 → t < 2 ^ 32 → (∀ x ∈ l, x < 256) → crcL s l = crcL t l → s = t := by
  induction l with
  | nil => intro s t _ _ _ h; exact h
  | cons x l ih =>
    intro s t hs ht h he
    have hx := h x (by simp)
    exact crcB_inj_s hs ht hx (ih (crcB_lt hs hx) (crcB_lt ht hx) (fun y hy => h y (by simp [hy])) he)
/-- bytes that differ at one place have unlike check sums -/
theorem crcL_one {a b : List Nat} {x y s : Nat} (hs : s < 2 ^ 32) (ha : ∀ z ∈ a, z < 256) (hb : ∀ z ∈ b, z < 256) (hx : x < 256) (hy : y < 256) (h : crcL s (a ++ x :: b) = crcL s (a ++ y :: b)) : x = y := by
  rw [crcL_append, crcL_append] at h
  have h1 := crcL_lt hs ha
  exact crcB_inj_x h1 hx hy (crcL_inj_s (l := b) (crcB_lt h1 hx) (crcB_lt h1 hy) hb h)

theorem bxor32 (a b : Nat) (ha : a < 2 ^ 32) (hb : b < 2 ^ 32) : Go.bits .xor .u32 (a : Int) (b : Int) = ((a ^^^ b : Nat) : Int) := by
  have e : bits .xor .u32 (a : Int) (b : Int) = IntKind.u32.wrap (((BitVec.ofInt 32 a ^^^ BitVec.ofInt 32 b).toNat : Nat) : Int) := rfl
  have hw : ∀ y : Int, IntKind.u32.wrap y = y % 4294967296 := by intro y; simp [IntKind.wrap, IntKind.bits, IntKind.signed]
  have h1 : (BitVec.ofInt 32 (a : Int)).toNat = a := by rw [BitVec.toNat_ofInt]; omega
  have h2 : (BitVec.ofInt 32 (b : Int)).toNat = b := by rw [BitVec.toNat_ofInt]; omega
  have h3 := xor_lt32 ha hb
  rw [e, BitVec.toNat_xor, h1, h2, hw]
  omega
theorem band15 (a : Nat) (ha : a < 2 ^ 32) : Go.bits .and .u32 (a : Int) 15 = ((a % 16 : Nat) : Int) := by
  have e : bits .and .u32 (a : Int) 15 = IntKind.u32.wrap (((BitVec.ofInt 32 a &&& BitVec.ofInt 32 15).toNat : Nat) : Int) := rfl
  have hw : ∀ y : Int, IntKind.u32.wrap y = y % 4294967296 := by intro y; simp [IntKind.wrap, IntKind.bits, IntKind.signed]
  have h1 : (BitVec.ofInt 32 (a : Int)).toNat = a := by rw [BitVec.toNat_ofInt]; omega
  have h2 : (BitVec.ofInt 32 (15 : Int)).toNat = 2 ^ 4 - 1 := by decide
  rw [e, BitVec.toNat_and, h1, h2, Nat.and_two_pow_sub_one_eq_mod, hw]
  omega
/-- bytes as natural numbers -/
def nb (l : List Int) : List Nat := l.map Int.toNat
def Byt (l : List Int) : Prop := ∀ x ∈ l, 0 ≤ x ∧ x ≤ 255
theorem nb_append (a b : List Int) : nb (a ++ b) = nb a ++ nb b := by simp [nb]
theorem nb_lt {l : List Int} (h : Byt l) : ∀ x ∈ nb l, x < 256 := by
  intro x hx
  obtain ⟨y, hy, rfl⟩ := List.mem_map.1 hx
  have := h y hy; omega
theorem nb_length (l : List Int) : (nb l).length = l.length := by simp [nb]
theorem nb_inj {a b : List Int} (ha : Byt a) (hb : Byt b) (h : nb a = nb b) : a = b := by
  induction a generalizing b with
  | nil => cases b with
    | nil => rfl
    | cons y b => simp [nb] at h
  | cons x a ih =>
    cases b with
    | nil => simp [nb] at h
    | cons y b =>
      simp only [nb, List.map_cons, List.cons.injEq] at h
      have h1 := ha x (by simp); have h2 := hb y (by simp)
      rw [ih (fun z hz => ha z (by simp [hz])) (fun z hz => hb z (by simp [hz])) h.2]
      congr 1; omega
/-- the check sum of bytes -/
def crc (l : List Int) : Nat := crcL 4294967295 (nb l) ^^^ 4294967295
theorem crc_lt {l : List Int} (h : Byt l) : crc l < 2 ^ 32 := xor_lt32 (crcL_lt (by decide) (nb_lt h)) (by decide)

theorem tab_rd : ∀ m : Nat, m < 16 → rd weight_Sum.tab (m : Int) = ((tab.getD m 0 : Nat) : Int) := by decide
theorem tab_lt : ∀ m : Nat, m < 16 → tab.getD m 0 < 2 ^ 32 := by decide
theorem wsum_h1 (s y : Nat) (hs : s < 2 ^ 32) (hy : y < 2 ^ 32) : weight_Sum.h1 (s : Int) (y : Int) = ((tab.getD ((s ^^^ y) % 16) 0 ^^^ s / 16 : Nat) : Int) := by
  unfold weight_Sum.h1
  have hm := Nat.mod_lt (s ^^^ y) (show 0 < 16 by omega)
  rw [bxor32 s y hs hy, band15 _ (xor_lt32 hs hy), tab_rd _ hm, show ((s : Int) / 16) = ((s / 16 : Nat) : Int) by omega, bxor32 _ _ (tab_lt _ hm) (by omega)]
theorem wsum_step (s : Nat) (x : Int) (hs : s < 2 ^ 32) (hx : 0 ≤ x ∧ x ≤ 255) : weight_Sum.step (s : Int) x = ((crcB s x.toNat : Nat) : Int) := by
  obtain ⟨y, rfl⟩ := Int.eq_ofNat_of_zero_le hx.1
  have hw : IntKind.u32.wrap (y : Int) = (y : Int) := by
    have : ∀ y : Int, IntKind.u32.wrap y = y % 4294967296 := by intro y; simp [IntKind.wrap, IntKind.bits, IntKind.signed]
    rw [this]; omega
  have hm := Nat.mod_lt (s ^^^ y) (show 0 < 16 by omega)
  unfold weight_Sum.step
  rw [hw, wsum_h1 s y hs (by omega), show ((y : Int) / 16) = ((y / 16 : Nat) : Int) by omega, wsum_h1 _ _ (xor_lt32 (tab_lt _ hm) (by omega)) (by omega), Int.toNat_natCast, crcB_tab s y (by omega)]
theorem wsum_piece (l : List Int) : ∀ (s : Nat), s < 2 ^ 32 → Byt l → weight_Sum.piece (s : Int) l = ((crcL s (nb l) : Nat) : Int) := by
  induction l with
  | nil => intro s _ _; rfl
  | cons x l ih =>
    intro s hs h
    have hx := h x (by simp)
    have e : weight_Sum.piece (s : Int) (x :: l) = weight_Sum.piece (weight_Sum.step (s : Int) x) l := rfl
    rw [e, wsum_step s x hs hx, ih _ (crcB_lt hs (by omega)) (fun y hy => h y (by simp [hy]))]
    rfl
theorem wsum_all (ls : List (List Int)) : ∀ (s : Nat), s < 2 ^ 32 → (∀ l ∈ ls, Byt l) → ls.foldl weight_Sum.piece (s : Int) = ((crcL s (nb ls.flatten) : Nat) : Int) := by
  induction ls with
  | nil => intro s _ _; rfl
  | cons l ls ih =>
    intro s hs h
    have hl := h l (by simp)
    rw [List.foldl_cons, wsum_piece l s hs hl, ih _ (crcL_lt hs (nb_lt hl)) (fun y hy => h y (by simp [hy])), List.flatten_cons, nb_append, crcL_append]
theorem wsum_eq (ls : List (List Int)) (hn : ls.length < 4611686018427387904) (hb : ∀ l ∈ ls, Byt l) (hl : ∀ l ∈ ls, l.length < 4611686018427387904) : weight_Sum.f ls = some ((crc ls.flatten : Nat) : Int) := by
  have hf : weight_Sum.fit ls = true := by
    unfold weight_Sum.fit
    rw [decide_eq_true hn, Bool.true_and, List.all_eq_true]
    exact fun l h => decide_eq_true (hl l h)
  have hbf : Byt ls.flatten := by
    intro x hx
    obtain ⟨l, h1, h2⟩ := List.mem_flatten.1 hx
    exact hb l h1 x h2
  unfold weight_Sum.f
  rw [if_pos hf]
  have h1 := wsum_all ls 4294967295 (by decide) hb
  have h2 := crcL_lt (l := nb ls.flatten) (s := 4294967295) (by decide) (nb_lt hbf)
  rw [show (4294967295 : Int) = ((4294967295 : Nat) : Int) from rfl, h1, bxor32 _ _ (by decide) h2, Nat.xor_comm]
  rfl

def bstN : Nat → Nat → Nat
  | 0, r => r
  | d + 1, r => bstN d (bst r)
theorem bstN_8 (r : Nat) : bstN 8 r = b8 r := rfl
theorem refsum_l1 (l : List Int) (i : Int) : ∀ (d k j r : Nat), j + d = 8 → r < 2 ^ 32 → pelotonref07_Sum.l1 (k + d + 1) l (r : Int) i j = pelotonref07_Sum.l0 k l ((bstN d r : Nat) : Int) (wrap64 (i + 1)) := by
  intro d
  induction d with
  | zero =>
    intro k j r hj hr
    simp only [pelotonref07_Sum.l1]
    rw [if_neg (by omega)]; rfl
  | succ d ih =>
    intro k j r hj hr
    have e1 : Int.tmod (r : Int) 2 = ((r % 2 : Nat) : Int) := by rw [Int.tmod_eq_emod_of_nonneg (by omega)]; omega
    have e2 : Int.tdiv (r : Int) 2 % 4294967296 = ((r / 2 : Nat) : Int) := by rw [Int.tdiv_eq_ediv_of_nonneg (by omega)]; omega
    have hb := bst_lt hr
    have ih' := ih k (j + 1) (bst r) (by omega) hb
    rw [show k + (d + 1) + 1 = (k + d + 1) + 1 by omega]
    generalize k + d + 1 = m at *
    simp only [pelotonref07_Sum.l1]
    rw [if_pos (by omega), e1, e2, show wrap64 ((j : Int) + 1) = ((j + 1 : Nat) : Int) by rw [wrap64_wf _ (by omega) (by omega)]; omega]
    by_cases hc : r % 2 = 1
    · have e3 : Go.bits .xor .u32 ((r / 2 : Nat) : Int) 3988292384 = ((bst r : Nat) : Int) := by
        have := bxor32 (r / 2) 3988292384 (by omega) (by decide)
        rw [show (3988292384 : Int) = ((3988292384 : Nat) : Int) from rfl, this]
        unfold bst; rw [if_pos hc]
      rw [if_pos (by omega), e3, ih']; rfl
    · have e3 : ((r / 2 : Nat) : Int) = ((bst r : Nat) : Int) := by unfold bst; rw [if_neg hc]
      rw [if_neg (by omega), e3, ih']; rfl
theorem refsum_l0 (l : List Int) (hl : l.length ≤ 9223372036854775807) (hb : Byt l) : ∀ (d k i s : Nat), i + d = l.length → s < 2 ^ 32 → 10 * d < k →
    pelotonref07_Sum.l0 k l (s : Int) i = some ((crcL s (nb (l.drop i)) ^^^ 4294967295 : Nat) : Int) := by
  intro d
  induction d with
  | zero =>
    intro k i s hi hs hk
    obtain ⟨k, rfl⟩ : ∃ m, k = m + 1 := ⟨k - 1, by omega⟩
    simp only [pelotonref07_Sum.l0]
    rw [if_neg (by omega), List.drop_of_length_le (by omega)]
    have := bxor32 s 4294967295 hs (by decide)
    rw [show (4294967295 : Int) = ((4294967295 : Nat) : Int) from rfl, this]; rfl
  | succ d ih =>
    intro k i s hi hs hk
    obtain ⟨k, rfl⟩ : ∃ m, k = (m + 8 + 1) + 1 := ⟨k - 10, by omega⟩
    have hx := hb _ (rd_mem l i (by omega))
    simp only [pelotonref07_Sum.l0]
    rw [if_pos (by omega), if_pos (by omega)]
    have e1 : Go.bits .xor .u32 (s : Int) (rd l (i : Int) % 4294967296) = ((s ^^^ (rd l (i : Int)).toNat : Nat) : Int) := by
      rw [show rd l (i : Int) % 4294967296 = (((rd l (i : Int)).toNat : Nat) : Int) by omega]
      exact bxor32 _ _ hs (by omega)
    rw [e1]
    have h8 := refsum_l1 l i 8 k 0 (s ^^^ (rd l (i : Int)).toNat) rfl (xor_lt32 hs (by omega))
    rw [show ((0 : Nat) : Int) = 0 from rfl] at h8
    rw [h8, bstN_8, next i _ (show i < l.length by omega) hl]
    have hB : b8 (s ^^^ (rd l (i : Int)).toNat) = crcB s (rd l (i : Int)).toNat := rfl
    rw [hB, ih k (i + 1) _ (by omega) (crcB_lt hs (by omega)) (by omega), drop_cons l i (by omega)]
    rfl
theorem refsum_eq (l : List Int) (hl : l.length ≤ 9223372036854775807) (hb : Byt l) (k : Nat) (hk : 10 * l.length < k) : pelotonref07_Sum.f k l = some ((crc l : Nat) : Int) := by
  have := refsum_l0 l hl hb l.length k 0 4294967295 (by omega) (by decide) hk
  simpa [pelotonref07_Sum.f, crc] using this

theorem str_list (a : List Int) : (strOfNums a).toList = a.map fun n => UInt8.ofNat n.toNat := by
  rw [show (strOfNums a).toList = (strOfNums a).data.toList from Go.ByteArray.toList_eq _]; rfl
theorem str_eq {a b : List Int} (ha : Byt a) (hb : Byt b) : (strOfNums a).toList = (strOfNums b).toList ↔ a = b := by
  rw [str_list, str_list]
  constructor
  · intro h
    have key : ∀ l : List Int, Byt l → (l.map fun n => UInt8.ofNat n.toNat).map (fun u : UInt8 => (u.toNat : Int)) = l := by
      intro l hl
      rw [List.map_map]
      conv => rhs; rw [← List.map_id l]
      apply List.map_congr_left
      intro x hx
      have := hl x hx
      simp only [Function.comp, id_eq, UInt8.toNat_ofNat']
      omega
    rw [← key a ha, ← key b hb, h]
  · intro h; rw [h]
theorem str_beq {a b : List Int} (ha : Byt a) (hb : Byt b) : ((strOfNums a).toList == (strOfNums b).toList) = decide (a = b) := by
  by_cases h : a = b
  · rw [decide_eq_true h, h]; simp
  · rw [decide_eq_false h]; exact beq_eq_false_iff_ne.2 (fun e => h ((str_eq ha hb).1 e))
theorem Byt.append {a b : List Int} (ha : Byt a) (hb : Byt b) : Byt (a ++ b) := by
  intro x hx
  rcases List.mem_append.1 hx with h | h
  · exact ha x h
  · exact hb x h
theorem Byt.take {a : List Int} (ha : Byt a) (n : Nat) : Byt (a.take n) := fun x hx => ha x (List.mem_of_mem_take hx)
theorem Byt.drop {a : List Int} (ha : Byt a) (n : Nat) : Byt (a.drop n) := fun x hx => ha x (List.mem_of_mem_drop hx)
theorem Byt.left {a b : List Int} (h : Byt (a ++ b)) : Byt a := fun x hx => h x (List.mem_append.2 (Or.inl hx))
theorem Byt.right {a b : List Int} (h : Byt (a ++ b)) : Byt b := fun x hx => h x (List.mem_append.2 (Or.inr hx))

def be4 (n : Nat) : List Int := [((n / 16777216 % 256 : Nat) : Int), ((n / 65536 % 256 : Nat) : Int), ((n / 256 % 256 : Nat) : Int), ((n % 256 : Nat) : Int)]
theorem be4_length (n : Nat) : (be4 n).length = 4 := rfl
theorem be4_byt (n : Nat) : Byt (be4 n) := by
  intro x hx
  simp only [be4, List.mem_cons, List.not_mem_nil, or_false] at hx
  rcases hx with rfl | rfl | rfl | rfl <;> omega
theorem be4_inj {a b : Nat} (ha : a < 2 ^ 32) (hb : b < 2 ^ 32) (h : be4 a = be4 b) : a = b := by
  simp only [be4, List.cons.injEq, and_true] at h
  omega
def w4 (l : List Int) : Nat := (rd l 0).toNat * 16777216 + (rd l 1).toNat * 65536 + (rd l 2).toNat * 256 + (rd l 3).toNat
theorem w4_be4 (n : Nat) (h : n < 2 ^ 32) (t : List Int) : w4 (be4 n ++ t) = n := by
  have e0 : rd (be4 n ++ t) 0 = ((n / 16777216 % 256 : Nat) : Int) := rfl
  have e1 : rd (be4 n ++ t) 1 = ((n / 65536 % 256 : Nat) : Int) := rfl
  have e2 : rd (be4 n ++ t) 2 = ((n / 256 % 256 : Nat) : Int) := rfl
  have e3 : rd (be4 n ++ t) 3 = ((n % 256 : Nat) : Int) := rfl
  unfold w4
  rw [e0, e1, e2, e3]
  simp only [Int.toNat_natCast]
  omega
theorem be4_w4 (l : List Int) (hl : 4 ≤ l.length) (hb : Byt l) : be4 (w4 l) = l.take 4 := by
  match l, hl, hb with
  | a :: b :: c :: d :: l, _, hb =>
    have h0 := hb a (by simp); have h1 := hb b (by simp); have h2 := hb c (by simp); have h3 := hb d (by simp)
    have e : w4 (a :: b :: c :: d :: l) = a.toNat * 16777216 + b.toNat * 65536 + c.toNat * 256 + d.toNat := rfl
    rw [e]
    simp only [be4, List.take, List.cons.injEq, and_true]
    omega
theorem w4_lt (l : List Int) (hl : 4 ≤ l.length) (hb : Byt l) : w4 l < 2 ^ 32 := by
  match l, hl, hb with
  | a :: b :: c :: d :: l, _, hb =>
    have h0 := hb a (by simp); have h1 := hb b (by simp); have h2 := hb c (by simp); have h3 := hb d (by simp)
    have e : w4 (a :: b :: c :: d :: l) = a.toNat * 16777216 + b.toNat * 65536 + c.toNat * 256 + d.toNat := rfl
    rw [e]; omega

theorem four_eq (o : List Int) (n : Nat) (hn : n < 2 ^ 32) (ho : o.length + 4 < 140737488355328) : frame_four.f o (n : Int) = some (o ++ be4 n) := by
  unfold frame_four.f
  rw [Option.bind_some, if_pos (by simpa using ho)]
  congr 2 <;> (simp only [be4, List.cons.injEq, and_true]; try omega)

theorem reffour_eq (n : Nat) (hn : n < 2 ^ 32) : pelotonref14_four.f (n : Int) = some (be4 n) := by
  unfold pelotonref14_four.f
  have e1 : Int.tdiv (n : Int) 16777216 = ((n / 16777216 : Nat) : Int) := t_div n 16777216
  have e2 : Int.tdiv (n : Int) 65536 = ((n / 65536 : Nat) : Int) := t_div n 65536
  have e3 : Int.tdiv (n : Int) 256 = ((n / 256 : Nat) : Int) := t_div n 256
  rw [e1, e2, e3]
  congr 1
  simp only [be4, List.cons.injEq, and_true]
  try omega

def frH (k : Int) (l : List Int) : List Int := [80, 76, 1, k] ++ be4 l.length ++ l
def frL (k : Int) (l : List Int) : List Int := frH k l ++ be4 (crc (frH k l))
theorem frH_length (k : Int) (l : List Int) : (frH k l).length = l.length + 8 := by simp [frH, be4_length]; omega
theorem frL_length (k : Int) (l : List Int) : (frL k l).length = l.length + 12 := by simp [frL, frH_length, be4_length]
theorem frH_byt {k : Int} {l : List Int} (hk : 0 ≤ k ∧ k ≤ 255) (hl : Byt l) : Byt (frH k l) := by
  refine Byt.append (Byt.append ?_ (be4_byt _)) hl
  intro x hx
  simp only [List.mem_cons, List.not_mem_nil, or_false] at hx
  rcases hx with rfl | rfl | rfl | rfl <;> omega
theorem frL_byt {k : Int} {l : List Int} (hk : 0 ≤ k ∧ k ≤ 255) (hl : Byt l) : Byt (frL k l) := Byt.append (frH_byt hk hl) (be4_byt _)

theorem pack_eq (k : Int) (l : List Int) (hk : 0 ≤ k ∧ k ≤ 255) (hb : Byt l) (hl : l.length ≤ 1048576) : frame_Pack.f k l = some (frL k l, 0) := by
  unfold frame_Pack.f
  have e0 : (l.length : Int) % 4294967296 = (l.length : Int) := by omega
  rw [if_neg (by omega), e0, four_eq _ _ (by omega) (by simp), Option.bind_some, if_pos (by simp [be4_length]; omega)]
  have e : [80, 76, 1, k] ++ be4 l.length ++ l = frH k l := rfl
  have hh := frH_byt hk hb
  have hlen := frH_length k l
  rw [e, wsum_eq [frH k l] (by simp) (fun x hx => by rw [List.mem_singleton.1 hx]; exact hh) (fun x hx => by rw [List.mem_singleton.1 hx]; omega), Option.bind_some]
  simp only [List.flatten_cons, List.flatten_nil, List.append_nil]
  rw [four_eq _ _ (crc_lt hh) (by omega)]
  rfl

theorem refpack_eq (K : Nat) (k : Int) (l : List Int) (hk : 0 ≤ k ∧ k ≤ 255) (hb : Byt l) (hl : l.length ≤ 1048576) (hK : 10 * l.length + 100 < K) : pelotonref14_Pack.f K k l = some (frL k l) := by
  unfold pelotonref14_Pack.f
  have e0 : (l.length : Int) % 4294967296 = (l.length : Int) := by omega
  have hh := frH_byt hk hb
  have hlen := frH_length k l
  rw [Option.bind_some, e0, reffour_eq _ (by omega), Option.bind_some, if_pos (by simp [be4_length]), Option.bind_some, if_pos (by simp [be4_length]; omega), Option.bind_some]
  have e : [80, 76, 1, k] ++ be4 l.length ++ l = frH k l := rfl
  rw [e, refsum_eq _ (by omega) hh K (by omega), Option.bind_some, reffour_eq _ (crc_lt hh), Option.bind_some, if_pos (by rw [be4_length]; omega)]
  rfl

theorem restl (a : Int) (n : Nat) (h0 : 0 < n) (hn : n ≤ 4611686018427387904) : ∃ i : Nat, Int.tmod (wrap64 ((Int.tmod a (n : Int)) + (n : Int))) (n : Int) = (i : Int) ∧ i < n := by
  have hb : -(n : Int) < Int.tmod a (n : Int) ∧ Int.tmod a (n : Int) < (n : Int) := by
    have h1 := Int.emod_nonneg a (show (n : Int) ≠ 0 by omega)
    have h2 := Int.emod_lt_of_pos a (show (0 : Int) < (n : Int) by omega)
    rw [Int.tmod_eq_emod]; split <;> omega
  generalize Int.tmod a (n : Int) = z at *
  rw [wrap64_wf _ (by omega) (by omega), Int.tmod_eq_emod_of_nonneg (by omega)]
  have h1 := Int.emod_nonneg (z + n) (show (n : Int) ≠ 0 by omega)
  have h2 := Int.emod_lt_of_pos (z + n) (show (0 : Int) < (n : Int) by omega)
  exact ⟨((z + n) % (n : Int)).toNat, by omega, by omega⟩

def letter (i : Int) : Int := if i = 0 then 101 else if i = 1 then 114 else if i = 2 then 112 else if i = 3 then 108 else if i = 4 then 115 else if i = 5 then 116 else 107
def hasF (f : ByteArray) (c : Int) : Nat → Int → Bool
  | 0, _ => false
  | m + 1, j => if bt f j = c then true else hasF f c m (j + 1)
def hasS (f : ByteArray) (c : Int) : Bool := hasF f c f.size 0
def formS (a0 : Int) : ByteArray := if a0 = 1 ∨ a0 = 4 then ⟨#[101, 114, 112, 107]⟩ else if a0 = 2 then ⟨#[101, 114, 112, 108, 43]⟩ else if a0 = 3 then ⟨#[101, 114, 112, 108, 115, 116, 43]⟩ else if a0 = 5 ∨ a0 = 7 then ⟨#[101, 115, 116]⟩ else if a0 = 6 then ⟨#[101]⟩ else if a0 = 8 then ⟨#[101, 114, 116]⟩ else if a0 = 9 then ⟨#[114, 107, 43]⟩ else if a0 = 10 then ⟨#[114]⟩ else if a0 = 11 then ⟨#[114, 107]⟩ else if a0 = 12 then ⟨#[114, 112, 107]⟩ else if a0 = 13 then ⟨#[114, 112]⟩ else ⟨#[]⟩
theorem kinds15 (a0 : Int) : (a0 = 1 ∨ a0 = 2 ∨ a0 = 3 ∨ a0 = 4 ∨ a0 = 5 ∨ a0 = 6 ∨ a0 = 7 ∨ a0 = 8 ∨ a0 = 9 ∨ a0 = 10 ∨ a0 = 11 ∨ a0 = 12 ∨ a0 = 13) ∨ (a0 ≠ 1 ∧ a0 ≠ 2 ∧ a0 ≠ 3 ∧ a0 ≠ 4 ∧ a0 ≠ 5 ∧ a0 ≠ 6 ∧ a0 ≠ 7 ∧ a0 ≠ 8 ∧ a0 ≠ 9 ∧ a0 ≠ 10 ∧ a0 ≠ 11 ∧ a0 ≠ 12 ∧ a0 ≠ 13) := by omega
theorem no_form (a0 : Int) (h : a0 ≠ 1 ∧ a0 ≠ 2 ∧ a0 ≠ 3 ∧ a0 ≠ 4 ∧ a0 ≠ 5 ∧ a0 ≠ 6 ∧ a0 ≠ 7 ∧ a0 ≠ 8 ∧ a0 ≠ 9 ∧ a0 ≠ 10 ∧ a0 ≠ 11 ∧ a0 ≠ 12 ∧ a0 ≠ 13) : formS a0 = ⟨#[]⟩ := by
  obtain ⟨h1, h2, h3, h4, h5, h6, h7, h8, h9, h10, h11, h12, h13⟩ := h
  simp [formS, h1, h2, h3, h4, h5, h6, h7, h8, h9, h10, h11, h12, h13]
theorem form_size (a0 : Int) : (formS a0).size ≤ 7 := by
  rcases kinds15 a0 with h | h
  · rcases h with rfl | rfl | rfl | rfl | rfl | rfl | rfl | rfl | rfl | rfl | rfl | rfl | rfl <;> decide
  · rw [no_form a0 h]; decide

theorem form_eq (k : Nat) (a0 : Int) : pelotonref15_Form.f (k + 2) a0 = some (formS a0) := by
  rcases kinds15 a0 with h | h
  · rcases h with rfl | rfl | rfl | rfl | rfl | rfl | rfl | rfl | rfl | rfl | rfl | rfl | rfl <;> rfl
  · rw [no_form a0 h]
    obtain ⟨h1, h2, h3, h4, h5, h6, h7, h8, h9, h10, h11, h12, h13⟩ := h
    simp [pelotonref15_Form.f, pelotonref15_Form.j0, pelotonref15_Form.j1, h1, h2, h3, h4, h5, h6, h7, h8, h9, h10, h11, h12, h13]

theorem has_loop (f : ByteArray) (c : Int) (hf : f.size ≤ 100) : ∀ (m k j : Nat), j + m = f.size → m < k → pelotonref15_has.l0 k f c (j : Int) = some (hasF f c m (j : Int)) := by
  intro m
  induction m with
  | zero =>
    intro k j hj hk
    obtain ⟨k, rfl⟩ : ∃ x, k = x + 1 := ⟨k - 1, by omega⟩
    simp only [pelotonref15_has.l0, hasF]
    rw [if_neg (by omega)]
  | succ m ih =>
    intro k j hj hk
    obtain ⟨k, rfl⟩ : ∃ x, k = x + 1 := ⟨k - 1, by omega⟩
    simp only [pelotonref15_has.l0, hasF]
    rw [if_pos (by omega), if_pos (by omega)]
    by_cases h : bt f (j : Int) = c
    · rw [if_pos h, if_pos h]
    · rw [if_neg h, if_neg h, next j 1000 (by omega) (by omega), ih k (j + 1) (by omega) (by omega)]
      rw [show ((j + 1 : Nat) : Int) = (j : Int) + 1 by omega]
theorem has_eq (f : ByteArray) (c : Int) (hf : f.size ≤ 100) (k : Nat) (hk : f.size < k) : pelotonref15_has.f k f c = some (hasS f c) := by
  unfold pelotonref15_has.f hasS
  exact has_loop f c hf f.size k 0 (by omega) hk

theorem bits_has (a0 : Int) (hok : msg_of.ok a0 = true) (i : Int) (h0 : 0 ≤ i) (h1 : i < 7) : (msg_bit (msg_of.bits a0) i == 0) = !hasS (formS a0) (letter i) := by
  have hi : i = 0 ∨ i = 1 ∨ i = 2 ∨ i = 3 ∨ i = 4 ∨ i = 5 ∨ i = 6 := by omega
  rcases kinds15 a0 with h | h
  · rcases h with rfl | rfl | rfl | rfl | rfl | rfl | rfl | rfl | rfl | rfl | rfl | rfl | rfl <;> rcases hi with rfl | rfl | rfl | rfl | rfl | rfl | rfl <;> decide +kernel
  · obtain ⟨h1, h2, h3, h4, h5, h6, h7, h8, h9, h10, h11, h12, h13⟩ := h
    simp [msg_of.ok, msg_of.T, h1, h2, h3, h4, h5, h6, h7, h8, h9, h10, h11, h12, h13] at hok
theorem lst_has (a0 : Int) (hok : msg_of.ok a0 = true) : msg_of.lst a0 = hasS (formS a0) 43 := by
  rcases kinds15 a0 with h | h
  · rcases h with rfl | rfl | rfl | rfl | rfl | rfl | rfl | rfl | rfl | rfl | rfl | rfl | rfl <;> decide +kernel
  · obtain ⟨h1, h2, h3, h4, h5, h6, h7, h8, h9, h10, h11, h12, h13⟩ := h
    simp [msg_of.ok, msg_of.T, h1, h2, h3, h4, h5, h6, h7, h8, h9, h10, h11, h12, h13] at hok
theorem ok_form (a0 : Int) : msg_of.ok a0 = true ↔ (formS a0).toList ≠ [] := by
  rcases kinds15 a0 with h | h
  · rcases h with rfl | rfl | rfl | rfl | rfl | rfl | rfl | rfl | rfl | rfl | rfl | rfl | rfl <;> exact ⟨fun _ => by decide +kernel, fun _ => by decide +kernel⟩
  · rw [no_form a0 h]
    obtain ⟨h1, h2, h3, h4, h5, h6, h7, h8, h9, h10, h11, h12, h13⟩ := h
    simp [msg_of.ok, msg_of.T, h1, h2, h3, h4, h5, h6, h7, h8, h9, h10, h11, h12, h13]
def oneS (f : ByteArray) (i x : Int) : Bool := decide (0 ≤ x) && decide (x < 1099511627776) && (decide (x = 0) || hasS f (letter i))
def goodS (f : ByteArray) (N : Int → Int) : Nat → Int → Bool
  | 0, _ => true
  | m + 1, i => oneS f i (N i) && goodS f N m (i + 1)
def rightS (a0 : Int) (N : Int → Int) (l : List Int) : Bool := msg_of.ok a0 && decide ((l.length : Int) ≤ 4096) && (decide ((l.length : Int) ≤ 0) || msg_of.lst a0) && goodS (formS a0) N 7 0

theorem one_eq (a0 : Int) (hok : msg_of.ok a0 = true) (i x : Int) (h0 : 0 ≤ i) (h1 : i < 7) : msg_wrong.one (msg_of.bits a0) i x = !oneS (formS a0) i x := by
  unfold msg_wrong.one oneS
  rw [bits_has a0 hok i h0 h1]
  by_cases c1 : x < 0
  · rw [decide_eq_true c1, decide_eq_false (show ¬ 0 ≤ x by omega)]; rfl
  · by_cases c2 : x < 1099511627776
    · rw [decide_eq_false c1, decide_eq_false (show ¬ x ≥ 1099511627776 by omega), decide_eq_true c2, decide_eq_true (show 0 ≤ x by omega)]
      by_cases c3 : x = 0
      · subst c3; simp
      · simp [c3]
    · rw [decide_eq_true (show x ≥ 1099511627776 by omega), decide_eq_false c2]; simp
theorem bad_eq (a0 : Int) (hok : msg_of.ok a0 = true) (N : Int → Int) : ∀ (m : Nat) (i : Int), 0 ≤ i → i + m = 7 → msg_wrong.bad (msg_of.bits a0) N m i = !goodS (formS a0) N m i := by
  intro m
  induction m with
  | zero => intro i _ _; rfl
  | succ m ih =>
    intro i h0 h1
    simp only [msg_wrong.bad, goodS]
    rw [one_eq a0 hok i _ h0 (by omega), ih (i + 1) (by omega) (by omega)]
    cases oneS (formS a0) i (N i) <;> simp
theorem wrong_eq (a0 a1 a2 a3 a4 a5 a6 a7 : Int) (l : List Int) (hw : (Lit.int .i64 a0).wf = true) : msg_wrong.f a0 a1 a2 a3 a4 a5 a6 a7 l = some (!rightS a0 (msg_num a1 a2 a3 a4 a5 a6 a7) l) := by
  unfold msg_wrong.f rightS
  rw [if_pos hw]
  by_cases h1 : msg_of.ok a0 = true
  · rw [if_pos h1, h1]
    by_cases h2 : (l.length : Int) > 4096
    · rw [if_pos h2, decide_eq_false (show ¬ (l.length : Int) ≤ 4096 by omega)]; rfl
    · rw [if_neg h2, decide_eq_true (show (l.length : Int) ≤ 4096 by omega)]
      by_cases h3 : (l.length : Int) > 0 ∧ msg_of.lst a0 = false
      · rw [if_pos h3, decide_eq_false (show ¬ (l.length : Int) ≤ 0 by omega), h3.2]; rfl
      · rw [if_neg h3, bad_eq a0 h1 _ 7 0 (by omega) (by omega)]
        have : (decide ((l.length : Int) ≤ 0) || msg_of.lst a0) = true := by
          by_cases h4 : (l.length : Int) ≤ 0
          · rw [decide_eq_true h4]; rfl
          · have : msg_of.lst a0 = true := by
              cases h5 : msg_of.lst a0 with
              | true => rfl
              | false => exact absurd ⟨by omega, h5⟩ h3
            rw [this]; simp
        rw [this]; rfl
  · rw [if_neg h1]
    have : msg_of.ok a0 = false := by simpa using h1
    rw [this]; rfl

theorem num_eq (a0 a1 a2 a3 a4 a5 a6 a7 : Int) (l : List Int) (i : Int) (h0 : 0 ≤ i) (h1 : i < 7) : pelotonref15_Num.f a0 a1 a2 a3 a4 a5 a6 a7 l (bt ⟨#[101, 114, 112, 108, 115, 116, 107]⟩ i) = some (msg_num a1 a2 a3 a4 a5 a6 a7 i) ∧ bt ⟨#[101, 114, 112, 108, 115, 116, 107]⟩ i = letter i := by
  have hi : i = 0 ∨ i = 1 ∨ i = 2 ∨ i = 3 ∨ i = 4 ∨ i = 5 ∨ i = 6 := by omega
  rcases hi with rfl | rfl | rfl | rfl | rfl | rfl | rfl <;> exact ⟨rfl, by decide +kernel⟩
theorem right_loop (f : ByteArray) (hf : f.size ≤ 100) (a0 a1 a2 a3 a4 a5 a6 a7 : Int) (l : List Int) : ∀ (m k i : Nat), i + m = 7 → f.size + m < k → pelotonref15_Right.l0 k f ⟨#[101, 114, 112, 108, 115, 116, 107]⟩ (i : Int) a0 a1 a2 a3 a4 a5 a6 a7 l = some (goodS f (msg_num a1 a2 a3 a4 a5 a6 a7) m (i : Int)) := by
  intro m
  induction m with
  | zero =>
    intro k i hi hk
    obtain ⟨k, rfl⟩ : ∃ x, k = x + 1 := ⟨k - 1, by omega⟩
    simp only [pelotonref15_Right.l0, goodS]
    rw [if_neg (by show ¬ (i : Int) < ((7 : Nat) : Int); omega)]
  | succ m ih =>
    intro k i hi hk
    obtain ⟨k, rfl⟩ : ∃ x, k = x + 1 := ⟨k - 1, by omega⟩
    have hn := num_eq a0 a1 a2 a3 a4 a5 a6 a7 l (i : Int) (by omega) (by omega)
    simp only [pelotonref15_Right.l0, goodS]
    rw [if_pos (by show (i : Int) < ((7 : Nat) : Int); omega), if_pos (by omega), hn.1, Option.bind_some, hn.2, has_eq f _ hf k (by omega), Option.bind_some, next i 1000 (by omega) (by omega), ih k (i + 1) (by omega) (by omega), show ((i + 1 : Nat) : Int) = (i : Int) + 1 by omega]
    generalize msg_num a1 a2 a3 a4 a5 a6 a7 (i : Int) = x
    unfold oneS
    by_cases c1 : x < 0
    · rw [if_pos c1, decide_eq_false (show ¬ 0 ≤ x by omega)]; rfl
    · rw [if_neg c1, decide_eq_true (show 0 ≤ x by omega)]
      by_cases c2 : x < 1099511627776
      · rw [if_neg (by omega), decide_eq_true c2]
        by_cases c3 : x = 0
        · rw [if_neg (by omega), decide_eq_true c3]; simp
        · rw [if_pos (by omega), decide_eq_false c3]
          cases hasS f (letter (i : Int)) <;> simp
      · rw [if_pos (by omega), decide_eq_false c2]; rfl
theorem refright_eq (a0 a1 a2 a3 a4 a5 a6 a7 : Int) (l : List Int) (k : Nat) (hk : 30 ≤ k) : pelotonref15_Right.f k a0 a1 a2 a3 a4 a5 a6 a7 l = some (rightS a0 (msg_num a1 a2 a3 a4 a5 a6 a7) l) := by
  have hf := form_size a0
  obtain ⟨k, rfl⟩ : ∃ x, k = x + 2 := ⟨k - 2, by omega⟩
  unfold pelotonref15_Right.f rightS
  rw [form_eq, Option.bind_some]
  by_cases h1 : msg_of.ok a0 = true
  · rw [if_neg ((ok_form a0).1 h1), h1, lst_has a0 h1]
    by_cases h2 : (l.length : Int) > 4096
    · rw [if_pos h2, decide_eq_false (show ¬ (l.length : Int) ≤ 4096 by omega)]; rfl
    · rw [if_neg h2, decide_eq_true (show (l.length : Int) ≤ 4096 by omega)]
      have hl := right_loop (formS a0) (by omega) a0 a1 a2 a3 a4 a5 a6 a7 l 7 (k + 1) 0 (by omega) (by omega)
      by_cases h3 : (l.length : Int) > 0
      · rw [if_pos h3, decide_eq_false (show ¬ (l.length : Int) ≤ 0 by omega), has_eq _ _ (by omega) (k + 2) (by omega), Option.bind_some]
        cases hasS (formS a0) 43 with
        | false => rfl
        | true =>
          simp only [pelotonref15_Right.j0]
          exact hl
      · rw [if_neg h3, decide_eq_true (show (l.length : Int) ≤ 0 by omega)]
        simp only [pelotonref15_Right.j0]
        exact hl
  · have h0 : msg_of.ok a0 = false := by simpa using h1
    rw [if_pos (by
      by_cases h : (formS a0).toList = []
      · exact h
      · exact absurd ((ok_form a0).2 h) h1), h0]
    rfl

theorem mright_eq (a0 a1 a2 a3 a4 a5 a6 a7 : Int) (l : List Int) (hw : (Lit.int .i64 a0).wf = true) (k : Nat) : msg_Right.f (k + 3) [(⟨a0, a1, a2, a3, a4, a5, a6, a7, l⟩ : S24)] = some (rightS a0 (msg_num a1 a2 a3 a4 a5 a6 a7) l) := by
  unfold msg_Right.f api_Msg_26_at_msg_wrong.f api_Msg_36_at_msg_wrong.f
  simp only [api_Msg_36_at_msg_wrong.l0, rd_T24, List.length_singleton]
  rw [if_pos (by omega), if_pos (by omega), if_pos (by omega)]
  show (((msg_wrong.f a0 a1 a2 a3 a4 a5 a6 a7 l).bind _).bind _).bind _ = _
  rw [wrong_eq _ _ _ _ _ _ _ _ _ hw, Option.bind_some, show wrap64 ((0 : Int) + 1) = 1 from by unfold wrap64; omega]
  cases rightS a0 (msg_num a1 a2 a3 a4 a5 a6 a7) l <;> rfl

theorem five_byt (x : Int) : Byt (msg_Bytes.five x) := by
  intro y hy
  simp only [msg_Bytes.five, List.mem_cons, List.not_mem_nil, or_false] at hy
  rcases hy with rfl | rfl | rfl | rfl | rfl <;> omega
theorem four_byt (x : Int) : Byt (msg_Bytes.four x) := by
  intro y hy
  simp only [msg_Bytes.four, List.mem_cons, List.not_mem_nil, or_false] at hy
  rcases hy with rfl | rfl | rfl | rfl <;> omega
theorem nums_byt (b : Int) (N : Int → Int) : ∀ (m : Nat) (i : Int) (xs : List Int), Byt xs → Byt (msg_Bytes.nums b N m i xs) ∧ (msg_Bytes.nums b N m i xs).length ≤ xs.length + 5 * m := by
  intro m
  induction m with
  | zero => intro i xs h; exact ⟨h, by simp [msg_Bytes.nums]⟩
  | succ m ih =>
    intro i xs h
    simp only [msg_Bytes.nums]
    by_cases c : msg_bit b i = 1
    · rw [if_pos c]
      have h2 := ih (i + 1) (xs ++ msg_Bytes.five (N i)) (Byt.append h (five_byt _))
      refine ⟨h2.1, Nat.le_trans h2.2 ?_⟩
      simp only [List.length_append, msg_Bytes.five, List.length_cons, List.length_nil]
      omega
    · rw [if_neg c]
      have h2 := ih (i + 1) xs h
      exact ⟨h2.1, by omega⟩
theorem lst_byt (l : List Int) : ∀ (m : Nat) (i : Int) (xs : List Int), Byt xs → Byt (msg_Bytes.lst l m i xs) ∧ (msg_Bytes.lst l m i xs).length ≤ xs.length + 4 * m := by
  intro m
  induction m with
  | zero => intro i xs h; exact ⟨h, by simp [msg_Bytes.lst]⟩
  | succ m ih =>
    intro i xs h
    simp only [msg_Bytes.lst]
    have h2 := ih (i + 1) (xs ++ msg_Bytes.four (rd l i)) (Byt.append h (four_byt _))
    refine ⟨h2.1, Nat.le_trans h2.2 ?_⟩
    simp only [List.length_append, msg_Bytes.four, List.length_cons, List.length_nil]
    omega
theorem body_byt (a0 : Int) (N : Int → Int) (l : List Int) (hl : (l.length : Int) ≤ 4096) : Byt (msg_Bytes.body a0 N l) ∧ (msg_Bytes.body a0 N l).length ≤ 20000 := by
  have h1 := nums_byt (msg_of.bits a0) N 7 0 [] (fun x hx => by simp at hx)
  unfold msg_Bytes.body
  by_cases c : msg_of.lst a0 = true
  · rw [if_pos c]
    have h2 := lst_byt l l.length 0 (msg_Bytes.nums (msg_of.bits a0) N 7 0 [] ++ [((l.length : Int) / 256) % 256, (l.length : Int) % 256]) (Byt.append h1.1 (fun x hx => by
      simp only [List.mem_cons, List.not_mem_nil, or_false] at hx
      rcases hx with rfl | rfl <;> omega))
    refine ⟨h2.1, Nat.le_trans h2.2 ?_⟩
    simp only [List.length_append, List.length_cons, List.length_nil] at *
    omega
  · rw [if_neg c]
    exact ⟨h1.1, by have := h1.2; simp only [List.length_nil] at this; omega⟩
theorem right_kind {a0 : Int} {N : Int → Int} {l : List Int} (h : rightS a0 N l = true) : msg_of.ok a0 = true ∧ (l.length : Int) ≤ 4096 ∧ 0 ≤ a0 ∧ a0 ≤ 255 := by
  simp only [rightS, Bool.and_eq_true, decide_eq_true_eq] at h
  refine ⟨h.1.1.1, h.1.1.2, ?_⟩
  rcases kinds15 a0 with hk | hk
  · omega
  · have := (ok_form a0).1 h.1.1.1
    rw [no_form a0 hk] at this
    exact absurd (by decide +kernel) this
theorem bytes_eq (a0 a1 a2 a3 a4 a5 a6 a7 : Int) (l : List Int) (hw : (Lit.int .i64 a0).wf = true) : msg_Bytes.f a0 a1 a2 a3 a4 a5 a6 a7 l = some (if rightS a0 (msg_num a1 a2 a3 a4 a5 a6 a7) l = true then (frL a0 (msg_Bytes.body a0 (msg_num a1 a2 a3 a4 a5 a6 a7) l), 0) else ([], 150)) := by
  unfold msg_Bytes.f
  rw [wrong_eq _ _ _ _ _ _ _ _ _ hw, Option.bind_some]
  cases h : rightS a0 (msg_num a1 a2 a3 a4 a5 a6 a7) l with
  | false => rfl
  | true =>
    have hk := right_kind h
    have hb := body_byt a0 (msg_num a1 a2 a3 a4 a5 a6 a7) l hk.2.1
    rw [if_neg (by simp), if_pos rfl, Int.emod_eq_of_lt hk.2.2.1 (by omega), pack_eq _ _ hk.2.2 hb.1 (by omega)]

theorem awake15_ok (k : Nat) (hk : 400 ≤ k) : pelotonlaw15_awake.f k = some true := by
  have hb : msg_Bytes.body 5 (msg_num 3 0 0 0 1 2 0) [] = [0, 0, 0, 0, 3, 0, 0, 0, 0, 1, 0, 0, 0, 0, 2] := by decide +kernel
  have hB : Byt ([0, 0, 0, 0, 3, 0, 0, 0, 0, 1, 0, 0, 0, 0, 2] : List Int) := by
    intro x hx
    simp only [List.mem_cons, List.not_mem_nil, or_false] at hx
    omega
  unfold pelotonlaw15_awake.f
  rw [bytes_eq _ _ _ _ _ _ _ _ _ (by decide), if_pos (by decide +kernel), hb, Option.bind_some, if_pos rfl, refpack_eq k 5 _ (by omega) hB (by simp) (by simp; omega), Option.bind_some]
  simp

theorem clone_eq (a0 a1 a2 a3 a4 a5 a6 a7 : Int) (l : List Int) (hl : l.length < 35184372088832) : msg_Clone.f a0 a1 a2 a3 a4 a5 a6 a7 l = some (a0, a1, a2, a3, a4, a5, a6, a7, l) := by
  unfold msg_Clone.f slices_Clone_int32_int32.f
  simp only [Option.bind_some, List.length_nil, List.nil_append]
  rw [if_pos (by omega), Option.bind_some]

def wantS (f : ByteArray) (i n : Int) : Bool := if n = 0 then true else hasS f (letter i) && (decide (n > 0) && decide (n < 1099511627776))
theorem want_eq (f : ByteArray) (i n : Int) : wantS f i n = oneS f i n := by
  unfold wantS oneS
  by_cases h : n = 0
  · subst h; simp
  · rw [if_neg h, decide_eq_false h, Bool.false_or, Bool.and_comm]
    congr 2
    exact decide_eq_decide.2 (by omega)
theorem forms_loop (f : ByteArray) (hf : f.size ≤ 100) (n : Int) (kk : Nat) (hk7 : kk < 7) (a0 b1 b2 b3 b4 b5 b6 b7 : Int) (l : List Int) (hw : (Lit.int .i64 a0).wf = true) (acc : Bool) (hfin : rightS a0 (msg_num b1 b2 b3 b4 b5 b6 b7) l = if n = 0 then true else acc && (decide (n > 0) && decide (n < 1099511627776))) :
    ∀ (m k j : Nat) (x : Bool), j + m = f.size → m + 20 ≤ k → (x || hasF f (letter kk) m j) = acc → pelotonlaw15_MsgForms.l0 k n ⟨#[101, 114, 112, 108, 115, 116, 107]⟩ (kk : Int) x f (j : Int) a0 b1 b2 b3 b4 b5 b6 b7 l = some true := by
  intro m
  induction m with
  | zero =>
    intro k j x hj hk ha
    obtain ⟨k, rfl⟩ : ∃ y, k = y + 3 + 1 := ⟨k - 4, by omega⟩
    simp only [pelotonlaw15_MsgForms.l0]
    rw [if_neg (by omega), bytes_eq _ _ _ _ _ _ _ _ _ hw]
    simp only [mright_eq _ _ _ _ _ _ _ _ _ hw, Option.bind_some]
    simp only [hasF, Bool.or_false] at ha
    subst ha
    rw [hfin]
    by_cases h0 : n = 0
    · rw [if_pos h0, if_pos h0]; rfl
    · rw [if_neg h0, if_neg h0]
      cases x with
      | false => rw [if_neg (by simp)]; rfl
      | true =>
        rw [if_pos rfl]
        by_cases h1 : n > 0
        · rw [if_pos h1, decide_eq_true h1]
          by_cases h2 : n < 1099511627776
          · rw [decide_eq_true h2]; rfl
          · rw [decide_eq_false h2]; rfl
        · rw [if_neg h1, decide_eq_false h1]; rfl
  | succ m ih =>
    intro k j x hj hk ha
    obtain ⟨k, rfl⟩ : ∃ y, k = y + 1 := ⟨k - 1, by omega⟩
    simp only [pelotonlaw15_MsgForms.l0]
    rw [if_pos (by omega), next j 1000 (by omega) (by omega)]
    cases x with
    | true =>
      rw [if_pos rfl]
      exact ih k (j + 1) true (by omega) (by omega) (by rw [← ha]; rfl)
    | false =>
      rw [if_neg (by simp), if_pos (by omega), if_pos (by omega), if_pos (by show (kk : Int) < ((7 : Nat) : Int); omega), (num_eq 0 0 0 0 0 0 0 0 [] (kk : Int) (by omega) (by omega)).2]
      refine ih k (j + 1) _ (by omega) (by omega) ?_
      rw [← ha]
      simp only [hasF, Bool.false_or]
      rw [show ((j + 1 : Nat) : Int) = (j : Int) + 1 by omega]
      by_cases h : bt f (j : Int) = letter kk
      · rw [if_pos h, h]; simp
      · rw [if_neg h, beq_eq_false_iff_ne.2 h]; rfl
theorem good7 (f : ByteArray) (N : Int → Int) : goodS f N 7 0 = (oneS f 0 (N 0) && (oneS f 1 (N 1) && (oneS f 2 (N 2) && (oneS f 3 (N 3) && (oneS f 4 (N 4) && (oneS f 5 (N 5) && oneS f 6 (N 6))))))) := by
  simp only [goodS, Bool.and_true]
  rfl
theorem MsgForms : pelotonlaw15_MsgForms.Pure := by
  intro a0 a1 a2 a3 a4 a5 a6 a7 l x n ⟨w0, w1, w2, w3, w4, w5, w6, w7, hl, hy⟩ hx hn
  refine ⟨1000, ?_⟩
  unfold pelotonlaw15_MsgForms.f
  rw [awake15_ok 1000 (by omega), Option.bind_some, if_pos rfl]
  by_cases h1 : (l.length : Int) > 1000
  · rw [if_pos h1]
    simp only [pelotonlaw15_MsgForms.j0]
    rw [if_pos True.intro, awake15_ok 999 (by omega)]
    rfl
  rw [if_neg h1, refright_eq _ _ _ _ _ _ _ _ _ 1000 (by omega), Option.bind_some]
  cases hr : rightS a0 (msg_num a1 a2 a3 a4 a5 a6 a7) l with
  | false =>
    simp only [pelotonlaw15_MsgForms.j0]
    rw [if_pos (show (!false) = true from rfl), awake15_ok 999 (by omega)]
    rfl
  | true =>
    have hf := form_size a0
    have hr' := hr
    unfold rightS at hr
    rw [Bool.and_eq_true, good7] at hr
    obtain ⟨hA, hG⟩ := hr
    simp only [Bool.and_eq_true] at hG
    obtain ⟨g0, g1, g2, g3, g4, g5, g6⟩ := hG
    obtain ⟨kk, hkk, hk7⟩ := restl x 7 (by omega) (by omega)
    simp only [pelotonlaw15_MsgForms.j0]
    rw [if_neg (by simp), clone_eq _ _ _ _ _ _ _ _ _ (by omega), Option.bind_some]
    rw [show ((7 : Nat) : Int) = 7 from rfl] at hkk
    rw [hkk]
    have fin : ∀ (b1 b2 b3 b4 b5 b6 b7 : Int), goodS (formS a0) (msg_num b1 b2 b3 b4 b5 b6 b7) 7 0 = oneS (formS a0) kk n → pelotonlaw15_MsgForms.j1 999 n ⟨#[101, 114, 112, 108, 115, 116, 107]⟩ (kk : Int) a0 a1 a2 a3 a4 a5 a6 a7 l a0 b1 b2 b3 b4 b5 b6 b7 l = some true := by
      intro b1 b2 b3 b4 b5 b6 b7 hg
      simp only [pelotonlaw15_MsgForms.j1]
      rw [form_eq 996, Option.bind_some]
      refine forms_loop (formS a0) (by omega) n kk hk7 a0 b1 b2 b3 b4 b5 b6 b7 l w0 (hasS (formS a0) (letter kk)) ?_ (formS a0).size 998 0 false (by omega) (by omega) rfl
      unfold rightS
      rw [hA, Bool.true_and, hg, ← want_eq]
      rfl
    have hc : kk = 0 ∨ kk = 1 ∨ kk = 2 ∨ kk = 3 ∨ kk = 4 ∨ kk = 5 ∨ kk = 6 := by omega
    rcases hc with rfl | rfl | rfl | rfl | rfl | rfl | rfl
    · exact fin n a2 a3 a4 a5 a6 a7 (by rw [good7]; show (oneS (formS a0) 0 n && (oneS (formS a0) 1 a2 && (oneS (formS a0) 2 a3 && (oneS (formS a0) 3 a4 && (oneS (formS a0) 4 a5 && (oneS (formS a0) 5 a6 && oneS (formS a0) 6 a7)))))) = _; rw [show oneS (formS a0) 1 a2 = true from g1, show oneS (formS a0) 2 a3 = true from g2, show oneS (formS a0) 3 a4 = true from g3, show oneS (formS a0) 4 a5 = true from g4, show oneS (formS a0) 5 a6 = true from g5, show oneS (formS a0) 6 a7 = true from g6]; simp)
    · exact fin a1 n a3 a4 a5 a6 a7 (by rw [good7]; show (oneS (formS a0) 0 a1 && (oneS (formS a0) 1 n && (oneS (formS a0) 2 a3 && (oneS (formS a0) 3 a4 && (oneS (formS a0) 4 a5 && (oneS (formS a0) 5 a6 && oneS (formS a0) 6 a7)))))) = _; rw [show oneS (formS a0) 0 a1 = true from g0, show oneS (formS a0) 2 a3 = true from g2, show oneS (formS a0) 3 a4 = true from g3, show oneS (formS a0) 4 a5 = true from g4, show oneS (formS a0) 5 a6 = true from g5, show oneS (formS a0) 6 a7 = true from g6]; simp)
    · exact fin a1 a2 n a4 a5 a6 a7 (by rw [good7]; show (oneS (formS a0) 0 a1 && (oneS (formS a0) 1 a2 && (oneS (formS a0) 2 n && (oneS (formS a0) 3 a4 && (oneS (formS a0) 4 a5 && (oneS (formS a0) 5 a6 && oneS (formS a0) 6 a7)))))) = _; rw [show oneS (formS a0) 0 a1 = true from g0, show oneS (formS a0) 1 a2 = true from g1, show oneS (formS a0) 3 a4 = true from g3, show oneS (formS a0) 4 a5 = true from g4, show oneS (formS a0) 5 a6 = true from g5, show oneS (formS a0) 6 a7 = true from g6]; simp)
    · exact fin a1 a2 a3 n a5 a6 a7 (by rw [good7]; show (oneS (formS a0) 0 a1 && (oneS (formS a0) 1 a2 && (oneS (formS a0) 2 a3 && (oneS (formS a0) 3 n && (oneS (formS a0) 4 a5 && (oneS (formS a0) 5 a6 && oneS (formS a0) 6 a7)))))) = _; rw [show oneS (formS a0) 0 a1 = true from g0, show oneS (formS a0) 1 a2 = true from g1, show oneS (formS a0) 2 a3 = true from g2, show oneS (formS a0) 4 a5 = true from g4, show oneS (formS a0) 5 a6 = true from g5, show oneS (formS a0) 6 a7 = true from g6]; simp)
    · exact fin a1 a2 a3 a4 n a6 a7 (by rw [good7]; show (oneS (formS a0) 0 a1 && (oneS (formS a0) 1 a2 && (oneS (formS a0) 2 a3 && (oneS (formS a0) 3 a4 && (oneS (formS a0) 4 n && (oneS (formS a0) 5 a6 && oneS (formS a0) 6 a7)))))) = _; rw [show oneS (formS a0) 0 a1 = true from g0, show oneS (formS a0) 1 a2 = true from g1, show oneS (formS a0) 2 a3 = true from g2, show oneS (formS a0) 3 a4 = true from g3, show oneS (formS a0) 5 a6 = true from g5, show oneS (formS a0) 6 a7 = true from g6]; simp)
    · exact fin a1 a2 a3 a4 a5 n a7 (by rw [good7]; show (oneS (formS a0) 0 a1 && (oneS (formS a0) 1 a2 && (oneS (formS a0) 2 a3 && (oneS (formS a0) 3 a4 && (oneS (formS a0) 4 a5 && (oneS (formS a0) 5 n && oneS (formS a0) 6 a7)))))) = _; rw [show oneS (formS a0) 0 a1 = true from g0, show oneS (formS a0) 1 a2 = true from g1, show oneS (formS a0) 2 a3 = true from g2, show oneS (formS a0) 3 a4 = true from g3, show oneS (formS a0) 4 a5 = true from g4, show oneS (formS a0) 6 a7 = true from g6]; simp)
    · exact fin a1 a2 a3 a4 a5 a6 n (by rw [good7]; show (oneS (formS a0) 0 a1 && (oneS (formS a0) 1 a2 && (oneS (formS a0) 2 a3 && (oneS (formS a0) 3 a4 && (oneS (formS a0) 4 a5 && (oneS (formS a0) 5 a6 && oneS (formS a0) 6 n)))))) = _; rw [show oneS (formS a0) 0 a1 = true from g0, show oneS (formS a0) 1 a2 = true from g1, show oneS (formS a0) 2 a3 = true from g2, show oneS (formS a0) 3 a4 = true from g3, show oneS (formS a0) 4 a5 = true from g4, show oneS (formS a0) 5 a6 = true from g5]; simp)

end Go.Proofs.Ytnkphgiodpledaa.Pure
