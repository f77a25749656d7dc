/- MsgBack: the law's plain part: what its functions compute answers true, for all arguments of its types. No condition beside the given bounds. -/
import Derived.Test.YtnkphgiodpledaaQMsgBackx11
import Derived.Test.YtnkphgiodpledaaMath
namespace Go.Proofs.Ytnkphgiodpledaa.Pure
open Go.RowKit Go.Proofs.Ytnkphgiodpledaa.QMsgBack Go.Proofs.YtnkphgiodpledaaW.PrintWords Go.Proofs.YtnkphgiodpledaaW.PrintLast Go.Proofs.YtnkphgiodpledaaW.PrintMore Go.PelMath
set_option linter.unusedVariables false
set_option linter.unusedSimpArgs false
theorem wf64 {x : Int} (h : (Lit.int .i64 x).wf = true) : -9223372036854775808 ≤ x ∧ x ≤ 9223372036854775807 := by
  simp [Lit.wf, IntKind.min, IntKind.max, IntKind.bits, IntKind.signed] at h; omega
theorem wf32 {x : Int} (h : (Lit.int .i32 x).wf = true) : -2147483648 ≤ x ∧ x ≤ 2147483647 := by
  simp [Lit.wf, IntKind.min, IntKind.max, IntKind.bits, IntKind.signed] at h; omega
theorem wf8 {x : Int} (h : (Lit.int .i8 x).wf = true) : -128 ≤ x ∧ x ≤ 127 := by
  simp [Lit.wf, IntKind.min, IntKind.max, IntKind.bits, IntKind.signed] at h; omega

theorem wrap32_range (x : Int) : -2147483648 ≤ wrap32 x ∧ wrap32 x ≤ 2147483647 := by unfold wrap32; omega
theorem wrap32_0 : wrap32 0 = 0 := by unfold wrap32; omega
theorem rd_nat (l : List Int) (i : Nat) (h : i < l.length) : rd l (i : Int) = l[i] := by
  unfold rd; simp [List.getD, h]
theorem drop_cons (l : List Int) (i : Nat) (h : i < l.length) : l.drop i = rd l (i : Int) :: l.drop (i + 1) := by
  rw [rd_nat l i h, List.drop_eq_getElem_cons h]
theorem rd_mem (l : List Int) (i : Nat) (h : i < l.length) : rd l (i : Int) ∈ l := by rw [rd_nat l i h]; exact List.getElem_mem h
theorem next (i n : Nat) (h : i < n) (hn : n ≤ 9223372036854775807) : wrap64 ((i : Int) + 1) = ((i + 1 : Nat) : Int) := by
  rw [wrap64_wf _ (by omega) (by omega)]; omega

def bst (r : Nat) : Nat := if r % 2 = 1 then (r / 2) ^^^ 3988292384 else r / 2
def b4 (r : Nat) : Nat := bst (bst (bst (bst r)))
def b8 (r : Nat) : Nat := b4 (b4 r)
def crcB (s x : Nat) : Nat := b8 (s ^^^ x)
def crcL (s : Nat) (l : List Nat) : Nat := l.foldl crcB s

theorem xor_lt32 {a b : Nat} (ha : a < 2 ^ 32) (hb : b < 2 ^ 32) : a ^^^ b < 2 ^ 32 := Nat.xor_lt_two_pow ha hb
theorem bst_lt {r : Nat} (h : r < 2 ^ 32) : bst r < 2 ^ 32 := by
  unfold bst; split
  · exact xor_lt32 (by omega) (by decide)
  · omega
theorem xor_div2 (a b : Nat) : (a ^^^ b) / 2 = a / 2 ^^^ b / 2 := by
  apply Nat.eq_of_testBit_eq
  intro i
  rw [Nat.testBit_div_two, Nat.testBit_xor, Nat.testBit_xor, Nat.testBit_div_two, Nat.testBit_div_two]
theorem xor_mod2 (a b : Nat) : (a ^^^ b) % 2 = (a % 2 + b % 2) % 2 := by
  have h := Nat.testBit_xor a b 0
  rw [Nat.testBit_zero, Nat.testBit_zero, Nat.testBit_zero] at h
  have ha : a % 2 = 0 ∨ a % 2 = 1 := by omega
  have hb : b % 2 = 0 ∨ b % 2 = 1 := by omega
  have hc : (a ^^^ b) % 2 = 0 ∨ (a ^^^ b) % 2 = 1 := by omega
  rcases ha with ha | ha <;> rcases hb with hb | hb <;> rcases hc with hc | hc <;> simp [ha, hb, hc] at h ⊢
theorem bst_xor (a b : Nat) : bst (a ^^^ b) = bst a ^^^ bst b := by
  unfold bst
  rw [xor_mod2, xor_div2]
  have ha : a % 2 = 0 ∨ a % 2 = 1 := by omega
  have hb : b % 2 = 0 ∨ b % 2 = 1 := by omega
  rcases ha with ha | ha <;> rcases hb with hb | hb <;> simp only [ha, hb] <;> simp
  · rw [Nat.xor_assoc]
  · rw [Nat.xor_assoc, Nat.xor_assoc, Nat.xor_comm 3988292384]
  · rw [Nat.xor_assoc, ← Nat.xor_assoc 3988292384, Nat.xor_comm 3988292384 (b / 2), Nat.xor_assoc, Nat.xor_self, Nat.xor_zero]
theorem b4_xor (a b : Nat) : b4 (a ^^^ b) = b4 a ^^^ b4 b := by unfold b4; rw [bst_xor, bst_xor, bst_xor, bst_xor]
theorem b8_xor (a b : Nat) : b8 (a ^^^ b) = b8 a ^^^ b8 b := by unfold b8; rw [b4_xor, b4_xor]
theorem b4_lt {r : Nat} (h : r < 2 ^ 32) : b4 r < 2 ^ 32 := bst_lt (bst_lt (bst_lt (bst_lt h)))
theorem b8_lt {r : Nat} (h : r < 2 ^ 32) : b8 r < 2 ^ 32 := b4_lt (b4_lt h)
theorem bst_even (h : Nat) : bst (2 * h) = h := by unfold bst; rw [if_neg (by omega)]; omega
theorem b4_hi (h : Nat) : b4 (16 * h) = h := by
  unfold b4
  rw [show 16 * h = 2 * (2 * (2 * (2 * h))) by omega, bst_even, bst_even, bst_even, bst_even]
theorem split16 (s : Nat) : s = (16 * (s / 16)) ^^^ (s % 16) := by
  apply Nat.eq_of_testBit_eq
  intro i
  rw [Nat.testBit_xor]
  have e1 : 16 * (s / 16) = 2 ^ 4 * (s / 2 ^ 4) := rfl
  have e2 : s % 16 = s % 2 ^ 4 := rfl
  rw [e1, e2, Nat.testBit_two_pow_mul, Nat.testBit_div_two_pow, Nat.testBit_mod_two_pow]
  by_cases hi : i < 4
  · have : ¬ 4 ≤ i := by omega
    simp [hi, this]
  · have h4 : 4 ≤ i := by omega
    simp [hi, h4]
def tab : List Nat := [0, 0x1DB71064, 0x3B6E20C8, 0x26D930AC, 0x76DC4190, 0x6B6B51F4, 0x4DB26158, 0x5005713C, 0xEDB88320, 0xF00F9344, 0xD6D6A3E8, 0xCB61B38C, 0x9B64C2B0, 0x86D3D2D4, 0xA00AE278, 0xBDBDF21C]
theorem b4_low : ∀ x, x < 16 → b4 x = tab.getD x 0 := by decide
theorem b4_tab (s : Nat) : b4 s = tab.getD (s % 16) 0 ^^^ s / 16 := by
  conv => lhs; rw [split16 s]
  rw [b4_xor, b4_hi, b4_low _ (Nat.mod_lt _ (by decide)), Nat.xor_comm]
theorem xor_mod16 (a b : Nat) : (a ^^^ b) % 16 = (a % 16) ^^^ (b % 16) := by
  apply Nat.eq_of_testBit_eq
  intro i
  have e : ∀ z : Nat, z % 16 = z % 2 ^ 4 := fun _ => rfl
  rw [e (a ^^^ b), e a, e b, Nat.testBit_xor, Nat.testBit_mod_two_pow, Nat.testBit_mod_two_pow, Nat.testBit_mod_two_pow, Nat.testBit_xor]
  by_cases hi : i < 4 <;> simp [hi]
theorem xor_div16 (a b : Nat) : (a ^^^ b) / 16 = (a / 16) ^^^ (b / 16) := by
  apply Nat.eq_of_testBit_eq
  intro i
  have e : ∀ z : Nat, z / 16 = z / 2 ^ 4 := fun _ => rfl
  rw [e (a ^^^ b), e a, e b, Nat.testBit_xor, Nat.testBit_div_two_pow, Nat.testBit_div_two_pow, Nat.testBit_div_two_pow, Nat.testBit_xor]
/-- a byte by two half bytes, out of the table -/
theorem crcB_tab (s x : Nat) (hx : x < 256) :
    crcB s x = tab.getD (((tab.getD ((s ^^^ x) % 16) 0 ^^^ s / 16) ^^^ x / 16) % 16) 0 ^^^ (tab.getD ((s ^^^ x) % 16) 0 ^^^ s / 16) / 16 := by
  have h1 : b4 (s ^^^ x) = (tab.getD ((s ^^^ x) % 16) 0 ^^^ s / 16) ^^^ x / 16 := by
    rw [b4_tab, xor_div16, Nat.xor_assoc]
  unfold crcB b8
  rw [h1, b4_tab, xor_div16 _ (x / 16), show x / 16 / 16 = 0 by omega, Nat.xor_zero]
/-- unlike states stay unlike -/
theorem bst_inj {a b : Nat} (ha : a < 2 ^ 32) (hb : b < 2 ^ 32) (h : bst a = bst b) : a = b := by
  have key : ∀ r : Nat, r < 2 ^ 32 → (bst r).testBit 31 = decide (r % 2 = 1) := by
    intro r hr
    unfold bst
    have h0 : (r / 2).testBit 31 = false := Nat.testBit_lt_two_pow (by omega)
    split
    · rename_i h1
      rw [Nat.testBit_xor, h0]; simp [h1]; decide
    · rename_i h1
      rw [h0]; simp [h1]
  have k1 := key a ha
  have k2 := key b hb
  rw [h, k2] at k1
  have hp : a % 2 = b % 2 := by
    have := decide_eq_decide.1 k1
    omega
  have hd : a / 2 = b / 2 := by
    unfold bst at h
    rw [hp] at h
    split at h
    · have h2 := congrArg (· ^^^ 3988292384) h
      simp only [Nat.xor_assoc, Nat.xor_self, Nat.xor_zero] at h2
      exact h2
    · exact h
  omega
theorem b4_inj {a b : Nat} (ha : a < 2 ^ 32) (hb : b < 2 ^ 32) (h : b4 a = b4 b) : a = b :=
  bst_inj ha hb (bst_inj (bst_lt ha) (bst_lt hb) (bst_inj (bst_lt (bst_lt ha)) (bst_lt (bst_lt hb)) (bst_inj (bst_lt (bst_lt (bst_lt ha))) (bst_lt (bst_lt (bst_lt hb))) h)))
theorem b8_inj {a b : Nat} (ha : a < 2 ^ 32) (hb : b < 2 ^ 32) (h : b8 a = b8 b) : a = b := b4_inj ha hb (b4_inj (b4_lt ha) (b4_lt hb) h)
theorem xor_cancel_r {a b c : Nat} (h : a ^^^ c = b ^^^ c) : a = b := by
  have h2 := congrArg (· ^^^ c) h
  simpa only [Nat.xor_assoc, Nat.xor_self, Nat.xor_zero] using h2
theorem xor_cancel_l {a b c : Nat} (h : c ^^^ a = c ^^^ b) : a = b := by
  rw [Nat.xor_comm c a, Nat.xor_comm c b] at h
  exact xor_cancel_r h
theorem crcB_lt {s x : Nat} (hs : s < 2 ^ 32) (hx : x < 256) : crcB s x < 2 ^ 32 := b8_lt (xor_lt32 hs (by omega))
theorem crcB_inj_s {s t x : Nat} (hs : s < 2 ^ 32) (ht : t < 2 ^ 32) (hx : x < 256) (h : crcB s x = crcB t x) : s = t :=
  xor_cancel_r (b8_inj (xor_lt32 hs (by omega)) (xor_lt32 ht (by omega)) h)
theorem crcB_inj_x {s x y : Nat} (hs : s < 2 ^ 32) (hx : x < 256) (hy : y < 256) (h : crcB s x = crcB s y) : x = y :=
  xor_cancel_l (b8_inj (xor_lt32 hs (by omega)) (xor_lt32 hs (by omega)) h)
theorem crcL_append (s : Nat) (a b : List Nat) : crcL s (a ++ b) = crcL (crcL s a) b := by unfold crcL; rw [List.foldl_append]
theorem crcL_lt {l : List Nat} : ∀ {s : Nat}, s < 2 ^ 32 → (∀ x ∈ l, x < 256) → crcL s l < 2 ^ 32 := by
  induction l with
  | nil => intro s hs _; exact hs
  | cons x l ih =>
    intro s hs h
    exact ih (crcB_lt hs (h x (by simp))) (fun y hy => h y (by simp [hy]))
theorem crcL_inj_s {l : List Nat} : ∀ {s t : Nat}, s < 2 ^ 32 → t < 2 ^ 32 → (∀ x ∈ l, x < 256) → crcL s l = crcL t l → s = t := by
  induction l with
  | nil => intro s t _ _ _ h; exact h
  | cons x l ih =>
    intro s t hs ht h he
    have hx := h x (by simp)
    exact crcB_inj_s hs ht hx (ih (crcB_lt hs hx) (crcB_lt ht hx) (fun y hy => h y (by simp [hy])) he)
/-- bytes that differ at one place have unlike check sums -/
theorem crcL_one {a b : List Nat} {x y s : Nat} (hs : s < 2 ^ 32) (ha : ∀ z ∈ a, z < 256) (hb : ∀ z ∈ b, z < 256) (hx : x < 256) (hy : y < 256) (h : crcL s (a ++ x :: b) = crcL s (a ++ y :: b)) : x = y := by
  rw [crcL_append, crcL_append] at h
  have h1 := crcL_lt hs ha
  exact crcB_inj_x h1 hx hy (crcL_inj_s (l := b) (crcB_lt h1 hx) (crcB_lt h1 hy) hb h)

theorem bxor32 (a b : Nat) (ha : a < 2 ^ 32) (hb : b < 2 ^ 32) : Go.bits .xor .u32 (a : Int) (b : Int) = ((a ^^^ b : Nat) : Int) := by
  have e : bits .xor .u32 (a : Int) (b : Int) = IntKind.u32.wrap (((BitVec.ofInt 32 a ^^^ BitVec.ofInt 32 b).toNat : Nat) : Int) := rfl
  have hw : ∀ y : Int, IntKind.u32.wrap y = y % 4294967296 := by intro y; simp [IntKind.wrap, IntKind.bits, IntKind.signed]
  have h1 : (BitVec.ofInt 32 (a : Int)).toNat = a := by rw [BitVec.toNat_ofInt]; omega
  have h2 : (BitVec.ofInt 32 (b : Int)).toNat = b := by rw [BitVec.toNat_ofInt]; omega
  have h3 := xor_lt32 ha hb
  rw [e, BitVec.toNat_xor, h1, h2, hw]
  omega
theorem band15 (a : Nat) (ha : a < 2 ^ 32) : Go.bits .and .u32 (a : Int) 15 = ((a % 16 : Nat) : Int) := by
  have e : bits .and .u32 (a : Int) 15 = IntKind.u32.wrap (((BitVec.ofInt 32 a &&& BitVec.ofInt 32 15).toNat : Nat) : Int) := rfl
  have hw : ∀ y : Int, IntKind.u32.wrap y = y % 4294967296 := by intro y; simp [IntKind.wrap, IntKind.bits, IntKind.signed]
  have h1 : (BitVec.ofInt 32 (a : Int)).toNat = a := by rw [BitVec.toNat_ofInt]; omega
  have h2 : (BitVec.ofInt 32 (15 : Int)).toNat = 2 ^ 4 - 1 := by decide
  rw [e, BitVec.toNat_and, h1, h2, Nat.and_two_pow_sub_one_eq_mod, hw]
  omega
/-- bytes as natural numbers -/
def nb (l : List Int) : List Nat := l.map Int.toNat
def Byt (l : List Int) : Prop := ∀ x ∈ l, 0 ≤ x ∧ x ≤ 255
theorem nb_append (a b : List Int) : nb (a ++ b) = nb a ++ nb b := by simp [nb]
theorem nb_lt {l : List Int} (h : Byt l) : ∀ x ∈ nb l, x < 256 := by
  intro x hx
  obtain ⟨y, hy, rfl⟩ := List.mem_map.1 hx
  have := h y hy; omega
theorem nb_length (l : List Int) : (nb l).length = l.length := by simp [nb]
theorem nb_inj {a b : List Int} (ha : Byt a) (hb : Byt b) (h : nb a = nb b) : a = b := by
  induction a generalizing b with
  | nil => cases b with
    | nil => rfl
    | cons y b => simp [nb] at h
  | cons x a ih =>
    cases b with
    | nil => simp [nb] at h
    | cons y b =>
      simp only [nb, List.map_cons, List.cons.injEq] at h
      have h1 := ha x (by simp); have h2 := hb y (by simp)
      rw [ih (fun z hz => ha z (by simp [hz])) (fun z hz => hb z (by simp [hz])) h.2]
      congr 1; omega
/-- the check sum of bytes -/
def crc (l : List Int) : Nat := crcL 4294967295 (nb l) ^^^ 4294967295
theorem crc_lt {l : List Int} (h : Byt l) : crc l < 2 ^ 32 := xor_lt32 (crcL_lt (by decide) (nb_lt h)) (by decide)

theorem tab_rd : ∀ m : Nat, m < 16 → rd weight_Sum.tab (m : Int) = ((tab.getD m 0 : Nat) : Int) := by decide
theorem tab_lt : ∀ m : Nat, m < 16 → tab.getD m 0 < 2 ^ 32 := by decide
theorem wsum_h1 (s y : Nat) (hs : s < 2 ^ 32) (hy : y < 2 ^ 32) : weight_Sum.h1 (s : Int) (y : Int) = ((tab.getD ((s ^^^ y) % 16) 0 ^^^ s / 16 : Nat) : Int) := by
  unfold weight_Sum.h1
  have hm := Nat.mod_lt (s ^^^ y) (show 0 < 16 by omega)
  rw [bxor32 s y hs hy, band15 _ (xor_lt32 hs hy), tab_rd _ hm, show ((s : Int) / 16) = ((s / 16 : Nat) : Int) by omega, bxor32 _ _ (tab_lt _ hm) (by omega)]
theorem wsum_step (s : Nat) (x : Int) (hs : s < 2 ^ 32) (hx : 0 ≤ x ∧ x ≤ 255) : weight_Sum.step (s : Int) x = ((crcB s x.toNat : Nat) : Int) := by
  obtain ⟨y, rfl⟩ := Int.eq_ofNat_of_zero_le hx.1
  have hw : IntKind.u32.wrap (y : Int) = (y : Int) := by
    have : ∀ y : Int, IntKind.u32.wrap y = y % 4294967296 := by intro y; simp [IntKind.wrap, IntKind.bits, IntKind.signed]
    rw [this]; omega
  have hm := Nat.mod_lt (s ^^^ y) (show 0 < 16 by omega)
  unfold weight_Sum.step
  rw [hw, wsum_h1 s y hs (by omega), show ((y : Int) / 16) = ((y / 16 : Nat) : Int) by omega, wsum_h1 _ _ (xor_lt32 (tab_lt _ hm) (by omega)) (by omega), Int.toNat_natCast, crcB_tab s y (by omega)]
theorem wsum_piece (l : List Int) : ∀ (s : Nat), s < 2 ^ 32 → Byt l → weight_Sum.piece (s : Int) l = ((crcL s (nb l) : Nat) : Int) := by
  induction l with
  | nil => intro s _ _; rfl
  | cons x l ih =>
    intro s hs h
    have hx := h x (by simp)
    have e : weight_Sum.piece (s : Int) (x :: l) = weight_Sum.piece (weight_Sum.step (s : Int) x) l := rfl
    rw [e, wsum_step s x hs hx, ih _ (crcB_lt hs (by omega)) (fun y hy => h y (by simp [hy]))]
    rfl
theorem wsum_all (ls : List (List Int)) : ∀ (s : Nat), s < 2 ^ 32 → (∀ l ∈ ls, Byt l) → ls.foldl weight_Sum.piece (s : Int) = ((crcL s (nb ls.flatten) : Nat) : Int) := by
  induction ls with
  | nil => intro s _ _; rfl
  | cons l ls ih =>
    intro s hs h
    have hl := h l (by simp)
    rw [List.foldl_cons, wsum_piece l s hs hl, ih _ (crcL_lt hs (nb_lt hl)) (fun y hy => h y (by simp [hy])), List.flatten_cons, nb_append, crcL_append]
theorem wsum_eq (ls : List (List Int)) (hn : ls.length < 4611686018427387904) (hb : ∀ l ∈ ls, Byt l) (hl : ∀ l ∈ ls, l.length < 4611686018427387904) : weight_Sum.f ls = some ((crc ls.flatten : Nat) : Int) := by
  have hf : weight_Sum.fit ls = true := by
    unfold weight_Sum.fit
    rw [decide_eq_true hn, Bool.true_and, List.all_eq_true]
    exact fun l h => decide_eq_true (hl l h)
  have hbf : Byt ls.flatten := by
    intro x hx
    obtain ⟨l, h1, h2⟩ := List.mem_flatten.1 hx
    exact hb l h1 x h2
  unfold weight_Sum.f
  rw [if_pos hf]
  have h1 := wsum_all ls 4294967295 (by decide) hb
  have h2 := crcL_lt (l := nb ls.flatten) (s := 4294967295) (by decide) (nb_lt hbf)
  rw [show (4294967295 : Int) = ((4294967295 : Nat) : Int) from rfl, h1, bxor32 _ _ (by decide) h2, Nat.xor_comm]
  rfl

def bstN : Nat → Nat → Nat
  | 0, r => r
  | d + 1, r => bstN d (bst r)
theorem bstN_8 (r : Nat) : bstN 8 r = b8 r := rfl
theorem refsum_l1 (l : List Int) (i : Int) : ∀ (d k j r : Nat), j + d = 8 → r < 2 ^ 32 → pelotonref07_Sum.l1 (k + d + 1) l (r : Int) i j = pelotonref07_Sum.l0 k l ((bstN d r : Nat) : Int) (wrap64 (i + 1)) := by
  intro d
  induction d with
  | zero =>
    intro k j r hj hr
    simp only [pelotonref07_Sum.l1]
    rw [if_neg (by omega)]; rfl
  | succ d ih =>
    intro k j r hj hr
    have e1 : Int.tmod (r : Int) 2 = ((r % 2 : Nat) : Int) := by rw [Int.tmod_eq_emod_of_nonneg (by omega)]; omega
    have e2 : Int.tdiv (r : Int) 2 % 4294967296 = ((r / 2 : Nat) : Int) := by rw [Int.tdiv_eq_ediv_of_nonneg (by omega)]; omega
    have hb := bst_lt hr
    have ih' := ih k (j + 1) (bst r) (by omega) hb
    rw [show k + (d + 1) + 1 = (k + d + 1) + 1 by omega]
    generalize k + d + 1 = m at *
    simp only [pelotonref07_Sum.l1]
    rw [if_pos (by omega), e1, e2, show wrap64 ((j : Int) + 1) = ((j + 1 : Nat) : Int) by rw [wrap64_wf _ (by omega) (by omega)]; omega]
    by_cases hc : r % 2 = 1
    · have e3 : Go.bits .xor .u32 ((r / 2 : Nat) : Int) 3988292384 = ((bst r : Nat) : Int) := by
        have := bxor32 (r / 2) 3988292384 (by omega) (by decide)
        rw [show (3988292384 : Int) = ((3988292384 : Nat) : Int) from rfl, this]
        unfold bst; rw [if_pos hc]
      rw [if_pos (by omega), e3, ih']; rfl
    · have e3 : ((r / 2 : Nat) : Int) = ((bst r : Nat) : Int) := by unfold bst; rw [if_neg hc]
      rw [if_neg (by omega), e3, ih']; rfl
theorem refsum_l0 (l : List Int) (hl : l.length ≤ 9223372036854775807) (hb : Byt l) : ∀ (d k i s : Nat), i + d = l.length → s < 2 ^ 32 → 10 * d < k →
    pelotonref07_Sum.l0 k l (s : Int) i = some ((crcL s (nb (l.drop i)) ^^^ 4294967295 : Nat) : Int) := by
  intro d
  induction d with
  | zero =>
    intro k i s hi hs hk
    obtain ⟨k, rfl⟩ : ∃ m, k = m + 1 := ⟨k - 1, by omega⟩
    simp only [pelotonref07_Sum.l0]
    rw [if_neg (by omega), List.drop_of_length_le (by omega)]
    have := bxor32 s 4294967295 hs (by decide)
    rw [show (4294967295 : Int) = ((4294967295 : Nat) : Int) from rfl, this]; rfl
  | succ d ih =>
    intro k i s hi hs hk
    obtain ⟨k, rfl⟩ : ∃ m, k = (m + 8 + 1) + 1 := ⟨k - 10, by omega⟩
    have hx := hb _ (rd_mem l i (by omega))
    simp only [pelotonref07_Sum.l0]
    rw [if_pos (by omega), if_pos (by omega)]
    have e1 : Go.bits .xor .u32 (s : Int) (rd l (i : Int) % 4294967296) = ((s ^^^ (rd l (i : Int)).toNat : Nat) : Int) := by
      rw [show rd l (i : Int) % 4294967296 = (((rd l (i : Int)).toNat : Nat) : Int) by omega]
      exact bxor32 _ _ hs (by omega)
    rw [e1]
    have h8 := refsum_l1 l i 8 k 0 (s ^^^ (rd l (i : Int)).toNat) rfl (xor_lt32 hs (by omega))
    rw [show ((0 : Nat) : Int) = 0 from rfl] at h8
    rw [h8, bstN_8, next i _ (show i < l.length by omega) hl]
    have hB : b8 (s ^^^ (rd l (i : Int)).toNat) = crcB s (rd l (i : Int)).toNat := rfl
    rw [hB, ih k (i + 1) _ (by omega) (crcB_lt hs (by omega)) (by omega), drop_cons l i (by omega)]
    rfl
theorem refsum_eq (l : List Int) (hl : l.length ≤ 9223372036854775807) (hb : Byt l) (k : Nat) (hk : 10 * l.length < k) : pelotonref07_Sum.f k l = some ((crc l : Nat) : Int) := by
  have := refsum_l0 l hl hb l.length k 0 4294967295 (by omega) (by decide) hk
  simpa [pelotonref07_Sum.f, crc] using this

theorem str_list (a : List Int) : (strOfNums a).toList = a.map fun n => UInt8.ofNat n.toNat := by
  rw [show (strOfNums a).toList = (strOfNums a).data.toList from Go.ByteArray.toList_eq _]; rfl
theorem str_eq {a b : List Int} (ha : Byt a) (hb : Byt b) : (strOfNums a).toList = (strOfNums b).toList ↔ a = b := by
  rw [str_list, str_list]
  constructor
  · intro h
    have key : ∀ l : List Int, Byt l → (l.map fun n => UInt8.ofNat n.toNat).map (fun u : UInt8 => (u.toNat : Int)) = l := by
      intro l hl
      rw [List.map_map]
      conv => rhs; rw [← List.map_id l]
      apply List.map_congr_left
      intro x hx
      have := hl x hx
      simp only [Function.comp, id_eq, UInt8.toNat_ofNat']
      omega
    rw [← key a ha, ← key b hb, h]
  · intro h; rw [h]
theorem str_beq {a b : List Int} (ha : Byt a) (hb : Byt b) : ((strOfNums a).toList == (strOfNums b).toList) = decide (a = b) := by
  by_cases h : a = b
  · rw [decide_eq_true h, h]; simp
  · rw [decide_eq_false h]; exact beq_eq_false_iff_ne.2 (fun e => h ((str_eq ha hb).1 e))
theorem Byt.append {a b : List Int} (ha : Byt a) (hb : Byt b) : Byt (a ++ b) := by
  intro x hx
  rcases List.mem_append.1 hx with h | h
  · exact ha x h
  · exact hb x h
theorem Byt.take {a : List Int} (ha : Byt a) (n : Nat) : Byt (a.take n) := fun x hx => ha x (List.mem_of_mem_take hx)
theorem Byt.drop {a : List Int} (ha : Byt a) (n : Nat) : Byt (a.drop n) := fun x hx => ha x (List.mem_of_mem_drop hx)
theorem Byt.left {a b : List Int} (h : Byt (a ++ b)) : Byt a := fun x hx => h x (List.mem_append.2 (Or.inl hx))
theorem Byt.right {a b : List Int} (h : Byt (a ++ b)) : Byt b := fun x hx => h x (List.mem_append.2 (Or.inr hx))

def be4 (n : Nat) : List Int := [((n / 16777216 % 256 : Nat) : Int), ((n / 65536 % 256 : Nat) : Int), ((n / 256 % 256 : Nat) : Int), ((n % 256 : Nat) : Int)]
theorem be4_length (n : Nat) : (be4 n).length = 4 := rfl
theorem be4_byt (n : Nat) : Byt (be4 n) := by
  intro x hx
  simp only [be4, List.mem_cons, List.not_mem_nil, or_false] at hx
  rcases hx with rfl | rfl | rfl | rfl <;> omega
theorem be4_inj {a b : Nat} (ha : a < 2 ^ 32) (hb : b < 2 ^ 32) (h : be4 a = be4 b) : a = b := by
  simp only [be4, List.cons.injEq, and_true] at h
  omega
def w4 (l : List Int) : Nat := (rd l 0).toNat * 16777216 + (rd l 1).toNat * 65536 + (rd l 2).toNat * 256 + (rd l 3).toNat
theorem w4_be4 (n : Nat) (h : n < 2 ^ 32) (t : List Int) : w4 (be4 n ++ t) = n := by
  have e0 : rd (be4 n ++ t) 0 = ((n / 16777216 % 256 : Nat) : Int) := rfl
  have e1 : rd (be4 n ++ t) 1 = ((n / 65536 % 256 : Nat) : Int) := rfl
  have e2 : rd (be4 n ++ t) 2 = ((n / 256 % 256 : Nat) : Int) := rfl
  have e3 : rd (be4 n ++ t) 3 = ((n % 256 : Nat) : Int) := rfl
  unfold w4
  rw [e0, e1, e2, e3]
  simp only [Int.toNat_natCast]
  omega
theorem be4_w4 (l : List Int) (hl : 4 ≤ l.length) (hb : Byt l) : be4 (w4 l) = l.take 4 := by
  match l, hl, hb with
  | a :: b :: c :: d :: l, _, hb =>
    have h0 := hb a (by simp); have h1 := hb b (by simp); have h2 := hb c (by simp); have h3 := hb d (by simp)
    have e : w4 (a :: b :: c :: d :: l) = a.toNat * 16777216 + b.toNat * 65536 + c.toNat * 256 + d.toNat := rfl
    rw [e]
    simp only [be4, List.take, List.cons.injEq, and_true]
    omega
theorem w4_lt (l : List Int) (hl : 4 ≤ l.length) (hb : Byt l) : w4 l < 2 ^ 32 := by
  match l, hl, hb with
  | a :: b :: c :: d :: l, _, hb =>
    have h0 := hb a (by simp); have h1 := hb b (by simp); have h2 := hb c (by simp); have h3 := hb d (by simp)
    have e : w4 (a :: b :: c :: d :: l) = a.toNat * 16777216 + b.toNat * 65536 + c.toNat * 256 + d.toNat := rfl
    rw [e]; omega

theorem four_eq (o : List Int) (n : Nat) (hn : n < 2 ^ 32) (ho : o.length + 4 < 140737488355328) : frame_four.f o (n : Int) = some (o ++ be4 n) := by
  unfold frame_four.f
  rw [Option.bind_some, if_pos (by simpa using ho)]
  congr 2 <;> (simp only [be4, List.cons.injEq, and_true]; try omega)

theorem reffour_eq (n : Nat) (hn : n < 2 ^ 32) : pelotonref14_four.f (n : Int) = some (be4 n) := by
  unfold pelotonref14_four.f
  have e1 : Int.tdiv (n : Int) 16777216 = ((n / 16777216 : Nat) : Int) := t_div n 16777216
  have e2 : Int.tdiv (n : Int) 65536 = ((n / 65536 : Nat) : Int) := t_div n 65536
  have e3 : Int.tdiv (n : Int) 256 = ((n / 256 : Nat) : Int) := t_div n 256
  rw [e1, e2, e3]
  congr 1
  simp only [be4, List.cons.injEq, and_true]
  try omega

def frH (k : Int) (l : List Int) : List Int := [80, 76, 1, k] ++ be4 l.length ++ l
def frL (k : Int) (l : List Int) : List Int := frH k l ++ be4 (crc (frH k l))
theorem frH_length (k : Int) (l : List Int) : (frH k l).length = l.length + 8 := by simp [frH, be4_length]; omega
theorem frL_length (k : Int) (l : List Int) : (frL k l).length = l.length + 12 := by simp [frL, frH_length, be4_length]
theorem frH_byt {k : Int} {l : List Int} (hk : 0 ≤ k ∧ k ≤ 255) (hl : Byt l) : Byt (frH k l) := by
  refine Byt.append (Byt.append ?_ (be4_byt _)) hl
  intro x hx
  simp only [List.mem_cons, List.not_mem_nil, or_false] at hx
  rcases hx with rfl | rfl | rfl | rfl <;> omega
theorem frL_byt {k : Int} {l : List Int} (hk : 0 ≤ k ∧ k ≤ 255) (hl : Byt l) : Byt (frL k l) := Byt.append (frH_byt hk hl) (be4_byt _)

theorem pack_eq (k : Int) (l : List Int) (hk : 0 ≤ k ∧ k ≤ 255) (hb : Byt l) (hl : l.length ≤ 1048576) : frame_Pack.f k l = some (frL k l, 0) := by
  unfold frame_Pack.f
  have e0 : (l.length : Int) % 4294967296 = (l.length : Int) := by omega
  rw [if_neg (by omega), e0, four_eq _ _ (by omega) (by simp), Option.bind_some, if_pos (by simp [be4_length]; omega)]
  have e : [80, 76, 1, k] ++ be4 l.length ++ l = frH k l := rfl
  have hh := frH_byt hk hb
  have hlen := frH_length k l
  rw [e, wsum_eq [frH k l] (by simp) (fun x hx => by rw [List.mem_singleton.1 hx]; exact hh) (fun x hx => by rw [List.mem_singleton.1 hx]; omega), Option.bind_some]
  simp only [List.flatten_cons, List.flatten_nil, List.append_nil]
  rw [four_eq _ _ (crc_lt hh) (by omega)]
  rfl

theorem refpack_eq (K : Nat) (k : Int) (l : List Int) (hk : 0 ≤ k ∧ k ≤ 255) (hb : Byt l) (hl : l.length ≤ 1048576) (hK : 10 * l.length + 100 < K) : pelotonref14_Pack.f K k l = some (frL k l) := by
  unfold pelotonref14_Pack.f
  have e0 : (l.length : Int) % 4294967296 = (l.length : Int) := by omega
  have hh := frH_byt hk hb
  have hlen := frH_length k l
  rw [Option.bind_some, e0, reffour_eq _ (by omega), Option.bind_some, if_pos (by simp [be4_length]), Option.bind_some, if_pos (by simp [be4_length]; omega), Option.bind_some]
  have e : [80, 76, 1, k] ++ be4 l.length ++ l = frH k l := rfl
  rw [e, refsum_eq _ (by omega) hh K (by omega), Option.bind_some, reffour_eq _ (crc_lt hh), Option.bind_some, if_pos (by rw [be4_length]; omega)]
  rfl

theorem bor32 (a b i : Nat) (ha : 2 ^ i * a + b < 2 ^ 32) (hb : b < 2 ^ i) : Go.bits .or .u32 ((2 ^ i * a : Nat) : Int) (b : Int) = ((2 ^ i * a + b : Nat) : Int) := by
  have e : bits .or .u32 ((2 ^ i * a : Nat) : Int) (b : Int) = IntKind.u32.wrap (((BitVec.ofInt 32 ((2 ^ i * a : Nat) : Int) ||| BitVec.ofInt 32 (b : Int)).toNat : Nat) : Int) := rfl
  have hw : ∀ y : Int, IntKind.u32.wrap y = y % 4294967296 := by intro y; simp [IntKind.wrap, IntKind.bits, IntKind.signed]
  have hx : 2 ^ i * a < 2 ^ 32 := by omega
  have h1 : (BitVec.ofInt 32 ((2 ^ i * a : Nat) : Int)).toNat = 2 ^ i * a := by rw [BitVec.toNat_ofInt]; omega
  have h2 : (BitVec.ofInt 32 (b : Int)).toNat = b := by rw [BitVec.toNat_ofInt]; omega
  rw [e, BitVec.toNat_or, h1, h2, ← Nat.two_pow_add_eq_or_of_lt hb, hw]
  omega
theorem word_eq (l : List Int) (hl : 4 ≤ l.length) (hb : Byt l) : frame_word.f l = some ((w4 l : Nat) : Int) := by
  match l, hl, hb with
  | a :: b :: c :: d :: l, _, hb =>
    have h0 := hb a (by simp); have h1 := hb b (by simp); have h2 := hb c (by simp); have h3 := hb d (by simp)
    obtain ⟨a, rfl⟩ := Int.eq_ofNat_of_zero_le h0.1
    obtain ⟨b, rfl⟩ := Int.eq_ofNat_of_zero_le h1.1
    obtain ⟨c, rfl⟩ := Int.eq_ofNat_of_zero_le h2.1
    obtain ⟨d, rfl⟩ := Int.eq_ofNat_of_zero_le h3.1
    unfold frame_word.f
    have r0 : rd (((a : Nat) : Int) :: ((b : Nat) : Int) :: ((c : Nat) : Int) :: ((d : Nat) : Int) :: l) 0 = (a : Int) := rfl
    have r1 : rd (((a : Nat) : Int) :: ((b : Nat) : Int) :: ((c : Nat) : Int) :: ((d : Nat) : Int) :: l) 1 = (b : Int) := rfl
    have r2 : rd (((a : Nat) : Int) :: ((b : Nat) : Int) :: ((c : Nat) : Int) :: ((d : Nat) : Int) :: l) 2 = (c : Int) := rfl
    have r3 : rd (((a : Nat) : Int) :: ((b : Nat) : Int) :: ((c : Nat) : Int) :: ((d : Nat) : Int) :: l) 3 = (d : Int) := rfl
    have e : w4 (((a : Nat) : Int) :: ((b : Nat) : Int) :: ((c : Nat) : Int) :: ((d : Nat) : Int) :: l) = a * 16777216 + b * 65536 + c * 256 + d := by
      unfold w4; rw [r0, r1, r2, r3]; simp only [Int.toNat_natCast]
    rw [if_pos (by simp only [List.length_cons]; omega), if_pos (by simp only [List.length_cons]; omega), if_pos (by simp only [List.length_cons]; omega), if_pos (by simp only [List.length_cons]; omega), r0, r1, r2, r3, e]
    have f1 : ((a : Int) % 4294967296) * 16777216 % 4294967296 = ((2 ^ 24 * a : Nat) : Int) := by omega
    have f2 : ((b : Int) % 4294967296) * 65536 % 4294967296 = ((2 ^ 16 * b : Nat) : Int) := by omega
    have f3 : ((c : Int) % 4294967296) * 256 % 4294967296 = ((2 ^ 8 * c : Nat) : Int) := by omega
    have f4 : (d : Int) % 4294967296 = (d : Int) := by omega
    rw [f1, f2, f3, f4, bor32 a (2 ^ 16 * b) 24 (by omega) (by omega), show 2 ^ 24 * a + 2 ^ 16 * b = 2 ^ 16 * (256 * a + b) by omega, bor32 (256 * a + b) (2 ^ 8 * c) 16 (by omega) (by omega),
      show 2 ^ 16 * (256 * a + b) + 2 ^ 8 * c = 2 ^ 8 * (256 * (256 * a + b) + c) by omega, bor32 (256 * (256 * a + b) + c) d 8 (by omega) (by omega)]
    congr 2; omega

def sizeS (l : List Int) : Int × Int :=
  if l.length < 12 then (0, 70) else if rd l 0 ≠ 80 ∨ rd l 1 ≠ 76 then (0, 71) else if rd l 2 ≠ 1 then (0, 141) else if w4 (l.drop 4) > 1048576 then (0, 140) else (((w4 (l.drop 4) + 12 : Nat) : Int), 0)
theorem sizeS_ok {l : List Int} {n : Int} (h : sizeS l = (n, 0)) : 12 ≤ l.length ∧ rd l 0 = 80 ∧ rd l 1 = 76 ∧ rd l 2 = 1 ∧ w4 (l.drop 4) ≤ 1048576 ∧ n = ((w4 (l.drop 4) + 12 : Nat) : Int) := by
  unfold sizeS at h
  split at h
  · cases h
  split at h
  · cases h
  split at h
  · cases h
  split at h
  · cases h
  rename_i h1 h2 h3 h4
  simp only [Prod.mk.injEq, and_true] at h
  refine ⟨by omega, ?_, ?_, by omega, by omega, h.symm⟩ <;> omega

theorem size_eq (k : Nat) (l : List Int) (hb : Byt l) : frame_size.f (k + 1) l = some (sizeS l) := by
  unfold frame_size.f sizeS
  by_cases h1 : l.length < 12
  · rw [if_pos (by omega), if_pos h1]
  rw [if_neg (by omega), if_neg h1, if_pos (by omega)]
  simp only [frame_size.j0]
  by_cases h2 : rd l 0 = 80
  · rw [if_pos h2, if_pos (by omega)]
    by_cases h3 : rd l 1 = 76
    · rw [show (rd l 1 != 76) = false from bne_eq_false_iff_eq.2 h3, if_neg (by simp), if_pos (by omega), if_neg (show ¬ (rd l 0 ≠ 80 ∨ rd l 1 ≠ 76) by omega)]
      by_cases h4 : rd l 2 = 1
      · have hlt := w4_lt (l.drop 4) (by simp; omega) (hb.drop 4)
        rw [if_pos h4, if_pos (by omega), word_eq _ (by simp; omega) (hb.drop 4), Option.bind_some, if_neg (show ¬ rd l 2 ≠ 1 by omega)]
        by_cases h5 : w4 (l.drop 4) > 1048576
        · rw [if_pos (by omega), if_pos h5]
        · rw [if_neg (by omega), if_neg h5, wrap64_wf ((w4 (l.drop 4) : Nat) : Int) (by omega) (by omega), wrap64_wf _ (by omega) (by omega)]
          congr 2; omega
      · rw [if_neg h4, if_pos (show rd l 2 ≠ 1 from h4)]
    · rw [show (rd l 1 != 76) = true from bne_iff_ne.2 h3, if_pos rfl, if_pos (show rd l 0 ≠ 80 ∨ rd l 1 ≠ 76 by omega)]
  · rw [if_neg h2, if_pos trivial, if_pos (show rd l 0 ≠ 80 ∨ rd l 1 ≠ 76 by omega)]

def parseS (l : List Int) : Int × List Int × Int :=
  if (sizeS l).2 ≠ 0 then (0, [], (sizeS l).2) else if (l.length : Int) < (sizeS l).1 then (0, [], 70) else if (l.length : Int) > (sizeS l).1 then (0, [], 72)
  else if w4 (l.drop (l.length - 4)) ≠ crc (l.take (l.length - 4)) then (0, [], 73) else (rd l 3, (l.take (l.length - 4)).drop 8, 0)

theorem parse_eq (k : Nat) (l : List Int) (hb : Byt l) (hl : l.length < 100000000) : frame_Parse.f (k + 1) l = some (parseS l) := by
  unfold frame_Parse.f parseS
  rw [size_eq k l hb, Option.bind_some]
  rcases hs : sizeS l with ⟨n, e⟩
  simp only
  by_cases he : e = 0
  · subst he
    obtain ⟨h12, _, _, _, hn, rfl⟩ := sizeS_ok hs
    rw [if_pos rfl, if_neg (show ¬ ((0 : Int) ≠ 0) by simp)]
    by_cases h1 : (l.length : Int) < ((w4 (l.drop 4) + 12 : Nat) : Int)
    · rw [if_pos h1, if_pos h1]
    rw [if_neg h1, if_neg h1]
    by_cases h2 : (l.length : Int) > ((w4 (l.drop 4) + 12 : Nat) : Int)
    · rw [if_pos h2, if_pos h2]
    rw [if_neg h2, if_neg h2]
    have hn4 : wrap64 (((w4 (l.drop 4) + 12 : Nat) : Int) - 4) = ((l.length - 4 : Nat) : Int) := by rw [wrap64_wf _ (by omega) (by omega)]; omega
    have hbt := hb.take (l.length - 4)
    rw [hn4, if_pos (by omega), if_pos (by omega)]
    simp only [Int.toNat_natCast]
    rw [word_eq _ (by simp; omega) (hb.drop _), Option.bind_some, wsum_eq [l.take (l.length - 4)] (by simp) (fun x hx => by rw [List.mem_singleton.1 hx]; exact hbt) (fun x hx => by rw [List.mem_singleton.1 hx]; simp; omega), Option.bind_some]
    simp only [List.flatten_cons, List.flatten_nil, List.append_nil]
    by_cases h3 : w4 (l.drop (l.length - 4)) = crc (l.take (l.length - 4))
    · rw [if_pos (by omega), if_pos (by omega), if_pos (by omega), if_neg (by omega)]
      unfold bytes_Clone.f
      rw [Option.bind_some, if_pos (by simp; omega)]
      simp
    · rw [if_neg (by omega), if_pos h3]
  · rw [if_neg he, if_pos he]

theorem frL_head (k : Int) (l : List Int) : frL k l = 80 :: 76 :: 1 :: k :: (be4 l.length ++ (l ++ be4 (crc (frH k l)))) := by simp [frL, frH]
theorem sizeS_fr (k : Int) (l t : List Int) (hl : l.length ≤ 1048576) : sizeS (frL k l ++ t) = (((l.length + 12 : Nat) : Int), 0) := by
  have e : (frL k l ++ t).drop 4 = be4 l.length ++ (l ++ be4 (crc (frH k l)) ++ t) := by rw [frL_head]; simp
  have h0 : rd (frL k l ++ t) 0 = 80 := by rw [frL_head]; rfl
  have h1 : rd (frL k l ++ t) 1 = 76 := by rw [frL_head]; rfl
  have h2 : rd (frL k l ++ t) 2 = 1 := by rw [frL_head]; rfl
  unfold sizeS
  rw [e, w4_be4 _ (by omega), h0, h1, h2, if_neg (by rw [List.length_append, frL_length]; omega), if_neg (by simp), if_neg (by simp), if_neg (by omega)]
theorem parse_fr (k : Int) (l : List Int) (hk : 0 ≤ k ∧ k ≤ 255) (hb : Byt l) (hl : l.length ≤ 1048576) : parseS (frL k l) = (k, l, 0) := by
  have hs := sizeS_fr k l [] hl
  rw [List.append_nil] at hs
  have hlen := frL_length k l
  have hH := frH_length k l
  have ht : (frL k l).take ((frL k l).length - 4) = frH k l := by
    rw [hlen]; unfold frL
    rw [List.take_append_of_le_length (by omega), List.take_of_length_le (by omega)]
  have hd : (frL k l).drop ((frL k l).length - 4) = be4 (crc (frH k l)) := by
    rw [hlen]; unfold frL
    rw [show l.length + 12 - 4 = (frH k l).length by omega, List.drop_left]
  have h3 : rd (frL k l) 3 = k := by rw [frL_head]; rfl
  have hc := crc_lt (frH_byt hk hb)
  have hw := w4_be4 (crc (frH k l)) hc []
  rw [List.append_nil] at hw
  unfold parseS
  rw [hs, ht, hd, hw, h3, if_neg (by simp), if_neg (by omega), if_neg (by omega), if_neg (by simp)]
  congr 2

theorem frL_inj {k k' : Int} {l l' t t' : List Int} (hl : l.length ≤ 1048576) (hl' : l'.length ≤ 1048576) (h : (frL k l ++ t).take 8 = (frL k' l' ++ t').take 8) : k = k' ∧ l.length = l'.length := by
  rw [frL_head, frL_head] at h
  simp only [be4, List.cons_append, List.nil_append, List.take, List.cons.injEq, and_true, true_and] at h
  omega
theorem frL_same {k k' : Int} {l l' : List Int} (hl : l.length ≤ 1048576) (hl' : l'.length ≤ 1048576) (h : frL k l = frL k' l') : k = k' ∧ l = l' := by
  obtain ⟨h1, h2⟩ := frL_inj (t := []) (t' := []) hl hl' (by rw [h])
  refine ⟨h1, ?_⟩
  rw [frL_head, frL_head] at h
  simp only [List.cons.injEq, true_and] at h
  have h3 := List.append_inj_right h.2 (by simp [be4_length])
  exact List.append_inj_left h3 h2

def letter (i : Int) : Int := if i = 0 then 101 else if i = 1 then 114 else if i = 2 then 112 else if i = 3 then 108 else if i = 4 then 115 else if i = 5 then 116 else 107
def hasF (f : ByteArray) (c : Int) : Nat → Int → Bool
  | 0, _ => false
  | m + 1, j => if bt f j = c then true else hasF f c m (j + 1)
def hasS (f : ByteArray) (c : Int) : Bool := hasF f c f.size 0
def formS (a0 : Int) : ByteArray := if a0 = 1 ∨ a0 = 4 then ⟨#[101, 114, 112, 107]⟩ else if a0 = 2 then ⟨#[101, 114, 112, 108, 43]⟩ else if a0 = 3 then ⟨#[101, 114, 112, 108, 115, 116, 43]⟩ else if a0 = 5 ∨ a0 = 7 then ⟨#[101, 115, 116]⟩ else if a0 = 6 then ⟨#[101]⟩ else if a0 = 8 then ⟨#[101, 114, 116]⟩ else if a0 = 9 then ⟨#[114, 107, 43]⟩ else if a0 = 10 then ⟨#[114]⟩ else if a0 = 11 then ⟨#[114, 107]⟩ else if a0 = 12 then ⟨#[114, 112, 107]⟩ else if a0 = 13 then ⟨#[114, 112]⟩ else ⟨#[]⟩
theorem kinds15 (a0 : Int) : (a0 = 1 ∨ a0 = 2 ∨ a0 = 3 ∨ a0 = 4 ∨ a0 = 5 ∨ a0 = 6 ∨ a0 = 7 ∨ a0 = 8 ∨ a0 = 9 ∨ a0 = 10 ∨ a0 = 11 ∨ a0 = 12 ∨ a0 = 13) ∨ (a0 ≠ 1 ∧ a0 ≠ 2 ∧ a0 ≠ 3 ∧ a0 ≠ 4 ∧ a0 ≠ 5 ∧ a0 ≠ 6 ∧ a0 ≠ 7 ∧ a0 ≠ 8 ∧ a0 ≠ 9 ∧ a0 ≠ 10 ∧ a0 ≠ 11 ∧ a0 ≠ 12 ∧ a0 ≠ 13) := by omega
theorem no_form (a0 : Int) (h : a0 ≠ 1 ∧ a0 ≠ 2 ∧ a0 ≠ 3 ∧ a0 ≠ 4 ∧ a0 ≠ 5 ∧ a0 ≠ 6 ∧ a0 ≠ 7 ∧ a0 ≠ 8 ∧ a0 ≠ 9 ∧ a0 ≠ 10 ∧ a0 ≠ 11 ∧ a0 ≠ 12 ∧ a0 ≠ 13) : formS a0 = ⟨#[]⟩ := by
  obtain ⟨h1, h2, h3, h4, h5, h6, h7, h8, h9, h10, h11, h12, h13⟩ := h
  simp [formS, h1, h2, h3, h4, h5, h6, h7, h8, h9, h10, h11, h12, h13]
theorem form_size (a0 : Int) : (formS a0).size ≤ 7 := by
  rcases kinds15 a0 with h | h
  · rcases h with rfl | rfl | rfl | rfl | rfl | rfl | rfl | rfl | rfl | rfl | rfl | rfl | rfl <;> decide
  · rw [no_form a0 h]; decide

theorem form_eq (k : Nat) (a0 : Int) : pelotonref15_Form.f (k + 2) a0 = some (formS a0) := by
  rcases kinds15 a0 with h | h
  · rcases h with rfl | rfl | rfl | rfl | rfl | rfl | rfl | rfl | rfl | rfl | rfl | rfl | rfl <;> rfl
  · rw [no_form a0 h]
    obtain ⟨h1, h2, h3, h4, h5, h6, h7, h8, h9, h10, h11, h12, h13⟩ := h
    simp [pelotonref15_Form.f, pelotonref15_Form.j0, pelotonref15_Form.j1, h1, h2, h3, h4, h5, h6, h7, h8, h9, h10, h11, h12, h13]

theorem has_loop (f : ByteArray) (c : Int) (hf : f.size ≤ 100) : ∀ (m k j : Nat), j + m = f.size → m < k → pelotonref15_has.l0 k f c (j : Int) = some (hasF f c m (j : Int)) := by
  intro m
  induction m with
  | zero =>
    intro k j hj hk
    obtain ⟨k, rfl⟩ : ∃ x, k = x + 1 := ⟨k - 1, by omega⟩
    simp only [pelotonref15_has.l0, hasF]
    rw [if_neg (by omega)]
  | succ m ih =>
    intro k j hj hk
    obtain ⟨k, rfl⟩ : ∃ x, k = x + 1 := ⟨k - 1, by omega⟩
    simp only [pelotonref15_has.l0, hasF]
    rw [if_pos (by omega), if_pos (by omega)]
    by_cases h : bt f (j : Int) = c
    · rw [if_pos h, if_pos h]
    · rw [if_neg h, if_neg h, next j 1000 (by omega) (by omega), ih k (j + 1) (by omega) (by omega)]
      rw [show ((j + 1 : Nat) : Int) = (j : Int) + 1 by omega]
theorem has_eq (f : ByteArray) (c : Int) (hf : f.size ≤ 100) (k : Nat) (hk : f.size < k) : pelotonref15_has.f k f c = some (hasS f c) := by
  unfold pelotonref15_has.f hasS
  exact has_loop f c hf f.size k 0 (by omega) hk

theorem bits_has (a0 : Int) (hok : msg_of.ok a0 = true) (i : Int) (h0 : 0 ≤ i) (h1 : i < 7) : (msg_bit (msg_of.bits a0) i == 0) = !hasS (formS a0) (letter i) := by
  have hi : i = 0 ∨ i = 1 ∨ i = 2 ∨ i = 3 ∨ i = 4 ∨ i = 5 ∨ i = 6 := by omega
  rcases kinds15 a0 with h | h
  · rcases h with rfl | rfl | rfl | rfl | rfl | rfl | rfl | rfl | rfl | rfl | rfl | rfl | rfl <;> rcases hi with rfl | rfl | rfl | rfl | rfl | rfl | rfl <;> decide +kernel
  · obtain ⟨h1, h2, h3, h4, h5, h6, h7, h8, h9, h10, h11, h12, h13⟩ := h
    simp [msg_of.ok, msg_of.T, h1, h2, h3, h4, h5, h6, h7, h8, h9, h10, h11, h12, h13] at hok
theorem lst_has (a0 : Int) (hok : msg_of.ok a0 = true) : msg_of.lst a0 = hasS (formS a0) 43 := by
  rcases kinds15 a0 with h | h
  · rcases h with rfl | rfl | rfl | rfl | rfl | rfl | rfl | rfl | rfl | rfl | rfl | rfl | rfl <;> decide +kernel
  · obtain ⟨h1, h2, h3, h4, h5, h6, h7, h8, h9, h10, h11, h12, h13⟩ := h
    simp [msg_of.ok, msg_of.T, h1, h2, h3, h4, h5, h6, h7, h8, h9, h10, h11, h12, h13] at hok
theorem ok_form (a0 : Int) : msg_of.ok a0 = true ↔ (formS a0).toList ≠ [] := by
  rcases kinds15 a0 with h | h
  · rcases h with rfl | rfl | rfl | rfl | rfl | rfl | rfl | rfl | rfl | rfl | rfl | rfl | rfl <;> exact ⟨fun _ => by decide +kernel, fun _ => by decide +kernel⟩
  · rw [no_form a0 h]
    obtain ⟨h1, h2, h3, h4, h5, h6, h7, h8, h9, h10, h11, h12, h13⟩ := h
    simp [msg_of.ok, msg_of.T, h1, h2, h3, h4, h5, h6, h7, h8, h9, h10, h11, h12, h13]
def oneS (f : ByteArray) (i x : Int) : Bool := decide (0 ≤ x) && decide (x < 1099511627776) && (decide (x = 0) || hasS f (letter i))
def goodS (f : ByteArray) (N : Int → Int) : Nat → Int → Bool
  | 0, _ => true
  | m + 1, i => oneS f i (N i) && goodS f N m (i + 1)
def rightS (a0 : Int) (N : Int → Int) (l : List Int) : Bool := msg_of.ok a0 && decide ((l.length : Int) ≤ 4096) && (decide ((l.length : Int) ≤ 0) || msg_of.lst a0) && goodS (formS a0) N 7 0

theorem one_eq (a0 : Int) (hok : msg_of.ok a0 = true) (i x : Int) (h0 : 0 ≤ i) (h1 : i < 7) : msg_wrong.one (msg_of.bits a0) i x = !oneS (formS a0) i x := by
  unfold msg_wrong.one oneS
  rw [bits_has a0 hok i h0 h1]
  by_cases c1 : x < 0
  · rw [decide_eq_true c1, decide_eq_false (show ¬ 0 ≤ x by omega)]; rfl
  · by_cases c2 : x < 1099511627776
    · rw [decide_eq_false c1, decide_eq_false (show ¬ x ≥ 1099511627776 by omega), decide_eq_true c2, decide_eq_true (show 0 ≤ x by omega)]
      by_cases c3 : x = 0
      · subst c3; simp
      · simp [c3]
    · rw [decide_eq_true (show x ≥ 1099511627776 by omega), decide_eq_false c2]; simp
theorem bad_eq (a0 : Int) (hok : msg_of.ok a0 = true) (N : Int → Int) : ∀ (m : Nat) (i : Int), 0 ≤ i → i + m = 7 → msg_wrong.bad (msg_of.bits a0) N m i = !goodS (formS a0) N m i := by
  intro m
  induction m with
  | zero => intro i _ _; rfl
  | succ m ih =>
    intro i h0 h1
    simp only [msg_wrong.bad, goodS]
    rw [one_eq a0 hok i _ h0 (by omega), ih (i + 1) (by omega) (by omega)]
    cases oneS (formS a0) i (N i) <;> simp
theorem wrong_eq (a0 a1 a2 a3 a4 a5 a6 a7 : Int) (l : List Int) (hw : (Lit.int .i64 a0).wf = true) : msg_wrong.f a0 a1 a2 a3 a4 a5 a6 a7 l = some (!rightS a0 (msg_num a1 a2 a3 a4 a5 a6 a7) l) := by
  unfold msg_wrong.f rightS
  rw [if_pos hw]
  by_cases h1 : msg_of.ok a0 = true
  · rw [if_pos h1, h1]
    by_cases h2 : (l.length : Int) > 4096
    · rw [if_pos h2, decide_eq_false (show ¬ (l.length : Int) ≤ 4096 by omega)]; rfl
    · rw [if_neg h2, decide_eq_true (show (l.length : Int) ≤ 4096 by omega)]
      by_cases h3 : (l.length : Int) > 0 ∧ msg_of.lst a0 = false
      · rw [if_pos h3, decide_eq_false (show ¬ (l.length : Int) ≤ 0 by omega), h3.2]; rfl
      · rw [if_neg h3, bad_eq a0 h1 _ 7 0 (by omega) (by omega)]
        have : (decide ((l.length : Int) ≤ 0) || msg_of.lst a0) = true := by
          by_cases h4 : (l.length : Int) ≤ 0
          · rw [decide_eq_true h4]; rfl
          · have : msg_of.lst a0 = true := by
              cases h5 : msg_of.lst a0 with
              | true => rfl
              | false => exact absurd ⟨by omega, h5⟩ h3
            rw [this]; simp
        rw [this]; rfl
  · rw [if_neg h1]
    have : msg_of.ok a0 = false := by simpa using h1
    rw [this]; rfl

theorem num_eq (a0 a1 a2 a3 a4 a5 a6 a7 : Int) (l : List Int) (i : Int) (h0 : 0 ≤ i) (h1 : i < 7) : pelotonref15_Num.f a0 a1 a2 a3 a4 a5 a6 a7 l (bt ⟨#[101, 114, 112, 108, 115, 116, 107]⟩ i) = some (msg_num a1 a2 a3 a4 a5 a6 a7 i) ∧ bt ⟨#[101, 114, 112, 108, 115, 116, 107]⟩ i = letter i := by
  have hi : i = 0 ∨ i = 1 ∨ i = 2 ∨ i = 3 ∨ i = 4 ∨ i = 5 ∨ i = 6 := by omega
  rcases hi with rfl | rfl | rfl | rfl | rfl | rfl | rfl <;> exact ⟨rfl, by decide +kernel⟩
theorem right_loop (f : ByteArray) (hf : f.size ≤ 100) (a0 a1 a2 a3 a4 a5 a6 a7 : Int) (l : List Int) : ∀ (m k i : Nat), i + m = 7 → f.size + m < k → pelotonref15_Right.l0 k f ⟨#[101, 114, 112, 108, 115, 116, 107]⟩ (i : Int) a0 a1 a2 a3 a4 a5 a6 a7 l = some (goodS f (msg_num a1 a2 a3 a4 a5 a6 a7) m (i : Int)) := by
  intro m
  induction m with
  | zero =>
    intro k i hi hk
    obtain ⟨k, rfl⟩ : ∃ x, k = x + 1 := ⟨k - 1, by omega⟩
    simp only [pelotonref15_Right.l0, goodS]
    rw [if_neg (by show ¬ (i : Int) < ((7 : Nat) : Int); omega)]
  | succ m ih =>
    intro k i hi hk
    obtain ⟨k, rfl⟩ : ∃ x, k = x + 1 := ⟨k - 1, by omega⟩
    have hn := num_eq a0 a1 a2 a3 a4 a5 a6 a7 l (i : Int) (by omega) (by omega)
    simp only [pelotonref15_Right.l0, goodS]
    rw [if_pos (by show (i : Int) < ((7 : Nat) : Int); omega), if_pos (by omega), hn.1, Option.bind_some, hn.2, has_eq f _ hf k (by omega), Option.bind_some, next i 1000 (by omega) (by omega), ih k (i + 1) (by omega) (by omega), show ((i + 1 : Nat) : Int) = (i : Int) + 1 by omega]
    generalize msg_num a1 a2 a3 a4 a5 a6 a7 (i : Int) = x
    unfold oneS
    by_cases c1 : x < 0
    · rw [if_pos c1, decide_eq_false (show ¬ 0 ≤ x by omega)]; rfl
    · rw [if_neg c1, decide_eq_true (show 0 ≤ x by omega)]
      by_cases c2 : x < 1099511627776
      · rw [if_neg (by omega), decide_eq_true c2]
        by_cases c3 : x = 0
        · rw [if_neg (by omega), decide_eq_true c3]; simp
        · rw [if_pos (by omega), decide_eq_false c3]
          cases hasS f (letter (i : Int)) <;> simp
      · rw [if_pos (by omega), decide_eq_false c2]; rfl
theorem refright_eq (a0 a1 a2 a3 a4 a5 a6 a7 : Int) (l : List Int) (k : Nat) (hk : 30 ≤ k) : pelotonref15_Right.f k a0 a1 a2 a3 a4 a5 a6 a7 l = some (rightS a0 (msg_num a1 a2 a3 a4 a5 a6 a7) l) := by
  have hf := form_size a0
  obtain ⟨k, rfl⟩ : ∃ x, k = x + 2 := ⟨k - 2, by omega⟩
  unfold pelotonref15_Right.f rightS
  rw [form_eq, Option.bind_some]
  by_cases h1 : msg_of.ok a0 = true
  · rw [if_neg ((ok_form a0).1 h1), h1, lst_has a0 h1]
    by_cases h2 : (l.length : Int) > 4096
    · rw [if_pos h2, decide_eq_false (show ¬ (l.length : Int) ≤ 4096 by omega)]; rfl
    · rw [if_neg h2, decide_eq_true (show (l.length : Int) ≤ 4096 by omega)]
      have hl := right_loop (formS a0) (by omega) a0 a1 a2 a3 a4 a5 a6 a7 l 7 (k + 1) 0 (by omega) (by omega)
      by_cases h3 : (l.length : Int) > 0
      · rw [if_pos h3, decide_eq_false (show ¬ (l.length : Int) ≤ 0 by omega), has_eq _ _ (by omega) (k + 2) (by omega), Option.bind_some]
        cases hasS (formS a0) 43 with
        | false => rfl
        | true =>
          simp only [pelotonref15_Right.j0]
          exact hl
      · rw [if_neg h3, decide_eq_true (show (l.length : Int) ≤ 0 by omega)]
        simp only [pelotonref15_Right.j0]
        exact hl
  · have h0 : msg_of.ok a0 = false := by simpa using h1
    rw [if_pos (by
      by_cases h : (formS a0).toList = []
      · exact h
      · exact absurd ((ok_form a0).2 h) h1), h0]
    rfl

theorem mright_eq (a0 a1 a2 a3 a4 a5 a6 a7 : Int) (l : List Int) (hw : (Lit.int .i64 a0).wf = true) (k : Nat) : msg_Right.f (k + 3) [(⟨a0, a1, a2, a3, a4, a5, a6, a7, l⟩ : S24)] = some (rightS a0 (msg_num a1 a2 a3 a4 a5 a6 a7) l) := by
  unfold msg_Right.f api_Msg_26_at_msg_wrong.f api_Msg_36_at_msg_wrong.f
  simp only [api_Msg_36_at_msg_wrong.l0, rd_T24, List.length_singleton]
  rw [if_pos (by omega), if_pos (by omega), if_pos (by omega)]
  show (((msg_wrong.f a0 a1 a2 a3 a4 a5 a6 a7 l).bind _).bind _).bind _ = _
  rw [wrong_eq _ _ _ _ _ _ _ _ _ hw, Option.bind_some, show wrap64 ((0 : Int) + 1) = 1 from by unfold wrap64; omega]
  cases rightS a0 (msg_num a1 a2 a3 a4 a5 a6 a7) l <;> rfl

theorem five_byt (x : Int) : Byt (msg_Bytes.five x) := by
  intro y hy
  simp only [msg_Bytes.five, List.mem_cons, List.not_mem_nil, or_false] at hy
  rcases hy with rfl | rfl | rfl | rfl | rfl <;> omega
theorem four_byt (x : Int) : Byt (msg_Bytes.four x) := by
  intro y hy
  simp only [msg_Bytes.four, List.mem_cons, List.not_mem_nil, or_false] at hy
  rcases hy with rfl | rfl | rfl | rfl <;> omega
theorem nums_byt (b : Int) (N : Int → Int) : ∀ (m : Nat) (i : Int) (xs : List Int), Byt xs → Byt (msg_Bytes.nums b N m i xs) ∧ (msg_Bytes.nums b N m i xs).length ≤ xs.length + 5 * m := by
  intro m
  induction m with
  | zero => intro i xs h; exact ⟨h, by simp [msg_Bytes.nums]⟩
  | succ m ih =>
    intro i xs h
    simp only [msg_Bytes.nums]
    by_cases c : msg_bit b i = 1
    · rw [if_pos c]
      have h2 := ih (i + 1) (xs ++ msg_Bytes.five (N i)) (Byt.append h (five_byt _))
      refine ⟨h2.1, Nat.le_trans h2.2 ?_⟩
      simp only [List.length_append, msg_Bytes.five, List.length_cons, List.length_nil]
      omega
    · rw [if_neg c]
      have h2 := ih (i + 1) xs h
      exact ⟨h2.1, by omega⟩
theorem lst_byt (l : List Int) : ∀ (m : Nat) (i : Int) (xs : List Int), Byt xs → Byt (msg_Bytes.lst l m i xs) ∧ (msg_Bytes.lst l m i xs).length ≤ xs.length + 4 * m := by
  intro m
  induction m with
  | zero => intro i xs h; exact ⟨h, by simp [msg_Bytes.lst]⟩
  | succ m ih =>
    intro i xs h
    simp only [msg_Bytes.lst]
    have h2 := ih (i + 1) (xs ++ msg_Bytes.four (rd l i)) (Byt.append h (four_byt _))
    refine ⟨h2.1, Nat.le_trans h2.2 ?_⟩
    simp only [List.length_append, msg_Bytes.four, List.length_cons, List.length_nil]
    omega
theorem body_byt (a0 : Int) (N : Int → Int) (l : List Int) (hl : (l.length : Int) ≤ 4096) : Byt (msg_Bytes.body a0 N l) ∧ (msg_Bytes.body a0 N l).length ≤ 20000 := by
  have h1 := nums_byt (msg_of.bits a0) N 7 0 [] (fun x hx => by simp at hx)
  unfold msg_Bytes.body
  by_cases c : msg_of.lst a0 = true
  · rw [if_pos c]
    have h2 := lst_byt l l.length 0 (msg_Bytes.nums (msg_of.bits a0) N 7 0 [] ++ [((l.length : Int) / 256) % 256, (l.length : Int) % 256]) (Byt.append h1.1 (fun x hx => by
      simp only [List.mem_cons, List.not_mem_nil, or_false] at hx
      rcases hx with rfl | rfl <;> omega))
    refine ⟨h2.1, Nat.le_trans h2.2 ?_⟩
    simp only [List.length_append, List.length_cons, List.length_nil] at *
    omega
  · rw [if_neg c]
    exact ⟨h1.1, by have := h1.2; simp only [List.length_nil] at this; omega⟩
theorem right_kind {a0 : Int} {N : Int → Int} {l : List Int} (h : rightS a0 N l = true) : msg_of.ok a0 = true ∧ (l.length : Int) ≤ 4096 ∧ 0 ≤ a0 ∧ a0 ≤ 255 := by
  simp only [rightS, Bool.and_eq_true, decide_eq_true_eq] at h
  refine ⟨h.1.1.1, h.1.1.2, ?_⟩
  rcases kinds15 a0 with hk | hk
  · omega
  · have := (ok_form a0).1 h.1.1.1
    rw [no_form a0 hk] at this
    exact absurd (by decide +kernel) this
theorem bytes_eq (a0 a1 a2 a3 a4 a5 a6 a7 : Int) (l : List Int) (hw : (Lit.int .i64 a0).wf = true) : msg_Bytes.f a0 a1 a2 a3 a4 a5 a6 a7 l = some (if rightS a0 (msg_num a1 a2 a3 a4 a5 a6 a7) l = true then (frL a0 (msg_Bytes.body a0 (msg_num a1 a2 a3 a4 a5 a6 a7) l), 0) else ([], 150)) := by
  unfold msg_Bytes.f
  rw [wrong_eq _ _ _ _ _ _ _ _ _ hw, Option.bind_some]
  cases h : rightS a0 (msg_num a1 a2 a3 a4 a5 a6 a7) l with
  | false => rfl
  | true =>
    have hk := right_kind h
    have hb := body_byt a0 (msg_num a1 a2 a3 a4 a5 a6 a7) l hk.2.1
    rw [if_neg (by simp), if_pos rfl, Int.emod_eq_of_lt hk.2.2.1 (by omega), pack_eq _ _ hk.2.2 hb.1 (by omega)]

theorem awake15_ok (k : Nat) (hk : 400 ≤ k) : pelotonlaw15_awake.f k = some true := by
  have hb : msg_Bytes.body 5 (msg_num 3 0 0 0 1 2 0) [] = [0, 0, 0, 0, 3, 0, 0, 0, 0, 1, 0, 0, 0, 0, 2] := by decide +kernel
  have hB : Byt ([0, 0, 0, 0, 3, 0, 0, 0, 0, 1, 0, 0, 0, 0, 2] : List Int) := by
    intro x hx
    simp only [List.mem_cons, List.not_mem_nil, or_false] at hx
    omega
  unfold pelotonlaw15_awake.f
  rw [bytes_eq _ _ _ _ _ _ _ _ _ (by decide), if_pos (by decide +kernel), hb, Option.bind_some, if_pos rfl, refpack_eq k 5 _ (by omega) hB (by simp) (by simp; omega), Option.bind_some]
  simp

theorem clone_eq (a0 a1 a2 a3 a4 a5 a6 a7 : Int) (l : List Int) (hl : l.length < 35184372088832) : msg_Clone.f a0 a1 a2 a3 a4 a5 a6 a7 l = some (a0, a1, a2, a3, a4, a5, a6, a7, l) := by
  unfold msg_Clone.f slices_Clone_int32_int32.f
  simp only [Option.bind_some, List.length_nil, List.nil_append]
  rw [if_pos (by omega), Option.bind_some]

theorem drop_eq_step (l l' : List Int) (j : Nat) (h : j < l.length) (h' : j < l'.length) : (l.drop j = l'.drop j) ↔ (rd l j = rd l' j ∧ l.drop (j + 1) = l'.drop (j + 1)) := by
  rw [drop_cons l j h, drop_cons l' j h']
  constructor
  · intro e; injection e with e1 e2; exact ⟨e1, e2⟩
  · rintro ⟨e1, e2⟩; rw [e1, e2]

-- needs msg_Same.f
def sameS (a0 : Int) (N : Int → Int) (l : List Int) (b0 : Int) (M : Int → Int) (l' : List Int) : Bool := decide (a0 = b0) && msg_Same.nums N M 7 0 && decide (l = l')
theorem equal_loop (l l' : List Int) (hl : l.length = l'.length) (hb : l.length < 4611686018427387904) : ∀ (m k j : Nat), j + m = l.length → m < k → slices_Equal_int32_int32.l0 k l l' (l.length : Int) (j : Int) = some (decide (l.drop j = l'.drop j)) := by
  intro m
  induction m with
  | zero =>
    intro k j hj hk
    obtain ⟨k, rfl⟩ : ∃ x, k = x + 1 := ⟨k - 1, by omega⟩
    simp only [slices_Equal_int32_int32.l0]
    rw [if_neg (by omega), List.drop_of_length_le (by omega), List.drop_of_length_le (by omega)]
    simp
  | succ m ih =>
    intro k j hj hk
    obtain ⟨k, rfl⟩ : ∃ x, k = x + 1 := ⟨k - 1, by omega⟩
    simp only [slices_Equal_int32_int32.l0]
    rw [if_pos (by omega), if_pos (by omega), if_pos (by omega), if_pos (by omega), next j (l.length) (by omega) (by omega), ih k (j + 1) (by omega) (by omega)]
    have hs := drop_eq_step l l' j (by omega) (by omega)
    by_cases c : rd l (j : Int) = rd l' (j : Int)
    · rw [if_pos c]
      congr 1
      exact decide_eq_decide.2 ⟨fun h => hs.2 ⟨c, h⟩, fun h => (hs.1 h).2⟩
    · rw [if_neg c, decide_eq_false (fun h => c (hs.1 h).1)]
theorem equal_eq (l l' : List Int) (hb : l.length < 4611686018427387904) (k : Nat) (hk : l.length < k) : slices_Equal_int32_int32.f k l l' = some (decide (l = l')) := by
  unfold slices_Equal_int32_int32.f
  by_cases h : l.length = l'.length
  · rw [if_pos (by omega)]
    exact equal_loop l l' h hb l.length k 0 (by omega) hk
  · rw [if_neg (by omega), decide_eq_false (fun e => h (by rw [e]))]
theorem msame_eq (a0 a1 a2 a3 a4 a5 a6 a7 : Int) (l : List Int) (b0 b1 b2 b3 b4 b5 b6 b7 : Int) (l' : List Int) (hb : l.length < 4611686018427387904) (k : Nat) (hk : l.length < k) :
    msg_Same.f k a0 a1 a2 a3 a4 a5 a6 a7 l b0 b1 b2 b3 b4 b5 b6 b7 l' = some (sameS a0 (msg_num a1 a2 a3 a4 a5 a6 a7) l b0 (msg_num b1 b2 b3 b4 b5 b6 b7) l') := by
  unfold msg_Same.f sameS
  rw [equal_eq l l' hb k hk]
  cases msg_Same.nums (msg_num a1 a2 a3 a4 a5 a6 a7) (msg_num b1 b2 b3 b4 b5 b6 b7) 7 0
  · simp
  · by_cases h : a0 = b0
    · rw [if_pos rfl, if_pos h, decide_eq_true h]; simp
    · rw [if_pos rfl, if_neg h, decide_eq_false h]; simp
theorem same_comm (N M : Int → Int) : ∀ (m : Nat) (i : Int), msg_Same.nums N M m i = msg_Same.nums M N m i := by
  intro m
  induction m with
  | zero => intro i; rfl
  | succ m ih =>
    intro i
    simp only [msg_Same.nums]
    by_cases h : N i = M i
    · rw [if_pos h, if_pos h.symm, ih]
    · rw [if_neg h, if_neg (fun e => h e.symm)]
theorem sameS_comm (a0 : Int) (N : Int → Int) (l : List Int) (b0 : Int) (M : Int → Int) (l' : List Int) : sameS a0 N l b0 M l' = sameS b0 M l' a0 N l := by
  unfold sameS
  rw [same_comm N M, decide_eq_decide.2 (eq_comm (a := a0) (b := b0)), decide_eq_decide.2 (eq_comm (a := l) (b := l'))]

-- needs msg_Same.f
theorem refsame_l1 (a0 a1 a2 a3 a4 a5 a6 a7 : Int) (l : List Int) (b0 b1 b2 b3 b4 b5 b6 b7 : Int) (l' : List Int) (hl : l.length = l'.length) (hb : l.length < 4611686018427387904) : ∀ (m k j : Nat), j + m = l.length → m < k → pelotonref15_Same.l1 k (j : Int) a0 a1 a2 a3 a4 a5 a6 a7 l b0 b1 b2 b3 b4 b5 b6 b7 l' = some (decide (l.drop j = l'.drop j)) := by
  intro m
  induction m with
  | zero =>
    intro k j hj hk
    obtain ⟨k, rfl⟩ : ∃ x, k = x + 1 := ⟨k - 1, by omega⟩
    simp only [pelotonref15_Same.l1]
    rw [if_neg (by omega), List.drop_of_length_le (by omega), List.drop_of_length_le (by omega)]
    simp
  | succ m ih =>
    intro k j hj hk
    obtain ⟨k, rfl⟩ : ∃ x, k = x + 1 := ⟨k - 1, by omega⟩
    simp only [pelotonref15_Same.l1]
    rw [if_pos (by omega), if_pos (by omega), if_pos (by omega), next j (l.length) (by omega) (by omega), ih k (j + 1) (by omega) (by omega)]
    have hs := drop_eq_step l l' j (by omega) (by omega)
    by_cases c : rd l (j : Int) = rd l' (j : Int)
    · rw [if_pos c]
      congr 1
      exact decide_eq_decide.2 ⟨fun h => hs.2 ⟨c, h⟩, fun h => (hs.1 h).2⟩
    · rw [if_neg c, decide_eq_false (fun h => c (hs.1 h).1)]
theorem refsame_l0 (a0 a1 a2 a3 a4 a5 a6 a7 : Int) (l : List Int) (b0 b1 b2 b3 b4 b5 b6 b7 : Int) (l' : List Int) (hl : l.length = l'.length) (hb : l.length < 4611686018427387904) : ∀ (m k i : Nat), i + m = 7 → l.length + m + 1 < k → pelotonref15_Same.l0 k ⟨#[101, 114, 112, 108, 115, 116, 107]⟩ (i : Int) a0 a1 a2 a3 a4 a5 a6 a7 l b0 b1 b2 b3 b4 b5 b6 b7 l' = some (msg_Same.nums (msg_num a1 a2 a3 a4 a5 a6 a7) (msg_num b1 b2 b3 b4 b5 b6 b7) m (i : Int) && decide (l = l')) := by
  intro m
  induction m with
  | zero =>
    intro k i hi hk
    obtain ⟨k, rfl⟩ : ∃ x, k = x + 1 := ⟨k - 1, by omega⟩
    simp only [pelotonref15_Same.l0, msg_Same.nums]
    rw [if_neg (by show ¬ (i : Int) < ((7 : Nat) : Int); omega), Bool.true_and]
    exact refsame_l1 a0 a1 a2 a3 a4 a5 a6 a7 l b0 b1 b2 b3 b4 b5 b6 b7 l' hl hb l.length k 0 (by omega) (by omega)
  | succ m ih =>
    intro k i hi hk
    obtain ⟨k, rfl⟩ : ∃ x, k = x + 1 := ⟨k - 1, by omega⟩
    simp only [pelotonref15_Same.l0, msg_Same.nums]
    rw [if_pos (by show (i : Int) < ((7 : Nat) : Int); omega), if_pos (by omega), (num_eq a0 a1 a2 a3 a4 a5 a6 a7 l (i : Int) (by omega) (by omega)).1, Option.bind_some, (num_eq b0 b1 b2 b3 b4 b5 b6 b7 l' (i : Int) (by omega) (by omega)).1, Option.bind_some, next i 1000 (by omega) (by omega), ih k (i + 1) (by omega) (by omega), show ((i + 1 : Nat) : Int) = (i : Int) + 1 by omega]
    by_cases c : msg_num a1 a2 a3 a4 a5 a6 a7 (i : Int) = msg_num b1 b2 b3 b4 b5 b6 b7 (i : Int)
    · rw [if_pos c, if_pos c]
    · rw [if_neg c, if_neg c]; rfl
theorem refsame_eq (a0 a1 a2 a3 a4 a5 a6 a7 : Int) (l : List Int) (b0 b1 b2 b3 b4 b5 b6 b7 : Int) (l' : List Int) (hb : l.length < 4611686018427387904) (k : Nat) (hk : l.length + 20 < k) :
    pelotonref15_Same.f k a0 a1 a2 a3 a4 a5 a6 a7 l b0 b1 b2 b3 b4 b5 b6 b7 l' = some (sameS a0 (msg_num a1 a2 a3 a4 a5 a6 a7) l b0 (msg_num b1 b2 b3 b4 b5 b6 b7) l') := by
  obtain ⟨k, rfl⟩ : ∃ x, k = x + 1 := ⟨k - 1, by omega⟩
  unfold pelotonref15_Same.f sameS
  by_cases h : a0 = b0
  · rw [if_pos h, decide_eq_true h, Bool.true_and]
    simp only [pelotonref15_Same.j0]
    by_cases hl : l.length = l'.length
    · rw [if_neg (by simp [hl])]
      exact refsame_l0 a0 a1 a2 a3 a4 a5 a6 a7 l b0 b1 b2 b3 b4 b5 b6 b7 l' hl hb 7 k 0 (by omega) (by omega)
    · rw [if_pos (by simp; omega), decide_eq_false (fun e => hl (by rw [e])), Bool.and_false]
  · rw [if_neg h, decide_eq_false h]
    simp only [pelotonref15_Same.j0]
    rfl

def numsR (b : Int) (N : Int → Int) : Nat → Int → List Int
  | 0, _ => []
  | m + 1, i => (if msg_bit b i = 1 then msg_Bytes.five (N i) else []) ++ numsR b N m (i + 1)
def lstR (l : List Int) : Nat → Int → List Int
  | 0, _ => []
  | m + 1, j => msg_Bytes.four (rd l j) ++ lstR l m (j + 1)
theorem nums_R (b : Int) (N : Int → Int) : ∀ (m : Nat) (i : Int) (xs : List Int), msg_Bytes.nums b N m i xs = xs ++ numsR b N m i := by
  intro m
  induction m with
  | zero => intro i xs; simp [msg_Bytes.nums, numsR]
  | succ m ih =>
    intro i xs
    simp only [msg_Bytes.nums, numsR]
    rw [ih]
    by_cases c : msg_bit b i = 1
    · rw [if_pos c, if_pos c, List.append_assoc]
    · rw [if_neg c, if_neg c, List.nil_append]
theorem lst_R (l : List Int) : ∀ (m : Nat) (j : Int) (xs : List Int), msg_Bytes.lst l m j xs = xs ++ lstR l m j := by
  intro m
  induction m with
  | zero => intro j xs; simp [msg_Bytes.lst, lstR]
  | succ m ih =>
    intro j xs
    simp only [msg_Bytes.lst, lstR]
    rw [ih, List.append_assoc]
theorem numsR_len (b : Int) (N M : Int → Int) : ∀ (m : Nat) (i : Int), (numsR b N m i).length = (numsR b M m i).length := by
  intro m
  induction m with
  | zero => intro i; rfl
  | succ m ih =>
    intro i
    simp only [numsR, List.length_append]
    rw [ih]
    by_cases c : msg_bit b i = 1
    · rw [if_pos c, if_pos c]; rfl
    · rw [if_neg c, if_neg c]
theorem five_inj {x y : Int} (hx : 0 ≤ x ∧ x < 1099511627776) (hy : 0 ≤ y ∧ y < 1099511627776) (h : msg_Bytes.five x = msg_Bytes.five y) : x = y := by
  simp only [msg_Bytes.five, List.cons.injEq, and_true] at h
  omega
theorem four_inj {x y : Int} (hx : -2147483648 ≤ x ∧ x ≤ 2147483647) (hy : -2147483648 ≤ y ∧ y ≤ 2147483647) (h : msg_Bytes.four x = msg_Bytes.four y) : x = y := by
  simp only [msg_Bytes.four, List.cons.injEq, and_true] at h
  omega
theorem lstR_inj (l l' : List Int) (hl : l.length = l'.length) (hw : ∀ x ∈ l, -2147483648 ≤ x ∧ x ≤ 2147483647) (hw' : ∀ x ∈ l', -2147483648 ≤ x ∧ x ≤ 2147483647) : ∀ (m : Nat) (j : Nat), j + m = l.length → lstR l m (j : Int) = lstR l' m (j : Int) → l.drop j = l'.drop j := by
  intro m
  induction m with
  | zero => intro j hj _; rw [List.drop_of_length_le (by omega), List.drop_of_length_le (by omega)]
  | succ m ih =>
    intro j hj h
    simp only [lstR] at h
    obtain ⟨e1, e2⟩ := List.append_inj h rfl
    rw [drop_eq_step l l' j (by omega) (by omega)]
    refine ⟨four_inj (hw _ (rd_mem l j (by omega))) (hw' _ (rd_mem l' j (by omega))) e1, ih (j + 1) (by omega) ?_⟩
    rw [show ((j + 1 : Nat) : Int) = (j : Int) + 1 by omega]
    exact e2
theorem one_num {f : ByteArray} {i x : Int} (h : oneS f i x = true) : 0 ≤ x ∧ x < 1099511627776 ∧ (hasS f (letter i) = false → x = 0) := by
  simp only [oneS, Bool.and_eq_true, Bool.or_eq_true, decide_eq_true_eq] at h
  refine ⟨h.1.1, h.1.2, fun hh => ?_⟩
  rcases h.2 with h2 | h2
  · exact h2
  · rw [hh] at h2; cases h2
theorem good_all {f : ByteArray} {N : Int → Int} : ∀ (m : Nat) (i : Int), goodS f N m i = true → ∀ j : Int, i ≤ j → j < i + m → oneS f j (N j) = true := by
  intro m
  induction m with
  | zero => intro i _ j h0 h1; omega
  | succ m ih =>
    intro i h j h0 h1
    simp only [goodS, Bool.and_eq_true] at h
    by_cases c : j = i
    · subst c; exact h.1
    · exact ih (i + 1) h.2 j (by omega) (by omega)
theorem bit01 (a0 : Int) (hok : msg_of.ok a0 = true) (i : Int) (h0 : 0 ≤ i) (h1 : i < 7) : msg_bit (msg_of.bits a0) i = 0 ∨ msg_bit (msg_of.bits a0) i = 1 := by
  have hi : i = 0 ∨ i = 1 ∨ i = 2 ∨ i = 3 ∨ i = 4 ∨ i = 5 ∨ i = 6 := by omega
  rcases kinds15 a0 with h | h
  · rcases h with rfl | rfl | rfl | rfl | rfl | rfl | rfl | rfl | rfl | rfl | rfl | rfl | rfl <;> rcases hi with rfl | rfl | rfl | rfl | rfl | rfl | rfl <;> decide +kernel
  · obtain ⟨h1, h2, h3, h4, h5, h6, h7, h8, h9, h10, h11, h12, h13⟩ := h
    simp [msg_of.ok, msg_of.T, h1, h2, h3, h4, h5, h6, h7, h8, h9, h10, h11, h12, h13] at hok

-- needs msg_Same.f
theorem numsR_inj (b : Int) (N M : Int → Int) : ∀ (m : Nat) (i : Int), numsR b N m i = numsR b M m i → (∀ j : Int, i ≤ j → j < i + m → 0 ≤ N j ∧ N j < 1099511627776 ∧ 0 ≤ M j ∧ M j < 1099511627776 ∧ (msg_bit b j ≠ 1 → N j = M j)) → msg_Same.nums N M m i = true := by
  intro m
  induction m with
  | zero => intro i _ _; rfl
  | succ m ih =>
    intro i h hr
    simp only [numsR] at h
    simp only [msg_Same.nums]
    have h0 := hr i (by omega) (by omega)
    by_cases c : msg_bit b i = 1
    · rw [if_pos c, if_pos c] at h
      obtain ⟨e1, e2⟩ := List.append_inj h rfl
      rw [if_pos (five_inj ⟨h0.1, h0.2.1⟩ ⟨h0.2.2.1, h0.2.2.2.1⟩ e1)]
      exact ih (i + 1) e2 (fun j a b => hr j (by omega) (by omega))
    · rw [if_neg c, if_neg c, List.nil_append, List.nil_append] at h
      rw [if_pos (h0.2.2.2.2 c)]
      exact ih (i + 1) h (fun j a b => hr j (by omega) (by omega))
theorem body_inj (a0 : Int) (N M : Int → Int) (l l' : List Int) (hN : rightS a0 N l = true) (hM : rightS a0 M l' = true) (hw : ∀ x ∈ l, -2147483648 ≤ x ∧ x ≤ 2147483647) (hw' : ∀ x ∈ l', -2147483648 ≤ x ∧ x ≤ 2147483647) (h : msg_Bytes.body a0 N l = msg_Bytes.body a0 M l') : msg_Same.nums N M 7 0 = true ∧ l = l' := by
  have hk := right_kind hN
  have hk' := right_kind hM
  simp only [rightS, Bool.and_eq_true] at hN hM
  have gN := good_all 7 0 hN.2
  have gM := good_all 7 0 hM.2
  have hnum : numsR (msg_of.bits a0) N 7 0 = numsR (msg_of.bits a0) M 7 0 → msg_Same.nums N M 7 0 = true := by
    intro e
    refine numsR_inj _ N M 7 0 e (fun j h0 h1 => ?_)
    have oN := one_num (gN j h0 h1)
    have oM := one_num (gM j h0 h1)
    refine ⟨oN.1, oN.2.1, oM.1, oM.2.1, fun hne => ?_⟩
    have hz : msg_bit (msg_of.bits a0) j = 0 := by
      rcases bit01 a0 hk.1 j h0 (by omega) with h2 | h2
      · exact h2
      · exact absurd h2 hne
    have hh := bits_has a0 hk.1 j h0 (by omega)
    rw [hz] at hh
    have hf : hasS (formS a0) (letter j) = false := by
      cases hq : hasS (formS a0) (letter j) with
      | false => rfl
      | true => rw [hq] at hh; simp at hh
    rw [oN.2.2 hf, oM.2.2 hf]
  unfold msg_Bytes.body at h
  by_cases c : msg_of.lst a0 = true
  · rw [if_pos c, if_pos c, lst_R, lst_R, nums_R, nums_R, List.nil_append, List.nil_append, List.append_assoc, List.append_assoc] at h
    obtain ⟨e1, e2⟩ := List.append_inj h (numsR_len _ _ _ _ _)
    obtain ⟨e3, e4⟩ := List.append_inj e2 rfl
    simp only [List.cons.injEq, and_true] at e3
    have hl : l.length = l'.length := by have := hk.2.1; have := hk'.2.1; omega
    refine ⟨hnum e1, ?_⟩
    rw [← hl] at e4
    exact lstR_inj l l' hl hw hw' l.length 0 (by omega) e4
  · rw [if_neg c, if_neg c, nums_R, nums_R, List.nil_append, List.nil_append] at h
    refine ⟨hnum h, ?_⟩
    have cf : msg_of.lst a0 = false := by simpa using c
    have h1 := hN.1.2
    have h2 := hM.1.2
    rw [cf, Bool.or_false, decide_eq_true_eq] at h1 h2
    rw [List.length_eq_zero_iff.1 (show l.length = 0 by omega), List.length_eq_zero_iff.1 (show l'.length = 0 by omega)]
theorem numsR_congr (b : Int) (N M : Int → Int) : ∀ (m : Nat) (i : Int), msg_Same.nums N M m i = true → numsR b N m i = numsR b M m i := by
  intro m
  induction m with
  | zero => intro i _; rfl
  | succ m ih =>
    intro i h
    simp only [msg_Same.nums] at h
    by_cases c : N i = M i
    · rw [if_pos c] at h
      simp only [numsR]
      rw [ih (i + 1) h, c]
    · rw [if_neg c] at h; cases h
theorem apart_fin (a0 b0 : Int) (N M : Int → Int) (l l' : List Int) (hN : rightS a0 N l = true) (hM : rightS b0 M l' = true) (hw : ∀ x ∈ l, -2147483648 ≤ x ∧ x ≤ 2147483647) (hw' : ∀ x ∈ l', -2147483648 ≤ x ∧ x ≤ 2147483647) :
    decide (frL a0 (msg_Bytes.body a0 N l) = frL b0 (msg_Bytes.body b0 M l')) = sameS a0 N l b0 M l' := by
  have hk := right_kind hN
  have hk' := right_kind hM
  have bN := body_byt a0 N l hk.2.1
  have bM := body_byt b0 M l' hk'.2.1
  unfold sameS
  by_cases e : frL a0 (msg_Bytes.body a0 N l) = frL b0 (msg_Bytes.body b0 M l')
  · rw [decide_eq_true e]
    obtain ⟨e1, e2⟩ := frL_same (by omega) (by omega) e
    subst e1
    obtain ⟨e3, e4⟩ := body_inj a0 N M l l' hN hM hw hw' e2
    rw [e3, decide_eq_true e4, decide_eq_true rfl]
    rfl
  · rw [decide_eq_false e]
    cases hs : (decide (a0 = b0) && msg_Same.nums N M 7 0 && decide (l = l')) with
    | false => rfl
    | true =>
      simp only [Bool.and_eq_true, decide_eq_true_eq] at hs
      obtain ⟨⟨e1, e2⟩, e3⟩ := hs
      subst e1 e3
      refine absurd ?_ e
      unfold msg_Bytes.body
      rw [nums_R, nums_R, numsR_congr _ N M 7 0 e2]

def idxF (b : Int) : Nat → Int → List Int
  | 0, _ => []
  | m + 1, i => if msg_bit b i = 1 then i :: idxF b m (i + 1) else idxF b m (i + 1)
theorem idxF_mem (b : Int) : ∀ (m : Nat) (i j : Int), j ∈ idxF b m i → i ≤ j ∧ j < i + m ∧ msg_bit b j = 1
  | 0, _, _, h => by simp [idxF] at h
  | m + 1, i, j, h => by
    rw [idxF] at h
    split at h
    · rename_i c
      rcases List.mem_cons.1 h with rfl | h
      · exact ⟨by omega, by omega, c⟩
      · have := idxF_mem b m (i + 1) j h
        exact ⟨by omega, by omega, this.2.2⟩
    · have := idxF_mem b m (i + 1) j h
      exact ⟨by omega, by omega, this.2.2⟩
theorem idxF_in (b : Int) : ∀ (m : Nat) (i j : Int), i ≤ j → j < i + m → msg_bit b j = 1 → j ∈ idxF b m i
  | 0, _, _, h1, h2, _ => by omega
  | m + 1, i, j, h1, h2, h3 => by
    rw [idxF]
    by_cases e : j = i
    · subst e; rw [if_pos h3]; exact List.mem_cons_self
    · have := idxF_in b m (i + 1) j (by omega) (by omega) h3
      split
      · exact List.mem_cons_of_mem _ this
      · exact this
theorem idxF_nodup (b : Int) : ∀ (m : Nat) (i : Int), (idxF b m i).Nodup
  | 0, _ => by simp [idxF]
  | m + 1, i => by
    rw [idxF]
    split
    · refine List.nodup_cons.2 ⟨fun h => ?_, idxF_nodup b m (i + 1)⟩
      have := idxF_mem b m (i + 1) i h
      omega
    · exact idxF_nodup b m (i + 1)
theorem numsR_idx (b : Int) (N : Int → Int) : ∀ (m : Nat) (i : Int), numsR b N m i = (idxF b m i).flatMap (fun j => msg_Bytes.five (N j))
  | 0, _ => rfl
  | m + 1, i => by
    rw [numsR, idxF, numsR_idx b N m (i + 1)]
    split <;> simp
def cellsF (a0 : Int) : List Int := (idxF (msg_of.bits a0) 7 0).map letter ++ (if msg_of.lst a0 = true then [43] else [])
theorem form_at (a0 : Int) (hok : msg_of.ok a0 = true) : (formS a0).size = (cellsF a0).length ∧ (cellsF a0).length ≤ 7 ∧ ∀ j : Nat, j < (cellsF a0).length → bt (formS a0) (j : Int) = rd (cellsF a0) (j : Int) := by
  have key : (formS a0).size = (cellsF a0).length ∧ (cellsF a0).length ≤ 7 ∧ ∀ j : Fin 8, (j : Nat) < (cellsF a0).length → bt (formS a0) ((j : Nat) : Int) = rd (cellsF a0) ((j : Nat) : Int) := by
    rcases kinds15 a0 with h | h
    · rcases h with rfl | rfl | rfl | rfl | rfl | rfl | rfl | rfl | rfl | rfl | rfl | rfl | rfl <;> decide +kernel
    · obtain ⟨h1, h2, h3, h4, h5, h6, h7, h8, h9, h10, h11, h12, h13⟩ := h
      simp [msg_of.ok, msg_of.T, h1, h2, h3, h4, h5, h6, h7, h8, h9, h10, h11, h12, h13] at hok
  exact ⟨key.1, key.2.1, fun j hj => key.2.2 ⟨j, by omega⟩ hj⟩

theorem refnum_letter (a0 a1 a2 a3 a4 a5 a6 a7 : Int) (l : List Int) (i : Int) (h0 : 0 ≤ i) (h1 : i < 7) : pelotonref15_Num.f a0 a1 a2 a3 a4 a5 a6 a7 l (letter i) = some (msg_num a1 a2 a3 a4 a5 a6 a7 i) ∧ letter i ≠ 43 := by
  obtain ⟨e1, e2⟩ := num_eq a0 a1 a2 a3 a4 a5 a6 a7 l i h0 h1
  refine ⟨by rw [← e2]; exact e1, ?_⟩
  have hi : i = 0 ∨ i = 1 ∨ i = 2 ∨ i = 3 ∨ i = 4 ∨ i = 5 ∨ i = 6 := by omega
  rcases hi with rfl | rfl | rfl | rfl | rfl | rfl | rfl <;> decide
theorem refbytes_l1 (f : ByteArray) (a0 a1 a2 a3 a4 a5 a6 a7 : Int) (l : List Int) (jf : Int) (hl : l.length ≤ 4096) : ∀ (m k j : Nat) (xs : List Int), j + m = l.length → xs.length + 4 * m ≤ 30000 →
    pelotonref15_Bytes.l1 (k + m + 1) f xs jf (j : Int) a0 a1 a2 a3 a4 a5 a6 a7 l = pelotonref15_Bytes.l0 k f (xs ++ lstR l m (j : Int)) (wrap64 (jf + 1)) a0 a1 a2 a3 a4 a5 a6 a7 l := by
  intro m
  induction m with
  | zero =>
    intro k j xs hj _
    rw [Nat.add_zero, pelotonref15_Bytes.l1, if_neg (by omega), lstR, List.append_nil]
  | succ m ih =>
    intro k j xs hj hx
    have hf : ∀ y : Int, ([y % 4294967296 / 16777216 % 256, y % 4294967296 / 65536 % 256, y % 4294967296 / 256 % 256, y % 4294967296 % 256] : List Int) = msg_Bytes.four y := by
      intro y
      simp only [msg_Bytes.four, List.cons.injEq, and_true]
      omega
    rw [show k + (m + 1) + 1 = (k + m + 1) + 1 by omega, pelotonref15_Bytes.l1, if_pos (by omega), if_pos (by omega), Option.bind_some, hf, if_pos (by simp only [msg_Bytes.four, List.length_cons, List.length_nil]; omega), next j 5000 (by omega) (by omega), ih k (j + 1) _ (by omega) (by rw [List.length_append]; simp only [msg_Bytes.four, List.length_cons, List.length_nil]; omega), lstR, List.append_assoc]
    rfl
theorem refbytes_l0 (a0 a1 a2 a3 a4 a5 a6 a7 : Int) (l : List Int) (hok : msg_of.ok a0 = true) (hl : l.length ≤ 4096) (h0 : 0 ≤ a0 ∧ a0 ≤ 255) (hN : ∀ i : Int, 0 ≤ i → i < 7 → 0 ≤ msg_num a1 a2 a3 a4 a5 a6 a7 i ∧ msg_num a1 a2 a3 a4 a5 a6 a7 i < 1099511627776) : ∀ (r d : List Int) (k : Nat) (xs : List Int), idxF (msg_of.bits a0) 7 0 = d ++ r → xs.length + 5 * r.length ≤ 100 → Byt xs → 300000 + r.length ≤ k →
    pelotonref15_Bytes.l0 k (formS a0) xs (d.length : Int) a0 a1 a2 a3 a4 a5 a6 a7 l = some (frL a0 (xs ++ r.flatMap (fun j => msg_Bytes.five (msg_num a1 a2 a3 a4 a5 a6 a7 j)) ++ (if msg_of.lst a0 = true then ([((l.length : Int) / 256) % 256, (l.length : Int) % 256] : List Int) ++ lstR l l.length 0 else []))) := by
  obtain ⟨f1, f2, f3⟩ := form_at a0 hok
  intro r
  induction r with
  | nil =>
    intro d k xs hd hx hb hk
    rw [List.append_nil] at hd
    obtain ⟨k, rfl⟩ : ∃ x, k = x + 1 := ⟨k - 1, by omega⟩
    have hlen : (cellsF a0).length = d.length + (if msg_of.lst a0 = true then 1 else 0) := by
      unfold cellsF
      rw [hd]
      split <;> simp
    by_cases c : msg_of.lst a0 = true
    · rw [if_pos c] at hlen ⊢
      have hat : bt (formS a0) (d.length : Int) = 43 := by
        rw [f3 _ (by omega), rd_nat _ _ (by omega)]
        unfold cellsF
        simp only [hd, if_pos c]
        rw [List.getElem_append_right (by simp)]
        simp
      have hw : wrap64 ((l.length : Int) / 256) = (l.length : Int) / 256 := by rw [wrap64_wf _ (by omega) (by omega)]
      rw [pelotonref15_Bytes.l0, f1, if_pos (by omega), if_pos (by omega), if_pos hat, Option.bind_some, hw, if_pos (by simp; omega)]
      obtain ⟨k', rfl⟩ : ∃ x, k = (x + 1) + l.length + 1 := ⟨k - l.length - 2, by omega⟩
      have hq := refbytes_l1 (formS a0) a0 a1 a2 a3 a4 a5 a6 a7 l (d.length : Int) hl l.length (k' + 1) 0 (xs ++ [(l.length : Int) / 256 % 256, (l.length : Int) % 256]) (by omega) (by rw [List.length_append]; simp only [List.length_cons, List.length_nil] at hx ⊢; omega)
      rw [show ((0 : Nat) : Int) = 0 from rfl] at hq
      rw [hq]
      have hB : Byt (xs ++ [(l.length : Int) / 256 % 256, (l.length : Int) % 256] ++ lstR l l.length 0) := by
        refine Byt.append (Byt.append hb ?_) ?_
        · intro x hx
          simp only [List.mem_cons, List.not_mem_nil, or_false] at hx
          rcases hx with rfl | rfl <;> omega
        · have := (lst_byt l l.length 0 [] (fun x hx => by simp at hx)).1
          rw [lst_R, List.nil_append] at this
          exact this
      have hL : (lstR l l.length 0).length ≤ 4 * l.length := by
        have := (lst_byt l l.length 0 [] (fun x hx => by simp at hx)).2
        rw [lst_R, List.nil_append] at this
        simpa using this
      have hl2 : (xs ++ [(l.length : Int) / 256 % 256, (l.length : Int) % 256] ++ lstR l l.length 0).length ≤ 20000 := by
        rw [List.length_append, List.length_append]
        simp only [List.length_cons, List.length_nil] at *
        omega
      rw [pelotonref15_Bytes.l0, f1, wrap64_wf ((d.length : Int) + 1) (by omega) (by omega), if_neg (by omega), Int.emod_eq_of_lt h0.1 (by omega)]
      rw [refpack_eq k' a0 _ h0 hB (by omega) (by omega), Option.bind_some]
      simp
    · rw [if_neg c] at hlen ⊢
      rw [pelotonref15_Bytes.l0, f1, if_neg (by omega), Int.emod_eq_of_lt h0.1 (by omega), refpack_eq k a0 xs h0 hb (by simp at hx; omega) (by simp at hx; omega), Option.bind_some]
      simp
  | cons i r ih =>
    intro d k xs hd hx hb hk
    obtain ⟨k, rfl⟩ : ∃ x, k = x + 1 := ⟨k - 1, by omega⟩
    have hlt : d.length < (cellsF a0).length := by
      unfold cellsF
      rw [hd, List.length_append, List.length_map, List.length_append, List.length_cons]; omega
    have hi := idxF_mem (msg_of.bits a0) 7 0 i (by rw [hd]; simp)
    have hat : bt (formS a0) (d.length : Int) = letter i := by
      rw [f3 _ hlt, rd_nat _ _ hlt]
      unfold cellsF
      simp only [hd, List.map_append, List.map_cons]
      rw [List.getElem_append_left (by simp), List.getElem_append_right (by simp)]
      simp
    obtain ⟨n1, n2⟩ := refnum_letter a0 a1 a2 a3 a4 a5 a6 a7 l i hi.1 (by omega)
    obtain ⟨g1, g2⟩ := hN i hi.1 (by omega)
    have hfive : ([wrap64 (Int.tdiv (msg_num a1 a2 a3 a4 a5 a6 a7 i) 4294967296) % 256, wrap64 (Int.tdiv (msg_num a1 a2 a3 a4 a5 a6 a7 i) 16777216) % 256, wrap64 (Int.tdiv (msg_num a1 a2 a3 a4 a5 a6 a7 i) 65536) % 256, wrap64 (Int.tdiv (msg_num a1 a2 a3 a4 a5 a6 a7 i) 256) % 256, msg_num a1 a2 a3 a4 a5 a6 a7 i % 256] : List Int) = msg_Bytes.five (msg_num a1 a2 a3 a4 a5 a6 a7 i) := by
      generalize msg_num a1 a2 a3 a4 a5 a6 a7 i = z at *
      rw [Int.tdiv_eq_ediv_of_nonneg g1, Int.tdiv_eq_ediv_of_nonneg g1, Int.tdiv_eq_ediv_of_nonneg g1, Int.tdiv_eq_ediv_of_nonneg g1, wrap64_wf _ (by omega) (by omega), wrap64_wf _ (by omega) (by omega), wrap64_wf _ (by omega) (by omega), wrap64_wf _ (by omega) (by omega)]
      rfl
    have h5 : (msg_Bytes.five (msg_num a1 a2 a3 a4 a5 a6 a7 i)).length = 5 := rfl
    rw [List.length_cons] at hx
    have hnx := ih (d ++ [i]) k (xs ++ msg_Bytes.five (msg_num a1 a2 a3 a4 a5 a6 a7 i)) (by rw [hd]; simp) (by rw [List.length_append, h5]; omega) (hb.append (five_byt _))
    rw [pelotonref15_Bytes.l0, f1, if_pos (by omega), if_pos (by omega), hat, if_neg n2, n1, Option.bind_some, hfive, Option.bind_some, if_pos (by rw [h5]; omega), wrap64_wf _ (by omega) (by omega)]
    rw [List.length_append, List.length_singleton] at hnx
    rw [show ((d.length : Int) + 1) = ((d.length + 1 : Nat) : Int) by omega]
    rw [hnx (by rw [List.length_cons] at hk; omega), List.flatMap_cons]
    simp only [List.append_assoc]
theorem refbytes_eq (a0 a1 a2 a3 a4 a5 a6 a7 : Int) (l : List Int) (hr : rightS a0 (msg_num a1 a2 a3 a4 a5 a6 a7) l = true) (k : Nat) (hk : 300100 ≤ k) : pelotonref15_Bytes.f k a0 a1 a2 a3 a4 a5 a6 a7 l = some (frL a0 (msg_Bytes.body a0 (msg_num a1 a2 a3 a4 a5 a6 a7) l)) := by
  have hkd := right_kind hr
  have hr2 := hr
  simp only [rightS, Bool.and_eq_true] at hr2
  have gN := good_all 7 0 hr2.2
  obtain ⟨k, rfl⟩ : ∃ x, k = x + 2 := ⟨k - 2, by omega⟩
  have hlen : (idxF (msg_of.bits a0) 7 0).length ≤ 7 := by
    have := (form_at a0 hkd.1).2.1
    unfold cellsF at this
    rw [List.length_append, List.length_map] at this
    omega
  have h := refbytes_l0 a0 a1 a2 a3 a4 a5 a6 a7 l hkd.1 (by omega) hkd.2.2 (fun i h0 h1 => by have := one_num (gN i h0 (by omega)); exact ⟨this.1, this.2.1⟩) (idxF (msg_of.bits a0) 7 0) [] (k + 2) [] rfl (by simp; omega) (fun x hx => by simp at hx) (by omega)
  unfold pelotonref15_Bytes.f
  rw [form_eq, Option.bind_some]
  have e0 : (([] : List Int).length : Int) = 0 := rfl
  rw [e0] at h
  rw [h]
  unfold msg_Bytes.body
  rw [List.nil_append, ← numsR_idx]
  by_cases c : msg_of.lst a0 = true
  · rw [if_pos c, if_pos c, lst_R, nums_R, List.nil_append, List.append_assoc]
  · rw [if_neg c, if_neg c, nums_R, List.nil_append, List.append_nil]

def rdn (xs : List Int) : Int := rdr.num xs xs.length 0 0
theorem num5 (a b c d e : Int) (ha : 0 ≤ a ∧ a ≤ 255) (hb : 0 ≤ b ∧ b ≤ 255) (hc : 0 ≤ c ∧ c ≤ 255) (hd : 0 ≤ d ∧ d ≤ 255) (he : 0 ≤ e ∧ e ≤ 255) (t : List Int) : rdr.num ((a :: b :: c :: d :: e :: t).take 5) 5 0 0 = (((a * 256 + b) * 256 + c) * 256 + d) * 256 + e := by
  have h : rdr.num ((a :: b :: c :: d :: e :: t).take 5) 5 0 0 = rdr.step (rdr.step (rdr.step (rdr.step (rdr.step 0 a) b) c) d) e := rfl
  rw [h, rdr.step_eq 0 a (by omega) (by omega) ha.1 ha.2, rdr.step_eq _ b (by omega) (by omega) hb.1 hb.2, rdr.step_eq _ c (by omega) (by omega) hc.1 hc.2, rdr.step_eq _ d (by omega) (by omega) hd.1 hd.2, rdr.step_eq _ e (by omega) (by omega) he.1 he.2]
  omega
theorem num4 (a b c d : Int) (ha : 0 ≤ a ∧ a ≤ 255) (hb : 0 ≤ b ∧ b ≤ 255) (hc : 0 ≤ c ∧ c ≤ 255) (hd : 0 ≤ d ∧ d ≤ 255) (t : List Int) : rdr.num ((a :: b :: c :: d :: t).take 4) 4 0 0 = ((a * 256 + b) * 256 + c) * 256 + d := by
  have h : rdr.num ((a :: b :: c :: d :: t).take 4) 4 0 0 = rdr.step (rdr.step (rdr.step (rdr.step 0 a) b) c) d := rfl
  rw [h, rdr.step_eq 0 a (by omega) (by omega) ha.1 ha.2, rdr.step_eq _ b (by omega) (by omega) hb.1 hb.2, rdr.step_eq _ c (by omega) (by omega) hc.1 hc.2, rdr.step_eq _ d (by omega) (by omega) hd.1 hd.2]
  omega
theorem num2 (a b : Int) (ha : 0 ≤ a ∧ a ≤ 255) (hb : 0 ≤ b ∧ b ≤ 255) (t : List Int) : rdr.num ((a :: b :: t).take 2) 2 0 0 = a * 256 + b := by
  have h : rdr.num ((a :: b :: t).take 2) 2 0 0 = rdr.step (rdr.step 0 a) b := rfl
  rw [h, rdr.step_eq 0 a (by omega) (by omega) ha.1 ha.2, rdr.step_eq _ b (by omega) (by omega) hb.1 hb.2]
  omega
theorem take5 (xs : List Int) (hl : 5 ≤ xs.length) (hb : Byt xs) : msg_Bytes.five (rdr.num (xs.take 5) 5 0 0) = xs.take 5 ∧ 0 ≤ rdr.num (xs.take 5) 5 0 0 ∧ rdr.num (xs.take 5) 5 0 0 < 1099511627776 := by
  match xs, hl, hb with
  | a :: b :: c :: d :: e :: t, _, hb =>
    have ha := hb a (by simp); have hb' := hb b (by simp); have hc := hb c (by simp); have hd := hb d (by simp); have he := hb e (by simp)
    rw [num5 a b c d e ha hb' hc hd he t]
    refine ⟨?_, by omega, by omega⟩
    simp only [msg_Bytes.five, List.take, List.cons.injEq, and_true]
    omega
theorem take4 (xs : List Int) (hl : 4 ≤ xs.length) (hb : Byt xs) : msg_Bytes.four (wrap32 (rdr.num (xs.take 4) 4 0 0)) = xs.take 4 ∧ -2147483648 ≤ wrap32 (rdr.num (xs.take 4) 4 0 0) ∧ wrap32 (rdr.num (xs.take 4) 4 0 0) ≤ 2147483647 := by
  match xs, hl, hb with
  | a :: b :: c :: d :: t, _, hb =>
    have ha := hb a (by simp); have hb' := hb b (by simp); have hc := hb c (by simp); have hd := hb d (by simp)
    rw [num4 a b c d ha hb' hc hd t]
    refine ⟨?_, by unfold wrap32; omega, by unfold wrap32; omega⟩
    simp only [msg_Bytes.four, List.take, List.cons.injEq, and_true, wrap32]
    omega
def numsP : List Int → (Int → Int) → List Int → (Int → Int)
  | [], N, _ => N
  | i :: r, N, xs => numsP r (rdr.upd N i (rdr.num (xs.take 5) 5 0 0)) (xs.drop 5)
theorem nums_P (b : Int) : ∀ (m : Nat) (i : Int) (N : Int → Int) (xs : List Int), rdr.nums b m i N xs = if 5 * (idxF b m i).length ≤ xs.length then some (numsP (idxF b m i) N xs, xs.drop (5 * (idxF b m i).length)) else none
  | 0, _, N, xs => by simp [rdr.nums, idxF, numsP]
  | m + 1, i, N, xs => by
    rw [rdr.nums, idxF]
    by_cases c : msg_bit b i = 1
    · rw [if_pos c, if_pos c, List.length_cons]
      by_cases h : 5 ≤ xs.length
      · rw [if_pos h, nums_P b m (i + 1), List.length_drop]
        by_cases h2 : 5 * (idxF b m (i + 1)).length ≤ xs.length - 5
        · rw [if_pos h2, if_pos (by omega), List.drop_drop, numsP, show 5 + 5 * (idxF b m (i + 1)).length = 5 * ((idxF b m (i + 1)).length + 1) by omega]
        · rw [if_neg h2, if_neg (by omega)]
      · rw [if_neg h, if_neg (by omega)]
    · rw [if_neg c, if_neg c, nums_P b m (i + 1)]
theorem numsP_out : ∀ (r : List Int) (N : Int → Int) (xs : List Int) (j : Int), j ∉ r → numsP r N xs j = N j
  | [], _, _, _, _ => rfl
  | i :: r, N, xs, j, h => by
    rw [numsP, numsP_out r _ _ j (fun hm => h (List.mem_cons_of_mem _ hm)), rdr.upd, if_neg (fun e => h (by rw [e]; exact List.mem_cons_self))]
theorem numsP_eq : ∀ (r : List Int) (N : Int → Int) (xs : List Int), r.Nodup → 5 * r.length ≤ xs.length → Byt xs → r.flatMap (fun j => msg_Bytes.five (numsP r N xs j)) = xs.take (5 * r.length) ∧ ∀ j ∈ r, 0 ≤ numsP r N xs j ∧ numsP r N xs j < 1099511627776
  | [], _, _, _, _, _ => ⟨by simp, fun j hj => by cases hj⟩
  | i :: r, N, xs, hn, hl, hb => by
    rw [List.length_cons] at hl
    obtain ⟨hi, hr⟩ := List.nodup_cons.1 hn
    obtain ⟨t1, t2, t3⟩ := take5 xs (by omega) hb
    obtain ⟨e1, e2⟩ := numsP_eq r (rdr.upd N i (rdr.num (xs.take 5) 5 0 0)) (xs.drop 5) hr (by rw [List.length_drop]; omega) (hb.drop 5)
    have hv : numsP (i :: r) N xs i = rdr.num (xs.take 5) 5 0 0 := by rw [numsP, numsP_out r _ _ i hi, rdr.upd, if_pos rfl]
    refine ⟨?_, fun j hj => ?_⟩
    · rw [List.flatMap_cons, hv, t1]
      rw [show (fun j => msg_Bytes.five (numsP (i :: r) N xs j)) = fun j => msg_Bytes.five (numsP r (rdr.upd N i (rdr.num (xs.take 5) 5 0 0)) (xs.drop 5) j) from rfl, e1, List.length_cons, show 5 * (r.length + 1) = 5 + 5 * r.length by omega, List.take_add]
    · rcases List.mem_cons.1 hj with rfl | hj
      · rw [hv]; exact ⟨t2, t3⟩
      · exact e2 j hj
def listP : Nat → List Int → List Int
  | 0, _ => []
  | m + 1, xs => wrap32 (rdr.num (xs.take 4) 4 0 0) :: listP m (xs.drop 4)
theorem list_P : ∀ (m : Nat) (acc xs : List Int), rdr.list m acc xs = if 4 * m ≤ xs.length then some (acc ++ listP m xs, xs.drop (4 * m)) else none
  | 0, acc, xs => by simp [rdr.list, listP]
  | m + 1, acc, xs => by
    rw [rdr.list]
    by_cases h : 4 ≤ xs.length
    · rw [if_pos h, list_P m, List.length_drop]
      by_cases h2 : 4 * m ≤ xs.length - 4
      · rw [if_pos h2, if_pos (by omega), List.drop_drop, listP, List.append_assoc, show 4 + 4 * m = 4 * (m + 1) by omega]
        rfl
      · rw [if_neg h2, if_neg (by omega)]
    · rw [if_neg h, if_neg (by omega)]
theorem listP_len : ∀ (m : Nat) (xs : List Int), (listP m xs).length = m
  | 0, _ => rfl
  | m + 1, xs => by rw [listP, List.length_cons, listP_len m]
theorem lstR_cons (x : Int) (l : List Int) : ∀ (m : Nat) (j : Nat), lstR (x :: l) m ((j + 1 : Nat) : Int) = lstR l m (j : Int)
  | 0, _ => rfl
  | m + 1, j => by
    rw [lstR, lstR, show ((j + 1 : Nat) : Int) + 1 = ((j + 1 + 1 : Nat) : Int) by omega, lstR_cons x l m (j + 1), show ((j + 1 : Nat) : Int) = (j : Int) + 1 by omega]
    congr 2
theorem listP_eq : ∀ (m : Nat) (xs : List Int), 4 * m ≤ xs.length → Byt xs → lstR (listP m xs) m 0 = xs.take (4 * m) ∧ ∀ x ∈ listP m xs, -2147483648 ≤ x ∧ x ≤ 2147483647
  | 0, _, _, _ => ⟨by simp [lstR], fun x hx => by simp [listP] at hx⟩
  | m + 1, xs, hl, hb => by
    obtain ⟨t1, t2, t3⟩ := take4 xs (by omega) hb
    obtain ⟨e1, e2⟩ := listP_eq m (xs.drop 4) (by rw [List.length_drop]; omega) (hb.drop 4)
    refine ⟨?_, fun x hx => ?_⟩
    · have hr : rd (listP (m + 1) xs) 0 = wrap32 (rdr.num (xs.take 4) 4 0 0) := rfl
      have hc := lstR_cons (wrap32 (rdr.num (xs.take 4) 4 0 0)) (listP m (xs.drop 4)) m 0
      rw [lstR, hr, t1, show (0 : Int) + 1 = ((0 + 1 : Nat) : Int) from rfl, listP, hc, show ((0 : Nat) : Int) = 0 from rfl, e1, show 4 * (m + 1) = 4 + 4 * m by omega, List.take_add]
    · rw [listP] at hx
      rcases List.mem_cons.1 hx with rfl | hx
      · exact ⟨t2, t3⟩
      · exact e2 x hx

def cnt15 (a0 : Int) : Nat := (idxF (msg_of.bits a0) 7 0).length
def len15 (c : Nat) (body : List Int) : Int := rd body ((5 * c : Nat) : Int) * 256 + rd body ((5 * c + 1 : Nat) : Int)
def faultB (c : Nat) (plus : Bool) (body : List Int) : Int :=
  if plus = true then (if body.length < 5 * c + 2 then 150 else if len15 c body > 4096 then 150 else if (body.length : Int) = 5 * c + 2 + 4 * len15 c body then 0 else 150) else if body.length = 5 * c then 0 else 150
def numsOf (a0 : Int) (body : List Int) : Int → Int := numsP (idxF (msg_of.bits a0) 7 0) (fun _ => 0) body
def listOf (a0 : Int) (body : List Int) : List Int := if msg_of.lst a0 = true then listP (len15 (cnt15 a0) body).toNat (body.drop (5 * cnt15 a0 + 2)) else []
theorem two_at (c : Nat) (body : List Int) (hl : 5 * c + 2 ≤ body.length) (hb : Byt body) : rdr.num ((body.drop (5 * c)).take 2) 2 0 0 = len15 c body ∧ 0 ≤ len15 c body ∧ len15 c body ≤ 65535 := by
  have d1 := drop_cons body (5 * c) (by omega)
  have d2 := drop_cons body (5 * c + 1) (by omega)
  have h1 := hb _ (rd_mem body (5 * c) (by omega))
  have h2 := hb _ (rd_mem body (5 * c + 1) (by omega))
  rw [d1, d2, num2 _ _ h1 h2]
  unfold len15
  refine ⟨rfl, by omega, by omega⟩
theorem nums_good (a0 : Int) (body : List Int) (hok : msg_of.ok a0 = true) (hl : 5 * cnt15 a0 ≤ body.length) (hb : Byt body) : goodS (formS a0) (numsOf a0 body) 7 0 = true := by
  have hg : ∀ (m : Nat) (i : Int), 0 ≤ i → i + m = 7 → goodS (formS a0) (numsOf a0 body) m i = true := by
    intro m
    induction m with
    | zero => intro i _ _; rfl
    | succ m ih =>
      intro i h0 h1
      rw [goodS, ih (i + 1) (by omega) (by omega), Bool.and_true]
      have hh := bits_has a0 hok i h0 (by omega)
      unfold oneS
      by_cases c : msg_bit (msg_of.bits a0) i = 1
      · have hm := idxF_in (msg_of.bits a0) 7 0 i h0 (by omega) c
        obtain ⟨_, e2⟩ := numsP_eq (idxF (msg_of.bits a0) 7 0) (fun _ => 0) body (idxF_nodup _ _ _) hl hb
        obtain ⟨g1, g2⟩ := e2 i hm
        rw [c] at hh
        have hhas : hasS (formS a0) (letter i) = true := by
          cases hq : hasS (formS a0) (letter i) with
          | true => rfl
          | false => rw [hq] at hh; simp at hh
        show (decide (0 ≤ numsP _ _ _ i) && decide (numsP _ _ _ i < 1099511627776) && (decide (numsP _ _ _ i = 0) || _)) = true
        rw [decide_eq_true g1, decide_eq_true g2, hhas]; simp
      · have hz : numsOf a0 body i = 0 := numsP_out _ _ _ _ (fun hm => c (idxF_mem _ _ _ _ hm).2.2)
        rw [hz]; simp
  exact hg 7 0 (by omega) (by omega)
theorem msgnum_fn (N : Int → Int) (i : Int) (h0 : 0 ≤ i) (h1 : i < 7) : msg_num (N 0) (N 1) (N 2) (N 3) (N 4) (N 5) (N 6) i = N i := by
  have hi : i = 0 ∨ i = 1 ∨ i = 2 ∨ i = 3 ∨ i = 4 ∨ i = 5 ∨ i = 6 := by omega
  rcases hi with rfl | rfl | rfl | rfl | rfl | rfl | rfl <;> rfl
theorem good_congr (f : ByteArray) (N M : Int → Int) : ∀ (m : Nat) (i : Int), (∀ j : Int, i ≤ j → j < i + m → N j = M j) → goodS f N m i = goodS f M m i
  | 0, _, _ => rfl
  | m + 1, i, h => by rw [goodS, goodS, h i (by omega) (by omega), good_congr f N M m (i + 1) (fun j a b => h j (by omega) (by omega))]
theorem right_fn (a0 : Int) (N : Int → Int) (l : List Int) : rightS a0 (msg_num (N 0) (N 1) (N 2) (N 3) (N 4) (N 5) (N 6)) l = rightS a0 N l := by
  unfold rightS
  rw [good_congr (formS a0) _ N 7 0 (fun j h0 h1 => msgnum_fn N j h0 (by omega))]
theorem numsR_fn (b : Int) (N : Int → Int) : ∀ (m : Nat) (i : Int), 0 ≤ i → i + m ≤ 7 → numsR b (msg_num (N 0) (N 1) (N 2) (N 3) (N 4) (N 5) (N 6)) m i = numsR b N m i
  | 0, _, _, _ => rfl
  | m + 1, i, h0, h1 => by rw [numsR, numsR, numsR_fn b N m (i + 1) (by omega) (by omega), msgnum_fn N i h0 (by omega)]
theorem body_fn (a0 : Int) (N : Int → Int) (l : List Int) : msg_Bytes.body a0 (msg_num (N 0) (N 1) (N 2) (N 3) (N 4) (N 5) (N 6)) l = msg_Bytes.body a0 N l := by
  unfold msg_Bytes.body
  rw [nums_R, nums_R, numsR_fn _ N 7 0 (by omega) (by omega)]
theorem faultB_p (c : Nat) (body : List Int) : faultB c true body = if body.length < 5 * c + 2 then 150 else if len15 c body > 4096 then 150 else if (body.length : Int) = 5 * c + 2 + 4 * len15 c body then 0 else 150 := rfl
theorem faultB_n (c : Nat) (body : List Int) : faultB c false body = if body.length = 5 * c then 0 else 150 := rfl
theorem parse_g (a0 : Int) (body : List Int) (hk : 0 ≤ a0 ∧ a0 ≤ 255) (hb : Byt body) (hok : msg_of.ok a0 = true) :
    msg_Parse.g a0 body 0 = some (if faultB (cnt15 a0) (msg_of.lst a0) body = 0 then (a0, numsOf a0 body 0, numsOf a0 body 1, numsOf a0 body 2, numsOf a0 body 3, numsOf a0 body 4, numsOf a0 body 5, numsOf a0 body 6, listOf a0 body, 0) else msg_Parse.bad 150) ∧
    (faultB (cnt15 a0) (msg_of.lst a0) body = 0 → rightS a0 (numsOf a0 body) (listOf a0 body) = true ∧ msg_Bytes.body a0 (numsOf a0 body) (listOf a0 body) = body ∧ ∀ x ∈ listOf a0 body, -2147483648 ≤ x ∧ x ≤ 2147483647) := by
  have hwf : (Lit.int .i64 a0).wf = true := by
    have hmin : IntKind.i64.min = -9223372036854775808 := rfl
    have hmax : IntKind.i64.max = 9223372036854775807 := rfl
    simp only [Lit.wf, Bool.and_eq_true, decide_eq_true_eq]; omega
  have bad : ∀ x, faultB (cnt15 a0) (msg_of.lst a0) body = 150 → x = some (msg_Parse.bad 150) → x = some (if faultB (cnt15 a0) (msg_of.lst a0) body = 0 then (a0, numsOf a0 body 0, numsOf a0 body 1, numsOf a0 body 2, numsOf a0 body 3, numsOf a0 body 4, numsOf a0 body 5, numsOf a0 body 6, listOf a0 body, 0) else msg_Parse.bad 150) ∧
    (faultB (cnt15 a0) (msg_of.lst a0) body = 0 → rightS a0 (numsOf a0 body) (listOf a0 body) = true ∧ msg_Bytes.body a0 (numsOf a0 body) (listOf a0 body) = body ∧ ∀ x ∈ listOf a0 body, -2147483648 ≤ x ∧ x ≤ 2147483647) := by
    intro x h hx
    rw [h, if_neg (by decide)]
    exact ⟨hx, fun h => absurd h (by decide)⟩
  unfold msg_Parse.g
  rw [if_pos rfl, if_pos ⟨hk.1, hk.2, hb⟩, if_pos hok]
  unfold rdr.read
  rw [nums_P]
  by_cases h5 : 5 * (idxF (msg_of.bits a0) 7 0).length ≤ body.length
  · rw [if_pos h5, Option.bind_some]
    have hgood := nums_good a0 body hok h5 hb
    obtain ⟨e1, _⟩ := numsP_eq (idxF (msg_of.bits a0) 7 0) (fun _ => 0) body (idxF_nodup _ _ _) h5 hb
    have hnum : numsR (msg_of.bits a0) (numsOf a0 body) 7 0 = body.take (5 * cnt15 a0) := by rw [numsR_idx]; exact e1
    change msg_Parse.h a0 (rdr.rest (msg_of.lst a0) (numsOf a0 body) (body.drop (5 * cnt15 a0))) = _ ∧ _
    change 5 * cnt15 a0 ≤ body.length at h5
    by_cases c : msg_of.lst a0 = true
    · rw [rdr.rest, if_pos c]
      by_cases h2 : body.length < 5 * cnt15 a0 + 2
      · rw [if_neg (by rw [List.length_drop]; omega)]
        exact bad _ (by rw [c, faultB_p, if_pos h2]) rfl
      · obtain ⟨t1, t2, t3⟩ := two_at (cnt15 a0) body (by omega) hb
        rw [if_pos (by rw [List.length_drop]; omega), t1, list_P, List.drop_drop, List.length_drop]
        have hn : ((len15 (cnt15 a0) body).toNat : Int) = len15 (cnt15 a0) body := by omega
        have hlst : listOf a0 body = listP (len15 (cnt15 a0) body).toNat (body.drop (5 * cnt15 a0 + 2)) := by unfold listOf; rw [if_pos c]
        have e4096 : len15 (cnt15 a0) body > 4096 → faultB (cnt15 a0) (msg_of.lst a0) body = 150 := fun h => by rw [c, faultB_p, if_neg h2, if_pos h]
        have elen : (body.length : Int) ≠ 5 * (cnt15 a0 : Int) + 2 + 4 * len15 (cnt15 a0) body → faultB (cnt15 a0) (msg_of.lst a0) body = 150 := fun h => by
          by_cases h9 : len15 (cnt15 a0) body > 4096
          · exact e4096 h9
          · rw [c, faultB_p, if_neg h2, if_neg h9, if_neg h]
        by_cases h4 : 4 * (len15 (cnt15 a0) body).toNat ≤ body.length - (5 * cnt15 a0 + 2)
        · rw [if_pos h4, Option.bind_some]
          simp only [List.nil_append, List.drop_drop]
          rw [← hlst, msg_Parse.h, List.length_drop]
          have hll : (listOf a0 body).length = (len15 (cnt15 a0) body).toNat := by rw [hlst, listP_len]
          obtain ⟨p1, p2⟩ := listP_eq (len15 (cnt15 a0) body).toNat (body.drop (5 * cnt15 a0 + 2)) (by rw [List.length_drop]; omega) (hb.drop _)
          rw [← hlst] at p1 p2
          by_cases hx : ((body.length - (5 * cnt15 a0 + 2 + 4 * (len15 (cnt15 a0) body).toNat) : Nat) : Int) > 0
          · rw [if_pos hx]
            exact bad _ (elen (by omega)) rfl
          · rw [if_neg hx, wrong_eq _ _ _ _ _ _ _ _ _ hwf, Option.bind_some, right_fn]
            by_cases hn4 : len15 (cnt15 a0) body > 4096
            · have hr : rightS a0 (numsOf a0 body) (listOf a0 body) = false := by
                unfold rightS
                rw [decide_eq_false (show ¬ ((listOf a0 body).length : Int) ≤ 4096 by omega)]; simp
              have hb1 := bad _ (e4096 hn4) rfl
              rw [hr] at hb1 ⊢
              exact hb1
            · have hr : rightS a0 (numsOf a0 body) (listOf a0 body) = true := by
                unfold rightS
                rw [hok, hgood, decide_eq_true (show ((listOf a0 body).length : Int) ≤ 4096 by omega), c]; simp
              have hf : faultB (cnt15 a0) (msg_of.lst a0) body = 0 := by rw [c, faultB_p, if_neg h2, if_neg hn4, if_pos (by omega)]
              rw [hr, hf, if_pos rfl]
              refine ⟨rfl, fun _ => ⟨rfl, ?_, p2⟩⟩
              unfold msg_Bytes.body
              rw [if_pos c, lst_R, nums_R, List.nil_append, hnum, hll, p1, List.append_assoc]
              have d1 := drop_cons body (5 * cnt15 a0) (by omega)
              have d2 := drop_cons body (5 * cnt15 a0 + 1) (by omega)
              have k1 := hb _ (rd_mem body (5 * cnt15 a0) (by omega))
              have k2 := hb _ (rd_mem body (5 * cnt15 a0 + 1) (by omega))
              have g0 : (body.drop (5 * cnt15 a0 + 2)).take (4 * (len15 (cnt15 a0) body).toNat) = body.drop (5 * cnt15 a0 + 2) := List.take_of_length_le (by rw [List.length_drop]; omega)
              rw [g0]
              have hE : len15 (cnt15 a0) body = rd body ((5 * cnt15 a0 : Nat) : Int) * 256 + rd body ((5 * cnt15 a0 + 1 : Nat) : Int) := rfl
              have g1 : ((len15 (cnt15 a0) body).toNat : Int) / 256 % 256 = rd body ((5 * cnt15 a0 : Nat) : Int) := by rw [hn, hE]; omega
              have g2 : ((len15 (cnt15 a0) body).toNat : Int) % 256 = rd body ((5 * cnt15 a0 + 1 : Nat) : Int) := by rw [hn, hE]; omega
              rw [g1, g2]
              have g3 : ([rd body ((5 * cnt15 a0 : Nat) : Int), rd body ((5 * cnt15 a0 + 1 : Nat) : Int)] : List Int) ++ body.drop (5 * cnt15 a0 + 2) = body.drop (5 * cnt15 a0) := by
                rw [d1, d2]; rfl
              rw [g3, List.take_append_drop]
        · rw [if_neg h4, Option.bind_none, msg_Parse.h]
          exact bad _ (elen (by omega)) rfl
    · have cf : msg_of.lst a0 = false := by simpa using c
      have hlst : listOf a0 body = [] := by unfold listOf; rw [if_neg c]
      rw [rdr.rest, if_neg c, msg_Parse.h, List.length_drop]
      by_cases hx : ((body.length - 5 * cnt15 a0 : Nat) : Int) > 0
      · rw [if_pos hx]
        exact bad _ (by rw [cf, faultB_n, if_neg (by omega)]) rfl
      · have hr : rightS a0 (numsOf a0 body) [] = true := by
          unfold rightS
          rw [hok, hgood]; simp
        have hf : faultB (cnt15 a0) (msg_of.lst a0) body = 0 := by rw [cf, faultB_n, if_pos (by omega)]
        rw [if_neg hx, wrong_eq _ _ _ _ _ _ _ _ _ hwf, Option.bind_some, right_fn, hr, hf, if_pos rfl, hlst]
        refine ⟨rfl, fun _ => ⟨hr, ?_, fun x hx => by cases hx⟩⟩
        unfold msg_Bytes.body
        rw [if_neg c, nums_R, List.nil_append, hnum, List.take_of_length_le (by omega)]
  · rw [if_neg h5, Option.bind_none, msg_Parse.h]
    refine bad _ ?_ rfl
    change ¬ 5 * cnt15 a0 ≤ body.length at h5
    by_cases c : msg_of.lst a0 = true
    · rw [c, faultB_p, if_pos (by omega)]
    · rw [show msg_of.lst a0 = false by simpa using c, faultB_n, if_neg (by omega)]
theorem parse_no (a0 : Int) (body : List Int) (hk : 0 ≤ a0 ∧ a0 ≤ 255) (hb : Byt body) (hok : ¬ msg_of.ok a0 = true) : msg_Parse.g a0 body 0 = some (msg_Parse.bad 150) := by
  unfold msg_Parse.g
  rw [if_pos rfl, if_pos ⟨hk.1, hk.2, hb⟩, if_neg hok]

theorem mparse_eq (k : Nat) (l : List Int) (hb : Byt l) (hl : l.length < 100000000) : msg_Parse.f (k + 1) l = msg_Parse.g (parseS l).1 (parseS l).2.1 (parseS l).2.2 := by
  unfold msg_Parse.f
  rw [parse_eq k l hb hl, Option.bind_some]

theorem back_nums (a0 : Int) (N M : Int → Int) (l l' : List Int) (hN : rightS a0 N l = true) (hM : rightS a0 M l' = true) (hw : ∀ x ∈ l, -2147483648 ≤ x ∧ x ≤ 2147483647) (hw' : ∀ x ∈ l', -2147483648 ≤ x ∧ x ≤ 2147483647) (h : msg_Bytes.body a0 N l = msg_Bytes.body a0 M l') : sameS a0 N l a0 M l' = true := by
  obtain ⟨e1, e2⟩ := body_inj a0 N M l l' hN hM hw hw' h
  unfold sameS
  rw [decide_eq_true rfl, e1, decide_eq_true e2]; rfl
theorem numsR_len5 (b : Int) (N : Int → Int) : ∀ (m : Nat) (i : Int), (numsR b N m i).length = 5 * (idxF b m i).length
  | 0, _ => rfl
  | m + 1, i => by
    rw [numsR, idxF, List.length_append, numsR_len5 b N m (i + 1)]
    split
    · rw [List.length_cons]; show 5 + _ = _; omega
    · simp
theorem lstR_len (l : List Int) : ∀ (m : Nat) (j : Int), (lstR l m j).length = 4 * m
  | 0, _ => rfl
  | m + 1, j => by
    rw [lstR, List.length_append, lstR_len l m (j + 1)]
    show 4 + 4 * m = _; omega
theorem rd_app (xs ys : List Int) (n j : Nat) (hn : xs.length = n) (hj : j < ys.length) : rd (xs ++ ys) ((n + j : Nat) : Int) = rd ys (j : Int) := by
  subst hn
  rw [rd_nat _ _ (by rw [List.length_append]; omega), rd_nat _ _ hj, List.getElem_append_right (by omega)]
  congr 1; omega
theorem back_fault (a0 : Int) (N : Int → Int) (l : List Int) (hr : rightS a0 N l = true) : faultB (cnt15 a0) (msg_of.lst a0) (msg_Bytes.body a0 N l) = 0 := by
  have hk := right_kind hr
  unfold msg_Bytes.body
  by_cases c : msg_of.lst a0 = true
  · rw [if_pos c, c, lst_R, nums_R, List.nil_append, List.append_assoc]
    have hlen : (numsR (msg_of.bits a0) N 7 0 ++ ([(l.length : Int) / 256 % 256, (l.length : Int) % 256] ++ lstR l l.length 0)).length = 5 * cnt15 a0 + (2 + 4 * l.length) := by
      rw [List.length_append, List.length_append, lstR_len, numsR_len5]; rfl
    have h0 := rd_app (numsR (msg_of.bits a0) N 7 0) ([(l.length : Int) / 256 % 256, (l.length : Int) % 256] ++ lstR l l.length 0) (5 * cnt15 a0) 0 (numsR_len5 _ _ _ _) (by simp)
    have h1 := rd_app (numsR (msg_of.bits a0) N 7 0) ([(l.length : Int) / 256 % 256, (l.length : Int) % 256] ++ lstR l l.length 0) (5 * cnt15 a0) 1 (numsR_len5 _ _ _ _) (by simp)
    have hn : len15 (cnt15 a0) (numsR (msg_of.bits a0) N 7 0 ++ ([(l.length : Int) / 256 % 256, (l.length : Int) % 256] ++ lstR l l.length 0)) = (l.length : Int) := by
      unfold len15
      rw [show ((5 * cnt15 a0 : Nat) : Int) = ((5 * cnt15 a0 + 0 : Nat) : Int) from rfl, h0, h1]
      show (l.length : Int) / 256 % 256 * 256 + (l.length : Int) % 256 = _
      omega
    rw [faultB_p, hn, hlen, if_neg (by omega), if_neg (by omega), if_pos (by omega)]
  · rw [if_neg c, show msg_of.lst a0 = false by simpa using c, nums_R, List.nil_append, faultB_n, numsR_len5]
    exact if_pos rfl
theorem MsgBack : pelotonlaw15_MsgBack.Pure := by
  intro a0 a1 a2 a3 a4 a5 a6 a7 l ⟨w0, w1, w2, w3, w4, w5, w6, w7, hl, hy⟩
  have q : ∀ x ∈ l, -2147483648 ≤ x ∧ x ≤ 2147483647 := fun x hx => wf32 (hy x hx)
  refine ⟨400004, ?_⟩
  unfold pelotonlaw15_MsgBack.f
  rw [awake15_ok 400004 (by omega), Option.bind_some, if_pos rfl]
  by_cases hc : (l.length : Int) > 5000
  · rw [decide_eq_true hc]
    simp only [pelotonlaw15_MsgBack.j0]
    rw [if_pos True.intro, awake15_ok 400003 (by omega)]
    rfl
  rw [decide_eq_false hc]
  have hss : sameS a0 (msg_num a1 a2 a3 a4 a5 a6 a7) l a0 (msg_num a1 a2 a3 a4 a5 a6 a7) l = true := by
    have : ∀ (N : Int → Int) (m : Nat) (i : Int), msg_Same.nums N N m i = true := by
      intro N m
      induction m with
      | zero => intro i; rfl
      | succ m ih => intro i; simp only [msg_Same.nums]; rw [if_pos trivial, ih]
    unfold sameS
    rw [decide_eq_true rfl, this, decide_eq_true rfl]; rfl
  simp only [pelotonlaw15_MsgBack.j0]
  rw [if_neg (by simp), clone_eq _ _ _ _ _ _ _ _ _ (by omega), Option.bind_some]
  dsimp only
  rw [bytes_eq _ _ _ _ _ _ _ _ _ w0, Option.bind_some, refright_eq _ _ _ _ _ _ _ _ _ 400003 (by omega), Option.bind_some, mright_eq _ _ _ _ _ _ _ _ _ w0 400000, Option.bind_some, bne_self_eq_false, if_neg (by simp), refsame_eq _ _ _ _ _ _ _ _ _ _ _ _ _ _ _ _ _ _ (by omega) 400003 (by omega), Option.bind_some, hss, if_pos rfl, msame_eq _ _ _ _ _ _ _ _ _ _ _ _ _ _ _ _ _ _ (by omega) 400003 (by omega), Option.bind_some, hss]
  simp only [pelotonlaw15_MsgBack.j1]
  rw [if_neg (by simp)]
  cases hr : rightS a0 (msg_num a1 a2 a3 a4 a5 a6 a7) l with
  | false => simp
  | true =>
    have hk := right_kind hr
    have hB := body_byt a0 (msg_num a1 a2 a3 a4 a5 a6 a7) l hk.2.1
    rw [if_pos rfl, if_pos rfl]
    dsimp only
    rw [if_pos rfl, refbytes_eq _ _ _ _ _ _ _ _ _ hr 400002 (by omega), Option.bind_some]
    simp only [pelotonlaw15_MsgBack.j2]
    rw [bne_self_eq_false, if_neg (by simp), mparse_eq 400000 _ (frL_byt hk.2.2 hB.1) (by rw [frL_length]; omega), parse_fr a0 _ hk.2.2 hB.1 (by omega)]
    dsimp only
    obtain ⟨q1, q2⟩ := parse_g a0 (msg_Bytes.body a0 (msg_num a1 a2 a3 a4 a5 a6 a7) l) hk.2.2 hB.1 hk.1
    have hf := back_fault a0 _ l hr
    obtain ⟨g1, g2, g3⟩ := q2 hf
    rw [q1, if_pos hf, Option.bind_some]
    dsimp only
    have hll : (listOf a0 (msg_Bytes.body a0 (msg_num a1 a2 a3 a4 a5 a6 a7) l)).length ≤ 4096 := by have := (right_kind g1).2.1; omega
    rw [if_pos rfl, refsame_eq _ _ _ _ _ _ _ _ _ _ _ _ _ _ _ _ _ _ (by omega) 400001 (by omega), Option.bind_some]
    congr 1
    exact back_nums a0 _ _ _ _ (by rw [right_fn]; exact g1) hr g3 q (by rw [body_fn]; exact g2)

end Go.Proofs.Ytnkphgiodpledaa.Pure
