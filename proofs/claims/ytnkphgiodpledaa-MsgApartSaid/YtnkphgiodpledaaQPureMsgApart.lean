/- MsgApart: the law's plain part: what its functions compute answers true, for all arguments of its types. No condition beside the given bounds. -/
import Derived.Test.YtnkphgiodpledaaQMsgApartx8
import Derived.Test.YtnkphgiodpledaaMath
namespace Go.Proofs.Ytnkphgiodpledaa.Pure
open Go.RowKit Go.Proofs.Ytnkphgiodpledaa.QMsgApart Go.Proofs.YtnkphgiodpledaaW.PrintWords Go.Proofs.YtnkphgiodpledaaW.PrintLast Go.Proofs.YtnkphgiodpledaaW.PrintMore Go.PelMath
set_option linter.unusedVariables false
set_option linter.unusedSimpArgs false
theorem wf64 {x : Int} (h : (Lit.int .i64 x).wf = true) : -9223372036854775808 ≤ x ∧ x ≤ 9223372036854775807 := by
  simp [Lit.wf, IntKind.min, IntKind.max, IntKind.bits, IntKind.signed] at h; omega
theorem wf32 {x : Int} (h : (Lit.int .i32 x).wf = true) : -2147483648 ≤ x ∧ x ≤ 2147483647 := by
  simp [Lit.wf, IntKind.min, IntKind.max, IntKind.bits, IntKind.signed] at h; omega
theorem wf8 {x : Int} (h : (Lit.int .i8 x).wf = true) : -128 ≤ x ∧ x ≤ 127 := by
  simp [Lit.wf, IntKind.min, IntKind.max, IntKind.bits, IntKind.signed] at h; omega

theorem wrap32_range (x : Int) : -2147483648 ≤ wrap32 x ∧ wrap32 x ≤ 2147483647 := by unfold wrap32; omega
theorem wrap32_0 : wrap32 0 = 0 := by unfold wrap32; omega
theorem rd_nat (l : List Int) (i : Nat) (h : i < l.length) : rd l (i : Int) = l[i] := by
  unfold rd; simp [List.getD, h]
theorem drop_cons (l : List Int) (i : Nat) (h : i < l.length) : l.drop i = rd l (i : Int) :: l.drop (i + 1) := by
  rw [rd_nat l i h, List.drop_eq_getElem_cons h]
theorem rd_mem (l : List Int) (i : Nat) (h : i < l.length) : rd l (i : Int) ∈ l := by rw [rd_nat l i h]; exact List.getElem_mem h
theorem next (i n : Nat) (h : i < n) (hn : n ≤ 9223372036854775807) : wrap64 ((i : Int) + 1) = ((i + 1 : Nat) : Int) := by
  rw [wrap64_wf _ (by omega) (by omega)]; omega

def bst (r : Nat) : Nat := if r % 2 = 1 then (r / 2) ^^^ 3988292384 else r / 2
def b4 (r : Nat) : Nat := bst (bst (bst (bst r)))
def b8 (r : Nat) : Nat := b4 (b4 r)
def crcB (s x : Nat) : Nat := b8 (s ^^^ x)
def crcL (s : Nat) (l : List Nat) : Nat := l.foldl crcB s

theorem xor_lt32 {a b : Nat} (ha : a < 2 ^ 32) (hb : b < 2 ^ 32) : a ^^^ b < 2 ^ 32 := Nat.xor_lt_two_pow ha hb
theorem bst_lt {r : Nat} (h : r < 2 ^ 32) : bst r < 2 ^ 32 := by
  unfold bst; split
  · exact xor_lt32 (by omega) (by decide)
  · omega
theorem xor_div2 (a b : Nat) : (a ^^^ b) / 2 = a / 2 ^^^ b / 2 := by
  apply Nat.eq_of_testBit_eq
  intro i
  rw [Nat.testBit_div_two, Nat.testBit_xor, Nat.testBit_xor, Nat.testBit_div_two, Nat.testBit_div_two]
theorem xor_mod2 (a b : Nat) : (a ^^^ b) % 2 = (a % 2 + b % 2) % 2 := by
  have h := Nat.testBit_xor a b 0
  rw [Nat.testBit_zero, Nat.testBit_zero, Nat.testBit_zero] at h
  have ha : a % 2 = 0 ∨ a % 2 = 1 := by omega
  have hb : b % 2 = 0 ∨ b % 2 = 1 := by omega
  have hc : (a ^^^ b) % 2 = 0 ∨ (a ^^^ b) % 2 = 1 := by omega
  rcases ha with ha | ha <;> rcases hb with hb | hb <;> rcases hc with hc | hc <;> simp [ha, hb, hc] at h ⊢
theorem bst_xor (a b : Nat) : bst (a ^^^ b) = bst a ^^^ bst b := by
  unfold bst
  rw [xor_mod2, xor_div2]
  have ha : a % 2 = 0 ∨ a % 2 = 1 := by omega
  have hb : b % 2 = 0 ∨ b % 2 = 1 := by omega
  rcases ha with ha | ha <;> rcases hb with hb | hb <;> simp only [ha, hb] <;> simp
  · rw [Nat.xor_assoc]
  · rw [Nat.xor_assoc, Nat.xor_assoc, Nat.xor_comm 3988292384]
  · rw [Nat.xor_assoc, ← Nat.xor_assoc 3988292384, Nat.xor_comm 3988292384 (b / 2), Nat.xor_assoc, Nat.xor_self, Nat.xor_zero]
theorem b4_xor (a b : Nat) : b4 (a ^^^ b) = b4 a ^^^ b4 b := by unfold b4; rw [bst_xor, bst_xor, bst_xor, bst_xor]
theorem b8_xor (a b : Nat) : b8 (a ^^^ b) = b8 a ^^^ b8 b := by unfold b8; rw [b4_xor, b4_xor]
theorem b4_lt {r : Nat} (h : r < 2 ^ 32) : b4 r < 2 ^ 32 := bst_lt (bst_lt (bst_lt (bst_lt h)))
theorem b8_lt {r : Nat} (h : r < 2 ^ 32) : b8 r < 2 ^ 32 := b4_lt (b4_lt h)
theorem bst_even (h : Nat) : bst (2 * h) = h := by unfold bst; rw [if_neg (by omega)]; omega
theorem b4_hi (h : Nat) : b4 (16 * h) = h := by
  unfold b4
  rw [show 16 * h = 2 * (2 * (2 * (2 * h))) by omega, bst_even, bst_even, bst_even, bst_even]
theorem split16 (s : Nat) : s = (16 * (s / 16)) ^^^ (s % 16) := by
  apply Nat.eq_of_testBit_eq
  intro i
  rw [Nat.testBit_xor]
  have e1 : 16 * (s / 16) = 2 ^ 4 * (s / 2 ^ 4) := rfl
  have e2 : s % 16 = s % 2 ^ 4 := rfl
  rw [e1, e2, Nat.testBit_two_pow_mul, Nat.testBit_div_two_pow, Nat.testBit_mod_two_pow]
  by_cases hi : i < 4
  · have : ¬ 4 ≤ i := by omega
    simp [hi, this]
  · have h4 : 4 ≤ i := by omega
    simp [hi, h4]
def tab : List Nat := [0, 0x1DB71064, 0x3B6E20C8, 0x26D930AC, 0x76DC4190, 0x6B6B51F4, 0x4DB26158, 0x5005713C, 0xEDB88320, 0xF00F9344, 0xD6D6A3E8, 0xCB61B38C, 0x9B64C2B0, 0x86D3D2D4, 0xA00AE278, 0xBDBDF21C]
theorem b4_low : ∀ x, x < 16 → b4 x = tab.getD x 0 := by decide
theorem b4_tab (s : Nat) : b4 s = tab.getD (s % 16) 0 ^^^ s / 16 := by
  conv => lhs; rw [split16 s]
  rw [b4_xor, b4_hi, b4_low _ (Nat.mod_lt _ (by decide)), Nat.xor_comm]
theorem xor_mod16 (a b : Nat) : (a ^^^ b) % 16 = (a % 16) ^^^ (b % 16) := by
  apply Nat.eq_of_testBit_eq
  intro i
  have e : ∀ z : Nat, z % 16 = z % 2 ^ 4 := fun _ => rfl
  rw [e (a ^^^ b), e a, e b, Nat.testBit_xor, Nat.testBit_mod_two_pow, Nat.testBit_mod_two_pow, Nat.testBit_mod_two_pow, Nat.testBit_xor]
  by_cases hi : i < 4 <;> simp [hi]
theorem xor_div16 (a b : Nat) : (a ^^^ b) / 16 = (a / 16) ^^^ (b / 16) := by
  apply Nat.eq_of_testBit_eq
  intro i
  have e : ∀ z : Nat, z / 16 = z / 2 ^ 4 := fun _ => rfl
  rw [e (a ^^^ b), e a, e b, Nat.testBit_xor, Nat.testBit_div_two_pow, Nat.testBit_div_two_pow, Nat.testBit_div_two_pow, Nat.testBit_xor]
/-- a byte by two half bytes, out of the table -/
theorem crcB_tab (s x : Nat) (hx : x < 256) :
    crcB s x = tab.getD (((tab.getD ((s ^^^ x) % 16) 0 ^^^ s / 16) ^^^ x / 16) % 16) 0 ^^^ (tab.getD ((s ^^^ x) % 16) 0 ^^^ s / 16) / 16 := by
  have h1 : b4 (s ^^^ x) = (tab.getD ((s ^^^ x) % 16) 0 ^^^ s / 16) ^^^ x / 16 := by
    rw [b4_tab, xor_div16, Nat.xor_assoc]
  unfold crcB b8
  rw [h1, b4_tab, xor_div16 _ (x / 16), show x / 16 / 16 = 0 by omega, Nat.xor_zero]
/-- unlike states stay unlike -/
theorem bst_inj {a b : Nat} (ha : a < 2 ^ 32) (hb : b < 2 ^ 32) (h : bst a = bst b) : a = b := by
  have key : ∀ r : Nat, r < 2 ^ 32 → (bst r).testBit 31 = decide (r % 2 = 1) := by
    intro r hr
    unfold bst
    have h0 : (r / 2).testBit 31 = false := Nat.testBit_lt_two_pow (by omega)
    split
    · rename_i h1
      rw [Nat.testBit_xor, h0]; simp [h1]; decide
    · rename_i h1
      rw [h0]; simp [h1]
  have k1 := key a ha
  have k2 := key b hb
  rw [h, k2] at k1
  have hp : a % 2 = b % 2 := by
    have := decide_eq_decide.1 k1
    omega
  have hd : a / 2 = b / 2 := by
    unfold bst at h
    rw [hp] at h
    split at h
    · have h2 := congrArg (· ^^^ 3988292384) h
      simp only [Nat.xor_assoc, Nat.xor_self, Nat.xor_zero] at h2
      exact h2
    · exact h
  omega
theorem b4_inj {a b : Nat} (ha : a < 2 ^ 32) (hb : b < 2 ^ 32) (h : b4 a = b4 b) : a = b :=
  bst_inj ha hb (bst_inj (bst_lt ha) (bst_lt hb) (bst_inj (bst_lt (bst_lt ha)) (bst_lt (bst_lt hb)) (bst_inj (bst_lt (bst_lt (bst_lt ha))) (bst_lt (bst_lt (bst_lt hb))) h)))
theorem b8_inj {a b : Nat} (ha : a < 2 ^ 32) (hb : b < 2 ^ 32) (h : b8 a = b8 b) : a = b := b4_inj ha hb (b4_inj (b4_lt ha) (b4_lt hb) h)
theorem xor_cancel_r {a b c : Nat} (h : a ^^^ c = b ^^^ c) : a = b := by
  have h2 := congrArg (· ^^^ c) h
  simpa only [Nat.xor_assoc, Nat.xor_self, Nat.xor_zero] using h2
theorem xor_cancel_l {a b c : Nat} (h : c ^^^ a = c ^^^ b) : a = b := by
  rw [Nat.xor_comm c a, Nat.xor_comm c b] at h
  exact xor_cancel_r h
theorem crcB_lt {s x : Nat} (hs : s < 2 ^ 32) (hx : x < 256) : crcB s x < 2 ^ 32 := b8_lt (xor_lt32 hs (by omega))
theorem crcB_inj_s {s t x : Nat} (hs : s < 2 ^ 32) (ht : t < 2 ^ 32) (hx : x < 256) (h : crcB s x = crcB t x) : s = t :=
  xor_cancel_r (b8_inj (xor_lt32 hs (by omega)) (xor_lt32 ht (by omega)) h)
theorem crcB_inj_x {s x y : Nat} (hs : s < 2 ^ 32) (hx : x < 256) (hy : y < 256) (h : crcB s x = crcB s y) : x = y :=
  xor_cancel_l (b8_inj (xor_lt32 hs (by omega)) (xor_lt32 hs (by omega)) h)
theorem crcL_append (s : Nat) (a b : List Nat) : crcL s (a ++ b) = crcL (crcL s a) b := by unfold crcL; rw [List.foldl_append]
theorem crcL_lt {l : List Nat} : ∀ {s : Nat}, s < 2 ^ 32 → (∀ x ∈ l, x < 256) → crcL s l < 2 ^ 32 := by
  induction l with
  | nil => intro s hs _; exact hs
  | cons x l ih =>
    intro s hs h
    exact ih (crcB_lt hs (h x (by simp))) (fun y hy => h y (by simp [hy]))
theorem crcL_inj_s {l : List Nat} : ∀ {s t : Nat}, s < 2 ^ 32 → t < 2 ^ 32 → (∀ x ∈ l, x < 256) → crcL s l = crcL t l → s = t := by
  induction l with
  | nil => intro s t _ _ _ h; exact h
  | cons x l ih =>
    intro s t hs ht h he
    have hx := h x (by simp)
    exact crcB_inj_s hs ht hx (ih (crcB_lt hs hx) (crcB_lt ht hx) (fun y hy => h y (by simp [hy])) he)
/-- bytes that differ at one place have unlike check sums -/
theorem crcL_one {a b : List Nat} {x y s : Nat} (hs : s < 2 ^ 32) (ha : ∀ z ∈ a, z < 256) (hb : ∀ z ∈ b, z < 256) (hx : x < 256) (hy : y < 256) (h : crcL s (a ++ x :: b) = crcL s (a ++ y :: b)) : x = y := by
  rw [crcL_append, crcL_append] at h
  have h1 := crcL_lt hs ha
  exact crcB_inj_x h1 hx hy (crcL_inj_s (l := b) (crcB_lt h1 hx) (crcB_lt h1 hy) hb h)

theorem bxor32 (a b : Nat) (ha : a < 2 ^ 32) (hb : b < 2 ^ 32) : Go.bits .xor .u32 (a : Int) (b : Int) = ((a ^^^ b : Nat) : Int) := by
  have e : bits .xor .u32 (a : Int) (b : Int) = IntKind.u32.wrap (((BitVec.ofInt 32 a ^^^ BitVec.ofInt 32 b).toNat : Nat) : Int) := rfl
  have hw : ∀ y : Int, IntKind.u32.wrap y = y % 4294967296 := by intro y; simp [IntKind.wrap, IntKind.bits, IntKind.signed]
  have h1 : (BitVec.ofInt 32 (a : Int)).toNat = a := by rw [BitVec.toNat_ofInt]; omega
  have h2 : (BitVec.ofInt 32 (b : Int)).toNat = b := by rw [BitVec.toNat_ofInt]; omega
  have h3 := xor_lt32 ha hb
  rw [e, BitVec.toNat_xor, h1, h2, hw]
  omega
theorem band15 (a : Nat) (ha : a < 2 ^ 32) : Go.bits .and .u32 (a : Int) 15 = ((a % 16 : Nat) : Int) := by
  have e : bits .and .u32 (a : Int) 15 = IntKind.u32.wrap (((BitVec.ofInt 32 a &&& BitVec.ofInt 32 15).toNat : Nat) : Int) := rfl
  have hw : ∀ y : Int, IntKind.u32.wrap y = y % 4294967296 := by intro y; simp [IntKind.wrap, IntKind.bits, IntKind.signed]
  have h1 : (BitVec.ofInt 32 (a : Int)).toNat = a := by rw [BitVec.toNat_ofInt]; omega
  have h2 : (BitVec.ofInt 32 (15 : Int)).toNat = 2 ^ 4 - 1 := by decide
  rw [e, BitVec.toNat_and, h1, h2, Nat.and_two_pow_sub_one_eq_mod, hw]
  omega
/-- bytes as natural numbers -/
def nb (l : List Int) : List Nat := l.map Int.toNat
def Byt (l : List Int) : Prop := ∀ x ∈ l, 0 ≤ x ∧ x ≤ 255
theorem nb_append (a b : List Int) : nb (a ++ b) = nb a ++ nb b := by simp [nb]
theorem nb_lt {l : List Int} (h : Byt l) : ∀ x ∈ nb l, x < 256 := by
  intro x hx
  obtain ⟨y, hy, rfl⟩ := List.mem_map.1 hx
  have := h y hy; omega
theorem nb_length (l : List Int) : (nb l).length = l.length := by simp [nb]
theorem nb_inj {a b : List Int} (ha : Byt a) (hb : Byt b) (h : nb a = nb b) : a = b := by
  induction a generalizing b with
  | nil => cases b with
    | nil => rfl
    | cons y b => simp [nb] at h
  | cons x a ih =>
    cases b with
    | nil => simp [nb] at h
    | cons y b =>
      simp only [nb, List.map_cons, List.cons.injEq] at h
      have h1 := ha x (by simp); have h2 := hb y (by simp)
      rw [ih (fun z hz => ha z (by simp [hz])) (fun z hz => hb z (by simp [hz])) h.2]
      congr 1; omega
/-- the check sum of bytes -/
def crc (l : List Int) : Nat := crcL 4294967295 (nb l) ^^^ 4294967295
theorem crc_lt {l : List Int} (h : Byt l) : crc l < 2 ^ 32 := xor_lt32 (crcL_lt (by decide) (nb_lt h)) (by decide)

theorem tab_rd : ∀ m : Nat, m < 16 → rd weight_Sum.tab (m : Int) = ((tab.getD m 0 : Nat) : Int) := by decide
theorem tab_lt : ∀ m : Nat, m < 16 → tab.getD m 0 < 2 ^ 32 := by decide
theorem wsum_h1 (s y : Nat) (hs : s < 2 ^ 32) (hy : y < 2 ^ 32) : weight_Sum.h1 (s : Int) (y : Int) = ((tab.getD ((s ^^^ y) % 16) 0 ^^^ s / 16 : Nat) : Int) := by
  unfold weight_Sum.h1
  have hm := Nat.mod_lt (s ^^^ y) (show 0 < 16 by omega)
  rw [bxor32 s y hs hy, band15 _ (xor_lt32 hs hy), tab_rd _ hm, show ((s : Int) / 16) = ((s / 16 : Nat) : Int) by omega, bxor32 _ _ (tab_lt _ hm) (by omega)]
theorem wsum_step (s : Nat) (x : Int) (hs : s < 2 ^ 32) (hx : 0 ≤ x ∧ x ≤ 255) : weight_Sum.step (s : Int) x = ((crcB s x.toNat : Nat) : Int) := by
  obtain ⟨y, rfl⟩ := Int.eq_ofNat_of_zero_le hx.1
  have hw : IntKind.u32.wrap (y : Int) = (y : Int) := by
    have : ∀ y : Int, IntKind.u32.wrap y = y % 4294967296 := by intro y; simp [IntKind.wrap, IntKind.bits, IntKind.signed]
    rw [this]; omega
  have hm := Nat.mod_lt (s ^^^ y) (show 0 < 16 by omega)
  unfold weight_Sum.step
  rw [hw, wsum_h1 s y hs (by omega), show ((y : Int) / 16) = ((y / 16 : Nat) : Int) by omega, wsum_h1 _ _ (xor_lt32 (tab_lt _ hm) (by omega)) (by omega), Int.toNat_natCast, crcB_tab s y (by omega)]
theorem wsum_piece (l : List Int) : ∀ (s : Nat), s < 2 ^ 32 → Byt l → weight_Sum.piece (s : Int) l = ((crcL s (nb l) : Nat) : Int) := by
  induction l with
  | nil => intro s _ _; rfl
  | cons x l ih =>
    intro s hs h
    have hx := h x (by simp)
    have e : weight_Sum.piece (s : Int) (x :: l) = weight_Sum.piece (weight_Sum.step (s : Int) x) l := rfl
    rw [e, wsum_step s x hs hx, ih _ (crcB_lt hs (by omega)) (fun y hy => h y (by simp [hy]))]
    rfl
theorem wsum_all (ls : List (List Int)) : ∀ (s : Nat), s < 2 ^ 32 → (∀ l ∈ ls, Byt l) → ls.foldl weight_Sum.piece (s : Int) = ((crcL s (nb ls.flatten) : Nat) : Int) := by
  induction ls with
  | nil => intro s _ _; rfl
  | cons l ls ih =>
    intro s hs h
    have hl := h l (by simp)
    rw [List.foldl_cons, wsum_piece l s hs hl, ih _ (crcL_lt hs (nb_lt hl)) (fun y hy => h y (by simp [hy])), List.flatten_cons, nb_append, crcL_append]
theorem wsum_eq (ls : List (List Int)) (hn : ls.length < 4611686018427387904) (hb : ∀ l ∈ ls, Byt l) (hl : ∀ l ∈ ls, l.length < 4611686018427387904) : weight_Sum.f ls = some ((crc ls.flatten : Nat) : Int) := by
  have hf : weight_Sum.fit ls = true := by
    unfold weight_Sum.fit
    rw [decide_eq_true hn, Bool.true_and, List.all_eq_true]
    exact fun l h => decide_eq_true (hl l h)
  have hbf : Byt ls.flatten := by
    intro x hx
    obtain ⟨l, h1, h2⟩ := List.mem_flatten.1 hx
    exact hb l h1 x h2
  unfold weight_Sum.f
  rw [if_pos hf]
  have h1 := wsum_all ls 4294967295 (by decide) hb
  have h2 := crcL_lt (l := nb ls.flatten) (s := 4294967295) (by decide) (nb_lt hbf)
  rw [show (4294967295 : Int) = ((4294967295 : Nat) : Int) from rfl, h1, bxor32 _ _ (by decide) h2, Nat.xor_comm]
  rfl

def bstN : Nat → Nat → Nat
  | 0, r => r
  | d + 1, r => bstN d (bst r)
theorem bstN_8 (r : Nat) : bstN 8 r = b8 r := rfl
theorem refsum_l1 (l : List Int) (i : Int) : ∀ (d k j r : Nat), j + d = 8 → r < 2 ^ 32 → pelotonref07_Sum.l1 (k + d + 1) l (r : Int) i j = pelotonref07_Sum.l0 k l ((bstN d r : Nat) : Int) (wrap64 (i + 1)) := by
  intro d
  induction d with
  | zero =>
    intro k j r hj hr
    simp only [pelotonref07_Sum.l1]
    rw [if_neg (by omega)]; rfl
  | succ d ih =>
    intro k j r hj hr
    have e1 : Int.tmod (r : Int) 2 = ((r % 2 : Nat) : Int) := by rw [Int.tmod_eq_emod_of_nonneg (by omega)]; omega
    have e2 : Int.tdiv (r : Int) 2 % 4294967296 = ((r / 2 : Nat) : Int) := by rw [Int.tdiv_eq_ediv_of_nonneg (by omega)]; omega
    have hb := bst_lt hr
    have ih' := ih k (j + 1) (bst r) (by omega) hb
    rw [show k + (d + 1) + 1 = (k + d + 1) + 1 by omega]
    generalize k + d + 1 = m at *
    simp only [pelotonref07_Sum.l1]
    rw [if_pos (by omega), e1, e2, show wrap64 ((j : Int) + 1) = ((j + 1 : Nat) : Int) by rw [wrap64_wf _ (by omega) (by omega)]; omega]
    by_cases hc : r % 2 = 1
    · have e3 : Go.bits .xor .u32 ((r / 2 : Nat) : Int) 3988292384 = ((bst r : Nat) : Int) := by
        have := bxor32 (r / 2) 3988292384 (by omega) (by decide)
        rw [show (3988292384 : Int) = ((3988292384 : Nat) : Int) from rfl, this]
        unfold bst; rw [if_pos hc]
      rw [if_pos (by omega), e3, ih']; rfl
    · have e3 : ((r / 2 : Nat) : Int) = ((bst r : Nat) : Int) := by unfold bst; rw [if_neg hc]
      rw [if_neg (by omega), e3, ih']; rfl
theorem refsum_l0 (l : List Int) (hl : l.length ≤ 9223372036854775807) (hb : Byt l) : ∀ (d k i s : Nat), i + d = l.length → s < 2 ^ 32 → 10 * d < k →
    pelotonref07_Sum.l0 k l (s : Int) i = some ((crcL s (nb (l.drop i)) ^^^ 4294967295 : Nat) : Int) := by
  intro d
  induction d with
  | zero =>
    intro k i s hi hs hk
    obtain ⟨k, rfl⟩ : ∃ m, k = m + 1 := ⟨k - 1, by omega⟩
    simp only [pelotonref07_Sum.l0]
    rw [if_neg (by omega), List.drop_of_length_le (by omega)]
    have := bxor32 s 4294967295 hs (by decide)
    rw [show (4294967295 : Int) = ((4294967295 : Nat) : Int) from rfl, this]; rfl
  | succ d ih =>
    intro k i s hi hs hk
    obtain ⟨k, rfl⟩ : ∃ m, k = (m + 8 + 1) + 1 := ⟨k - 10, by omega⟩
    have hx := hb _ (rd_mem l i (by omega))
    simp only [pelotonref07_Sum.l0]
    rw [if_pos (by omega), if_pos (by omega)]
    have e1 : Go.bits .xor .u32 (s : Int) (rd l (i : Int) % 4294967296) = ((s ^^^ (rd l (i : Int)).toNat : Nat) : Int) := by
      rw [show rd l (i : Int) % 4294967296 = (((rd l (i : Int)).toNat : Nat) : Int) by omega]
      exact bxor32 _ _ hs (by omega)
    rw [e1]
    have h8 := refsum_l1 l i 8 k 0 (s ^^^ (rd l (i : Int)).toNat) rfl (xor_lt32 hs (by omega))
    rw [show ((0 : Nat) : Int) = 0 from rfl] at h8
    rw [h8, bstN_8, next i _ (show i < l.length by omega) hl]
    have hB : b8 (s ^^^ (rd l (i : Int)).toNat) = crcB s (rd l (i : Int)).toNat := rfl
    rw [hB, ih k (i + 1) _ (by omega) (crcB_lt hs (by omega)) (by omega), drop_cons l i (by omega)]
    rfl
theorem refsum_eq (l : List Int) (hl : l.length ≤ 9223372036854775807) (hb : Byt l) (k : Nat) (hk : 10 * l.length < k) : pelotonref07_Sum.f k l = some ((crc l : Nat) : Int) := by
  have := refsum_l0 l hl hb l.length k 0 4294967295 (by omega) (by decide) hk
  simpa [pelotonref07_Sum.f, crc] using this

theorem str_list (a : List Int) : (strOfNums a).toList = a.map fun n => UInt8.ofNat n.toNat := by
  rw [show (strOfNums a).toList = (strOfNums a).data.toList from Go.ByteArray.toList_eq _]; rfl
theorem str_eq {a b : List Int} (ha : Byt a) (hb : Byt b) : (strOfNums a).toList = (strOfNums b).toList ↔ a = b := by
  rw [str_list, str_list]
  constructor
  · intro h
    have key : ∀ l : List Int, Byt l → (l.map fun n => UInt8.ofNat n.toNat).map (fun u : UInt8 => (u.toNat : Int)) = l := by
      intro l hl
      rw [List.map_map]
      conv => rhs; rw [← List.map_id l]
      apply List.map_congr_left
      intro x hx
      have := hl x hx
      simp only [Function.comp, id_eq, UInt8.toNat_ofNat']
      omega
    rw [← key a ha, ← key b hb, h]
  · intro h; rw [h]
theorem str_beq {a b : List Int} (ha : Byt a) (hb : Byt b) : ((strOfNums a).toList == (strOfNums b).toList) = decide (a = b) := by
  by_cases h : a = b
  · rw [decide_eq_true h, h]; simp
  · rw [decide_eq_false h]; exact beq_eq_false_iff_ne.2 (fun e => h ((str_eq ha hb).1 e))
theorem Byt.append {a b : List Int} (ha : Byt a) (hb : Byt b) : Byt (a ++ b) := by
  intro x hx
  rcases List.mem_append.1 hx with h | h
  · exact ha x h
  · exact hb x h
theorem Byt.take {a : List Int} (ha : Byt a) (n : Nat) : Byt (a.take n) := fun x hx => ha x (List.mem_of_mem_take hx)
theorem Byt.drop {a : List Int} (ha : Byt a) (n : Nat) : Byt (a.drop n) := fun x hx => ha x (List.mem_of_mem_drop hx)
theorem Byt.left {a b : List Int} (h : Byt (a ++ b)) : Byt a := fun x hx => h x (List.mem_append.2 (Or.inl hx))
theorem Byt.right {a b : List Int} (h : Byt (a ++ b)) : Byt b := fun x hx => h x (List.mem_append.2 (Or.inr hx))

def be4 (n : Nat) : List Int := [((n / 16777216 % 256 : Nat) : Int), ((n / 65536 % 256 : Nat) : Int), ((n / 256 % 256 : Nat) : Int), ((n % 256 : Nat) : Int)]
theorem be4_length (n : Nat) : (be4 n).length = 4 := rfl
theorem be4_byt (n : Nat) : Byt (be4 n) := by
  intro x hx
  simp only [be4, List.mem_cons, List.not_mem_nil, or_false] at hx
  rcases hx with rfl | rfl | rfl | rfl <;> omega
theorem be4_inj {a b : Nat} (ha : a < 2 ^ 32) (hb : b < 2 ^ 32) (h : be4 a = be4 b) : a = b := by
  simp only [be4, List.cons.injEq, and_true] at h
  omega
def w4 (l : List Int) : Nat := (rd l 0).toNat * 16777216 + (rd l 1).toNat * 65536 + (rd l 2).toNat * 256 + (rd l 3).toNat
theorem w4_be4 (n : Nat) (h : n < 2 ^ 32) (t : List Int) : w4 (be4 n ++ t) = n := by
  have e0 : rd (be4 n ++ t) 0 = ((n / 16777216 % 256 : Nat) : Int) := rfl
  have e1 : rd (be4 n ++ t) 1 = ((n / 65536 % 256 : Nat) : Int) := rfl
  have e2 : rd (be4 n ++ t) 2 = ((n / 256 % 256 : Nat) : Int) := rfl
  have e3 : rd (be4 n ++ t) 3 = ((n % 256 : Nat) : Int) := rfl
  unfold w4
  rw [e0, e1, e2, e3]
  simp only [Int.toNat_natCast]
  omega
theorem be4_w4 (l : List Int) (hl : 4 ≤ l.length) (hb : Byt l) : be4 (w4 l) = l.take 4 := by
  match l, hl, hb with
  | a :: b :: c :: d :: l, _, hb =>
    have h0 := hb a (by simp); have h1 := hb b (by simp); have h2 := hb c (by simp); have h3 := hb d (by simp)
    have e : w4 (a :: b :: c :: d :: l) = a.toNat * 16777216 + b.toNat * 65536 + c.toNat * 256 + d.toNat := rfl
    rw [e]
    simp only [be4, List.take, List.cons.injEq, and_true]
    omega
theorem w4_lt (l : List Int) (hl : 4 ≤ l.length) (hb : Byt l) : w4 l < 2 ^ 32 := by
  match l, hl, hb with
  | a :: b :: c :: d :: l, _, hb =>
    have h0 := hb a (by simp); have h1 := hb b (by simp); have h2 := hb c (by simp); have h3 := hb d (by simp)
    have e : w4 (a :: b :: c :: d :: l) = a.toNat * 16777216 + b.toNat * 65536 + c.toNat * 256 + d.toNat := rfl
    rw [e]; omega

theorem four_eq (o : List Int) (n : Nat) (hn : n < 2 ^ 32) (ho : o.length + 4 < 140737488355328) : frame_four.f o (n : Int) = some (o ++ be4 n) := by
  unfold frame_four.f
  rw [Option.bind_some, if_pos (by simpa using ho)]
  congr 2 <;> (simp only [be4, List.cons.injEq, and_true]; try omega)

theorem reffour_eq (n : Nat) (hn : n < 2 ^ 32) : pelotonref14_four.f (n : Int) = some (be4 n) := by
  unfold pelotonref14_four.f
  have e1 : Int.tdiv (n : Int) 16777216 = ((n / 16777216 : Nat) : Int) := t_div n 16777216
  have e2 : Int.tdiv (n : Int) 65536 = ((n / 65536 : Nat) : Int) := t_div n 65536
  have e3 : Int.tdiv (n : Int) 256 = ((n / 256 : Nat) : Int) := t_div n 256
  rw [e1, e2, e3]
  congr 1
  simp only [be4, List.cons.injEq, and_true]
  try omega

def frH (k : Int) (l : List Int) : List Int := [80, 76, 1, k] ++ be4 l.length ++ l
def frL (k : Int) (l : List Int) : List Int := frH k l ++ be4 (crc (frH k l))
theorem frH_length (k : Int) (l : List Int) : (frH k l).length = l.length + 8 := by simp [frH, be4_length]; omega
theorem frL_length (k : Int) (l : List Int) : (frL k l).length = l.length + 12 := by simp [frL, frH_length, be4_length]
theorem frH_byt {k : Int} {l : List Int} (hk : 0 ≤ k ∧ k ≤ 255) (hl : Byt l) : Byt (frH k l) := by
  refine Byt.append (Byt.append ?_ (be4_byt _)) hl
  intro x hx
  simp only [List.mem_cons, List.not_mem_nil, or_false] at hx
  rcases hx with rfl | rfl | rfl | rfl <;> omega
theorem frL_byt {k : Int} {l : List Int} (hk : 0 ≤ k ∧ k ≤ 255) (hl : Byt l) : Byt (frL k l) := Byt.append (frH_byt hk hl) (be4_byt _)

theorem pack_eq (k : Int) (l : List Int) (hk : 0 ≤ k ∧ k ≤ 255) (hb : Byt l) (hl : l.length ≤ 1048576) : frame_Pack.f k l = some (frL k l, 0) := by
  unfold frame_Pack.f
  have e0 : (l.length : Int) % 4294967296 = (l.length : Int) := by omega
  rw [if_neg (by omega), e0, four_eq _ _ (by omega) (by simp), Option.bind_some, if_pos (by simp [be4_length]; omega)]
  have e : [80, 76, 1, k] ++ be4 l.length ++ l = frH k l := rfl
  have hh := frH_byt hk hb
  have hlen := frH_length k l
  rw [e, wsum_eq [frH k l] (by simp) (fun x hx => by rw [List.mem_singleton.1 hx]; exact hh) (fun x hx => by rw [List.mem_singleton.1 hx]; omega), Option.bind_some]
  simp only [List.flatten_cons, List.flatten_nil, List.append_nil]
  rw [four_eq _ _ (crc_lt hh) (by omega)]
  rfl

theorem refpack_eq (K : Nat) (k : Int) (l : List Int) (hk : 0 ≤ k ∧ k ≤ 255) (hb : Byt l) (hl : l.length ≤ 1048576) (hK : 10 * l.length + 100 < K) : pelotonref14_Pack.f K k l = some (frL k l) := by
  unfold pelotonref14_Pack.f
  have e0 : (l.length : Int) % 4294967296 = (l.length : Int) := by omega
  have hh := frH_byt hk hb
  have hlen := frH_length k l
  rw [Option.bind_some, e0, reffour_eq _ (by omega), Option.bind_some, if_pos (by simp [be4_length]), Option.bind_some, if_pos (by simp [be4_length]; omega), Option.bind_some]
  have e : [80, 76, 1, k] ++ be4 l.length ++ l = frH k l := rfl
  rw [e, refsum_eq _ (by omega) hh K (by omega), Option.bind_some, reffour_eq _ (crc_lt hh), Option.bind_some, if_pos (by rw [be4_length]; omega)]
  rfl

def sizeS (l : List Int) : Int × Int :=
  if l.length < 12 then (0, 70) else if rd l 0 ≠ 80 ∨ rd l 1 ≠ 76 then (0, 71) else if rd l 2 ≠ 1 then (0, 141) else if w4 (l.drop 4) > 1048576 then (0, 140) else (((w4 (l.drop 4) + 12 : Nat) : Int), 0)
theorem sizeS_ok {l : List Int} {n : Int} (h : sizeS l = (n, 0)) : 12 ≤ l.length ∧ rd l 0 = 80 ∧ rd l 1 = 76 ∧ rd l 2 = 1 ∧ w4 (l.drop 4) ≤ 1048576 ∧ n = ((w4 (l.drop 4) + 12 : Nat) : Int) := by
  unfold sizeS at h
  split at h
  · cases h
  split at h
  · cases h
  split at h
  · cases h
  split at h
  · cases h
  rename_i h1 h2 h3 h4
  simp only [Prod.mk.injEq, and_true] at h
  refine ⟨by omega, ?_, ?_, by omega, by omega, h.symm⟩ <;> omega

def parseS (l : List Int) : Int × List Int × Int :=
  if (sizeS l).2 ≠ 0 then (0, [], (sizeS l).2) else if (l.length : Int) < (sizeS l).1 then (0, [], 70) else if (l.length : Int) > (sizeS l).1 then (0, [], 72)
  else if w4 (l.drop (l.length - 4)) ≠ crc (l.take (l.length - 4)) then (0, [], 73) else (rd l 3, (l.take (l.length - 4)).drop 8, 0)

theorem frL_head (k : Int) (l : List Int) : frL k l = 80 :: 76 :: 1 :: k :: (be4 l.length ++ (l ++ be4 (crc (frH k l)))) := by simp [frL, frH]
theorem sizeS_fr (k : Int) (l t : List Int) (hl : l.length ≤ 1048576) : sizeS (frL k l ++ t) = (((l.length + 12 : Nat) : Int), 0) := by
  have e : (frL k l ++ t).drop 4 = be4 l.length ++ (l ++ be4 (crc (frH k l)) ++ t) := by rw [frL_head]; simp
  have h0 : rd (frL k l ++ t) 0 = 80 := by rw [frL_head]; rfl
  have h1 : rd (frL k l ++ t) 1 = 76 := by rw [frL_head]; rfl
  have h2 : rd (frL k l ++ t) 2 = 1 := by rw [frL_head]; rfl
  unfold sizeS
  rw [e, w4_be4 _ (by omega), h0, h1, h2, if_neg (by rw [List.length_append, frL_length]; omega), if_neg (by simp), if_neg (by simp), if_neg (by omega)]
theorem parse_fr (k : Int) (l : List Int) (hk : 0 ≤ k ∧ k ≤ 255) (hb : Byt l) (hl : l.length ≤ 1048576) : parseS (frL k l) = (k, l, 0) := by
  have hs := sizeS_fr k l [] hl
  rw [List.append_nil] at hs
  have hlen := frL_length k l
  have hH := frH_length k l
  have ht : (frL k l).take ((frL k l).length - 4) = frH k l := by
    rw [hlen]; unfold frL
    rw [List.take_append_of_le_length (by omega), List.take_of_length_le (by omega)]
  have hd : (frL k l).drop ((frL k l).length - 4) = be4 (crc (frH k l)) := by
    rw [hlen]; unfold frL
    rw [show l.length + 12 - 4 = (frH k l).length by omega, List.drop_left]
  have h3 : rd (frL k l) 3 = k := by rw [frL_head]; rfl
  have hc := crc_lt (frH_byt hk hb)
  have hw := w4_be4 (crc (frH k l)) hc []
  rw [List.append_nil] at hw
  unfold parseS
  rw [hs, ht, hd, hw, h3, if_neg (by simp), if_neg (by omega), if_neg (by omega), if_neg (by simp)]
  congr 2

theorem frL_inj {k k' : Int} {l l' t t' : List Int} (hl : l.length ≤ 1048576) (hl' : l'.length ≤ 1048576) (h : (frL k l ++ t).take 8 = (frL k' l' ++ t').take 8) : k = k' ∧ l.length = l'.length := by
  rw [frL_head, frL_head] at h
  simp only [be4, List.cons_append, List.nil_append, List.take, List.cons.injEq, and_true, true_and] at h
  omega
theorem frL_same {k k' : Int} {l l' : List Int} (hl : l.length ≤ 1048576) (hl' : l'.length ≤ 1048576) (h : frL k l = frL k' l') : k = k' ∧ l = l' := by
  obtain ⟨h1, h2⟩ := frL_inj (t := []) (t' := []) hl hl' (by rw [h])
  refine ⟨h1, ?_⟩
  rw [frL_head, frL_head] at h
  simp only [List.cons.injEq, true_and] at h
  have h3 := List.append_inj_right h.2 (by simp [be4_length])
  exact List.append_inj_left h3 h2

def letter (i : Int) : Int := if i = 0 then 101 else if i = 1 then 114 else if i = 2 then 112 else if i = 3 then 108 else if i = 4 then 115 else if i = 5 then 116 else 107
def hasF (f : ByteArray) (c : Int) : Nat → Int → Bool
  | 0, _ => false
  | m + 1, j => if bt f j = c then true else hasF f c m (j + 1)
def hasS (f : ByteArray) (c : Int) : Bool := hasF f c f.size 0
def formS (a0 : Int) : ByteArray := if a0 = 1 ∨ a0 = 4 then ⟨#[101, 114, 112, 107]⟩ else if a0 = 2 then ⟨#[101, 114, 112, 108, 43]⟩ else if a0 = 3 then ⟨#[101, 114, 112, 108, 115, 116, 43]⟩ else if a0 = 5 ∨ a0 = 7 then ⟨#[101, 115, 116]⟩ else if a0 = 6 then ⟨#[101]⟩ else if a0 = 8 then ⟨#[101, 114, 116]⟩ else if a0 = 9 then ⟨#[114, 107, 43]⟩ else if a0 = 10 then ⟨#[114]⟩ else if a0 = 11 then ⟨#[114, 107]⟩ else if a0 = 12 then ⟨#[114, 112, 107]⟩ else if a0 = 13 then ⟨#[114, 112]⟩ else ⟨#[]⟩
theorem kinds15 (a0 : Int) : (a0 = 1 ∨ a0 = 2 ∨ a0 = 3 ∨ a0 = 4 ∨ a0 = 5 ∨ a0 = 6 ∨ a0 = 7 ∨ a0 = 8 ∨ a0 = 9 ∨ a0 = 10 ∨ a0 = 11 ∨ a0 = 12 ∨ a0 = 13) ∨ (a0 ≠ 1 ∧ a0 ≠ 2 ∧ a0 ≠ 3 ∧ a0 ≠ 4 ∧ a0 ≠ 5 ∧ a0 ≠ 6 ∧ a0 ≠ 7 ∧ a0 ≠ 8 ∧ a0 ≠ 9 ∧ a0 ≠ 10 ∧ a0 ≠ 11 ∧ a0 ≠ 12 ∧ a0 ≠ 13) := by omega
theorem no_form (a0 : Int) (h : a0 ≠ 1 ∧ a0 ≠ 2 ∧ a0 ≠ 3 ∧ a0 ≠ 4 ∧ a0 ≠ 5 ∧ a0 ≠ 6 ∧ a0 ≠ 7 ∧ a0 ≠ 8 ∧ a0 ≠ 9 ∧ a0 ≠ 10 ∧ a0 ≠ 11 ∧ a0 ≠ 12 ∧ a0 ≠ 13) : formS a0 = ⟨#[]⟩ := by
  obtain ⟨h1, h2, h3, h4, h5, h6, h7, h8, h9, h10, h11, h12, h13⟩ := h
  simp [formS, h1, h2, h3, h4, h5, h6, h7, h8, h9, h10, h11, h12, h13]
theorem form_size (a0 : Int) : (formS a0).size ≤ 7 := by
  rcases kinds15 a0 with h | h
  · rcases h with rfl | rfl | rfl | rfl | rfl | rfl | rfl | rfl | rfl | rfl | rfl | rfl | rfl <;> decide
  · rw [no_form a0 h]; decide

theorem form_eq (k : Nat) (a0 : Int) : pelotonref15_Form.f (k + 2) a0 = some (formS a0) := by
  rcases kinds15 a0 with h | h
  · rcases h with rfl | rfl | rfl | rfl | rfl | rfl | rfl | rfl | rfl | rfl | rfl | rfl | rfl <;> rfl
  · rw [no_form a0 h]
    obtain ⟨h1, h2, h3, h4, h5, h6, h7, h8, h9, h10, h11, h12, h13⟩ := h
    simp [pelotonref15_Form.f, pelotonref15_Form.j0, pelotonref15_Form.j1, h1, h2, h3, h4, h5, h6, h7, h8, h9, h10, h11, h12, h13]

theorem has_loop (f : ByteArray) (c : Int) (hf : f.size ≤ 100) : ∀ (m k j : Nat), j + m = f.size → m < k → pelotonref15_has.l0 k f c (j : Int) = some (hasF f c m (j : Int)) := by
  intro m
  induction m with
  | zero =>
    intro k j hj hk
    obtain ⟨k, rfl⟩ : ∃ x, k = x + 1 := ⟨k - 1, by omega⟩
    simp only [pelotonref15_has.l0, hasF]
    rw [if_neg (by omega)]
  | succ m ih =>
    intro k j hj hk
    obtain ⟨k, rfl⟩ : ∃ x, k = x + 1 := ⟨k - 1, by omega⟩
    simp only [pelotonref15_has.l0, hasF]
    rw [if_pos (by omega), if_pos (by omega)]
    by_cases h : bt f (j : Int) = c
    · rw [if_pos h, if_pos h]
    · rw [if_neg h, if_neg h, next j 1000 (by omega) (by omega), ih k (j + 1) (by omega) (by omega)]
      rw [show ((j + 1 : Nat) : Int) = (j : Int) + 1 by omega]
theorem has_eq (f : ByteArray) (c : Int) (hf : f.size ≤ 100) (k : Nat) (hk : f.size < k) : pelotonref15_has.f k f c = some (hasS f c) := by
  unfold pelotonref15_has.f hasS
  exact has_loop f c hf f.size k 0 (by omega) hk

theorem bits_has (a0 : Int) (hok : msg_of.ok a0 = true) (i : Int) (h0 : 0 ≤ i) (h1 : i < 7) : (msg_bit (msg_of.bits a0) i == 0) = !hasS (formS a0) (letter i) := by
  have hi : i = 0 ∨ i = 1 ∨ i = 2 ∨ i = 3 ∨ i = 4 ∨ i = 5 ∨ i = 6 := by omega
  rcases kinds15 a0 with h | h
  · rcases h with rfl | rfl | rfl | rfl | rfl | rfl | rfl | rfl | rfl | rfl | rfl | rfl | rfl <;> rcases hi with rfl | rfl | rfl | rfl | rfl | rfl | rfl <;> decide +kernel
  · obtain ⟨h1, h2, h3, h4, h5, h6, h7, h8, h9, h10, h11, h12, h13⟩ := h
    simp [msg_of.ok, msg_of.T, h1, h2, h3, h4, h5, h6, h7, h8, h9, h10, h11, h12, h13] at hok
theorem lst_has (a0 : Int) (hok : msg_of.ok a0 = true) : msg_of.lst a0 = hasS (formS a0) 43 := by
  rcases kinds15 a0 with h | h
  · rcases h with rfl | rfl | rfl | rfl | rfl | rfl | rfl | rfl | rfl | rfl | rfl | rfl | rfl <;> decide +kernel
  · obtain ⟨h1, h2, h3, h4, h5, h6, h7, h8, h9, h10, h11, h12, h13⟩ := h
    simp [msg_of.ok, msg_of.T, h1, h2, h3, h4, h5, h6, h7, h8, h9, h10, h11, h12, h13] at hok
theorem ok_form (a0 : Int) : msg_of.ok a0 = true ↔ (formS a0).toList ≠ [] := by
  rcases kinds15 a0 with h | h
  · rcases h with rfl | rfl | rfl | rfl | rfl | rfl | rfl | rfl | rfl | rfl | rfl | rfl | rfl <;> exact ⟨fun _ => by decide +kernel, fun _ => by decide +kernel⟩
  · rw [no_form a0 h]
    obtain ⟨h1, h2, h3, h4, h5, h6, h7, h8, h9, h10, h11, h12, h13⟩ := h
    simp [msg_of.ok, msg_of.T, h1, h2, h3, h4, h5, h6, h7, h8, h9, h10, h11, h12, h13]
def oneS (f : ByteArray) (i x : Int) : Bool := decide (0 ≤ x) && decide (x < 1099511627776) && (decide (x = 0) || hasS f (letter i))
def goodS (f : ByteArray) (N : Int → Int) : Nat → Int → Bool
  | 0, _ => true
  | m + 1, i => oneS f i (N i) && goodS f N m (i + 1)
def rightS (a0 : Int) (N : Int → Int) (l : List Int) : Bool := msg_of.ok a0 && decide ((l.length : Int) ≤ 4096) && (decide ((l.length : Int) ≤ 0) || msg_of.lst a0) && goodS (formS a0) N 7 0

theorem one_eq (a0 : Int) (hok : msg_of.ok a0 = true) (i x : Int) (h0 : 0 ≤ i) (h1 : i < 7) : msg_wrong.one (msg_of.bits a0) i x = !oneS (formS a0) i x := by
  unfold msg_wrong.one oneS
  rw [bits_has a0 hok i h0 h1]
  by_cases c1 : x < 0
  · rw [decide_eq_true c1, decide_eq_false (show ¬ 0 ≤ x by omega)]; rfl
  · by_cases c2 : x < 1099511627776
    · rw [decide_eq_false c1, decide_eq_false (show ¬ x ≥ 1099511627776 by omega), decide_eq_true c2, decide_eq_true (show 0 ≤ x by omega)]
      by_cases c3 : x = 0
      · subst c3; simp
      · simp [c3]
    · rw [decide_eq_true (show x ≥ 1099511627776 by omega), decide_eq_false c2]; simp
theorem bad_eq (a0 : Int) (hok : msg_of.ok a0 = true) (N : Int → Int) : ∀ (m : Nat) (i : Int), 0 ≤ i → i + m = 7 → msg_wrong.bad (msg_of.bits a0) N m i = !goodS (formS a0) N m i := by
  intro m
  induction m with
  | zero => intro i _ _; rfl
  | succ m ih =>
    intro i h0 h1
    simp only [msg_wrong.bad, goodS]
    rw [one_eq a0 hok i _ h0 (by omega), ih (i + 1) (by omega) (by omega)]
    cases oneS (formS a0) i (N i) <;> simp
theorem wrong_eq (a0 a1 a2 a3 a4 a5 a6 a7 : Int) (l : List Int) (hw : (Lit.int .i64 a0).wf = true) : msg_wrong.f a0 a1 a2 a3 a4 a5 a6 a7 l = some (!rightS a0 (msg_num a1 a2 a3 a4 a5 a6 a7) l) := by
  unfold msg_wrong.f rightS
  rw [if_pos hw]
  by_cases h1 : msg_of.ok a0 = true
  · rw [if_pos h1, h1]
    by_cases h2 : (l.length : Int) > 4096
    · rw [if_pos h2, decide_eq_false (show ¬ (l.length : Int) ≤ 4096 by omega)]; rfl
    · rw [if_neg h2, decide_eq_true (show (l.length : Int) ≤ 4096 by omega)]
      by_cases h3 : (l.length : Int) > 0 ∧ msg_of.lst a0 = false
      · rw [if_pos h3, decide_eq_false (show ¬ (l.length : Int) ≤ 0 by omega), h3.2]; rfl
      · rw [if_neg h3, bad_eq a0 h1 _ 7 0 (by omega) (by omega)]
        have : (decide ((l.length : Int) ≤ 0) || msg_of.lst a0) = true := by
          by_cases h4 : (l.length : Int) ≤ 0
          · rw [decide_eq_true h4]; rfl
          · have : msg_of.lst a0 = true := by
              cases h5 : msg_of.lst a0 with
              | true => rfl
              | false => exact absurd ⟨by omega, h5⟩ h3
            rw [this]; simp
        rw [this]; rfl
  · rw [if_neg h1]
    have : msg_of.ok a0 = false := by simpa using h1
    rw [this]; rfl

theorem num_eq (a0 a1 a2 a3 a4 a5 a6 a7 : Int) (l : List Int) (i : Int) (h0 : 0 ≤ i) (h1 : i < 7) : pelotonref15_Num.f a0 a1 a2 a3 a4 a5 a6 a7 l (bt ⟨#[101, 114, 112, 108, 115, 116, 107]⟩ i) = some (msg_num a1 a2 a3 a4 a5 a6 a7 i) ∧ bt ⟨#[101, 114, 112, 108, 115, 116, 107]⟩ i = letter i := by
  have hi : i = 0 ∨ i = 1 ∨ i = 2 ∨ i = 3 ∨ i = 4 ∨ i = 5 ∨ i = 6 := by omega
  rcases hi with rfl | rfl | rfl | rfl | rfl | rfl | rfl <;> exact ⟨rfl, by decide +kernel⟩
theorem right_loop (f : ByteArray) (hf : f.size ≤ 100) (a0 a1 a2 a3 a4 a5 a6 a7 : Int) (l : List Int) : ∀ (m k i : Nat), i + m = 7 → f.size + m < k → pelotonref15_Right.l0 k f ⟨#[101, 114, 112, 108, 115, 116, 107]⟩ (i : Int) a0 a1 a2 a3 a4 a5 a6 a7 l = some (goodS f (msg_num a1 a2 a3 a4 a5 a6 a7) m (i : Int)) := by
  intro m
  induction m with
  | zero =>
    intro k i hi hk
    obtain ⟨k, rfl⟩ : ∃ x, k = x + 1 := ⟨k - 1, by omega⟩
    simp only [pelotonref15_Right.l0, goodS]
    rw [if_neg (by show ¬ (i : Int) < ((7 : Nat) : Int); omega)]
  | succ m ih =>
    intro k i hi hk
    obtain ⟨k, rfl⟩ : ∃ x, k = x + 1 := ⟨k - 1, by omega⟩
    have hn := num_eq a0 a1 a2 a3 a4 a5 a6 a7 l (i : Int) (by omega) (by omega)
    simp only [pelotonref15_Right.l0, goodS]
    rw [if_pos (by show (i : Int) < ((7 : Nat) : Int); omega), if_pos (by omega), hn.1, Option.bind_some, hn.2, has_eq f _ hf k (by omega), Option.bind_some, next i 1000 (by omega) (by omega), ih k (i + 1) (by omega) (by omega), show ((i + 1 : Nat) : Int) = (i : Int) + 1 by omega]
    generalize msg_num a1 a2 a3 a4 a5 a6 a7 (i : Int) = x
    unfold oneS
    by_cases c1 : x < 0
    · rw [if_pos c1, decide_eq_false (show ¬ 0 ≤ x by omega)]; rfl
    · rw [if_neg c1, decide_eq_true (show 0 ≤ x by omega)]
      by_cases c2 : x < 1099511627776
      · rw [if_neg (by omega), decide_eq_true c2]
        by_cases c3 : x = 0
        · rw [if_neg (by omega), decide_eq_true c3]; simp
        · rw [if_pos (by omega), decide_eq_false c3]
          cases hasS f (letter (i : Int)) <;> simp
      · rw [if_pos (by omega), decide_eq_false c2]; rfl
theorem refright_eq (a0 a1 a2 a3 a4 a5 a6 a7 : Int) (l : List Int) (k : Nat) (hk : 30 ≤ k) : pelotonref15_Right.f k a0 a1 a2 a3 a4 a5 a6 a7 l = some (rightS a0 (msg_num a1 a2 a3 a4 a5 a6 a7) l) := by
  have hf := form_size a0
  obtain ⟨k, rfl⟩ : ∃ x, k = x + 2 := ⟨k - 2, by omega⟩
  unfold pelotonref15_Right.f rightS
  rw [form_eq, Option.bind_some]
  by_cases h1 : msg_of.ok a0 = true
  · rw [if_neg ((ok_form a0).1 h1), h1, lst_has a0 h1]
    by_cases h2 : (l.length : Int) > 4096
    · rw [if_pos h2, decide_eq_false (show ¬ (l.length : Int) ≤ 4096 by omega)]; rfl
    · rw [if_neg h2, decide_eq_true (show (l.length : Int) ≤ 4096 by omega)]
      have hl := right_loop (formS a0) (by omega) a0 a1 a2 a3 a4 a5 a6 a7 l 7 (k + 1) 0 (by omega) (by omega)
      by_cases h3 : (l.length : Int) > 0
      · rw [if_pos h3, decide_eq_false (show ¬ (l.length : Int) ≤ 0 by omega), has_eq _ _ (by omega) (k + 2) (by omega), Option.bind_some]
        cases hasS (formS a0) 43 with
        | false => rfl
        | true =>
          simp only [pelotonref15_Right.j0]
          exact hl
      · rw [if_neg h3, decide_eq_true (show (l.length : Int) ≤ 0 by omega)]
        simp only [pelotonref15_Right.j0]
        exact hl
  · have h0 : msg_of.ok a0 = false := by simpa using h1
    rw [if_pos (by
      by_cases h : (formS a0).toList = []
      · exact h
      · exact absurd ((ok_form a0).2 h) h1), h0]
    rfl

theorem five_byt (x : Int) : Byt (msg_Bytes.five x) := by
  intro y hy
  simp only [msg_Bytes.five, List.mem_cons, List.not_mem_nil, or_false] at hy
  rcases hy with rfl | rfl | rfl | rfl | rfl <;> omega
theorem four_byt (x : Int) : Byt (msg_Bytes.four x) := by
  intro y hy
  simp only [msg_Bytes.four, List.mem_cons, List.not_mem_nil, or_false] at hy
  rcases hy with rfl | rfl | rfl | rfl <;> omega
theorem nums_byt (b : Int) (N : Int → Int) : ∀ (m : Nat) (i : Int) (xs : List Int), Byt xs → Byt (msg_Bytes.nums b N m i xs) ∧ (msg_Bytes.nums b N m i xs).length ≤ xs.length + 5 * m := by
  intro m
  induction m with
  | zero => intro i xs h; exact ⟨h, by simp [msg_Bytes.nums]⟩
  | succ m ih =>
    intro i xs h
    simp only [msg_Bytes.nums]
    by_cases c : msg_bit b i = 1
    · rw [if_pos c]
      have h2 := ih (i + 1) (xs ++ msg_Bytes.five (N i)) (Byt.append h (five_byt _))
      refine ⟨h2.1, Nat.le_trans h2.2 ?_⟩
      simp only [List.length_append, msg_Bytes.five, List.length_cons, List.length_nil]
      omega
    · rw [if_neg c]
      have h2 := ih (i + 1) xs h
      exact ⟨h2.1, by omega⟩
theorem lst_byt (l : List Int) : ∀ (m : Nat) (i : Int) (xs : List Int), Byt xs → Byt (msg_Bytes.lst l m i xs) ∧ (msg_Bytes.lst l m i xs).length ≤ xs.length + 4 * m := by
  intro m
  induction m with
  | zero => intro i xs h; exact ⟨h, by simp [msg_Bytes.lst]⟩
  | succ m ih =>
    intro i xs h
    simp only [msg_Bytes.lst]
    have h2 := ih (i + 1) (xs ++ msg_Bytes.four (rd l i)) (Byt.append h (four_byt _))
    refine ⟨h2.1, Nat.le_trans h2.2 ?_⟩
    simp only [List.length_append, msg_Bytes.four, List.length_cons, List.length_nil]
    omega
theorem body_byt (a0 : Int) (N : Int → Int) (l : List Int) (hl : (l.length : Int) ≤ 4096) : Byt (msg_Bytes.body a0 N l) ∧ (msg_Bytes.body a0 N l).length ≤ 20000 := by
  have h1 := nums_byt (msg_of.bits a0) N 7 0 [] (fun x hx => by simp at hx)
  unfold msg_Bytes.body
  by_cases c : msg_of.lst a0 = true
  · rw [if_pos c]
    have h2 := lst_byt l l.length 0 (msg_Bytes.nums (msg_of.bits a0) N 7 0 [] ++ [((l.length : Int) / 256) % 256, (l.length : Int) % 256]) (Byt.append h1.1 (fun x hx => by
      simp only [List.mem_cons, List.not_mem_nil, or_false] at hx
      rcases hx with rfl | rfl <;> omega))
    refine ⟨h2.1, Nat.le_trans h2.2 ?_⟩
    simp only [List.length_append, List.length_cons, List.length_nil] at *
    omega
  · rw [if_neg c]
    exact ⟨h1.1, by have := h1.2; simp only [List.length_nil] at this; omega⟩
theorem right_kind {a0 : Int} {N : Int → Int} {l : List Int} (h : rightS a0 N l = true) : msg_of.ok a0 = true ∧ (l.length : Int) ≤ 4096 ∧ 0 ≤ a0 ∧ a0 ≤ 255 := by
  simp only [rightS, Bool.and_eq_true, decide_eq_true_eq] at h
  refine ⟨h.1.1.1, h.1.1.2, ?_⟩
  rcases kinds15 a0 with hk | hk
  · omega
  · have := (ok_form a0).1 h.1.1.1
    rw [no_form a0 hk] at this
    exact absurd (by decide +kernel) this
theorem bytes_eq (a0 a1 a2 a3 a4 a5 a6 a7 : Int) (l : List Int) (hw : (Lit.int .i64 a0).wf = true) : msg_Bytes.f a0 a1 a2 a3 a4 a5 a6 a7 l = some (if rightS a0 (msg_num a1 a2 a3 a4 a5 a6 a7) l = true then (frL a0 (msg_Bytes.body a0 (msg_num a1 a2 a3 a4 a5 a6 a7) l), 0) else ([], 150)) := by
  unfold msg_Bytes.f
  rw [wrong_eq _ _ _ _ _ _ _ _ _ hw, Option.bind_some]
  cases h : rightS a0 (msg_num a1 a2 a3 a4 a5 a6 a7) l with
  | false => rfl
  | true =>
    have hk := right_kind h
    have hb := body_byt a0 (msg_num a1 a2 a3 a4 a5 a6 a7) l hk.2.1
    rw [if_neg (by simp), if_pos rfl, Int.emod_eq_of_lt hk.2.2.1 (by omega), pack_eq _ _ hk.2.2 hb.1 (by omega)]

theorem awake15_ok (k : Nat) (hk : 400 ≤ k) : pelotonlaw15_awake.f k = some true := by
  have hb : msg_Bytes.body 5 (msg_num 3 0 0 0 1 2 0) [] = [0, 0, 0, 0, 3, 0, 0, 0, 0, 1, 0, 0, 0, 0, 2] := by decide +kernel
  have hB : Byt ([0, 0, 0, 0, 3, 0, 0, 0, 0, 1, 0, 0, 0, 0, 2] : List Int) := by
    intro x hx
    simp only [List.mem_cons, List.not_mem_nil, or_false] at hx
    omega
  unfold pelotonlaw15_awake.f
  rw [bytes_eq _ _ _ _ _ _ _ _ _ (by decide), if_pos (by decide +kernel), hb, Option.bind_some, if_pos rfl, refpack_eq k 5 _ (by omega) hB (by simp) (by simp; omega), Option.bind_some]
  simp

theorem clone_eq (a0 a1 a2 a3 a4 a5 a6 a7 : Int) (l : List Int) (hl : l.length < 35184372088832) : msg_Clone.f a0 a1 a2 a3 a4 a5 a6 a7 l = some (a0, a1, a2, a3, a4, a5, a6, a7, l) := by
  unfold msg_Clone.f slices_Clone_int32_int32.f
  simp only [Option.bind_some, List.length_nil, List.nil_append]
  rw [if_pos (by omega), Option.bind_some]

def sameS (a0 : Int) (N : Int → Int) (l : List Int) (b0 : Int) (M : Int → Int) (l' : List Int) : Bool := decide (a0 = b0) && msg_Same.nums N M 7 0 && decide (l = l')
theorem drop_eq_step (l l' : List Int) (j : Nat) (h : j < l.length) (h' : j < l'.length) : (l.drop j = l'.drop j) ↔ (rd l j = rd l' j ∧ l.drop (j + 1) = l'.drop (j + 1)) := by
  rw [drop_cons l j h, drop_cons l' j h']
  constructor
  · intro e; injection e with e1 e2; exact ⟨e1, e2⟩
  · rintro ⟨e1, e2⟩; rw [e1, e2]
theorem equal_loop (l l' : List Int) (hl : l.length = l'.length) (hb : l.length < 4611686018427387904) : ∀ (m k j : Nat), j + m = l.length → m < k → slices_Equal_int32_int32.l0 k l l' (l.length : Int) (j : Int) = some (decide (l.drop j = l'.drop j)) := by
  intro m
  induction m with
  | zero =>
    intro k j hj hk
    obtain ⟨k, rfl⟩ : ∃ x, k = x + 1 := ⟨k - 1, by omega⟩
    simp only [slices_Equal_int32_int32.l0]
    rw [if_neg (by omega), List.drop_of_length_le (by omega), List.drop_of_length_le (by omega)]
    simp
  | succ m ih =>
    intro k j hj hk
    obtain ⟨k, rfl⟩ : ∃ x, k = x + 1 := ⟨k - 1, by omega⟩
    simp only [slices_Equal_int32_int32.l0]
    rw [if_pos (by omega), if_pos (by omega), if_pos (by omega), if_pos (by omega), next j (l.length) (by omega) (by omega), ih k (j + 1) (by omega) (by omega)]
    have hs := drop_eq_step l l' j (by omega) (by omega)
    by_cases c : rd l (j : Int) = rd l' (j : Int)
    · rw [if_pos c]
      congr 1
      exact decide_eq_decide.2 ⟨fun h => hs.2 ⟨c, h⟩, fun h => (hs.1 h).2⟩
    · rw [if_neg c, decide_eq_false (fun h => c (hs.1 h).1)]
theorem equal_eq (l l' : List Int) (hb : l.length < 4611686018427387904) (k : Nat) (hk : l.length < k) : slices_Equal_int32_int32.f k l l' = some (decide (l = l')) := by
  unfold slices_Equal_int32_int32.f
  by_cases h : l.length = l'.length
  · rw [if_pos (by omega)]
    exact equal_loop l l' h hb l.length k 0 (by omega) hk
  · rw [if_neg (by omega), decide_eq_false (fun e => h (by rw [e]))]
theorem msame_eq (a0 a1 a2 a3 a4 a5 a6 a7 : Int) (l : List Int) (b0 b1 b2 b3 b4 b5 b6 b7 : Int) (l' : List Int) (hb : l.length < 4611686018427387904) (k : Nat) (hk : l.length < k) :
    msg_Same.f k a0 a1 a2 a3 a4 a5 a6 a7 l b0 b1 b2 b3 b4 b5 b6 b7 l' = some (sameS a0 (msg_num a1 a2 a3 a4 a5 a6 a7) l b0 (msg_num b1 b2 b3 b4 b5 b6 b7) l') := by
  unfold msg_Same.f sameS
  rw [equal_eq l l' hb k hk]
  cases msg_Same.nums (msg_num a1 a2 a3 a4 a5 a6 a7) (msg_num b1 b2 b3 b4 b5 b6 b7) 7 0
  · simp
  · by_cases h : a0 = b0
    · rw [if_pos rfl, if_pos h, decide_eq_true h]; simp
    · rw [if_pos rfl, if_neg h, decide_eq_false h]; simp
theorem same_comm (N M : Int → Int) : ∀ (m : Nat) (i : Int), msg_Same.nums N M m i = msg_Same.nums M N m i := by
  intro m
  induction m with
  | zero => intro i; rfl
  | succ m ih =>
    intro i
    simp only [msg_Same.nums]
    by_cases h : N i = M i
    · rw [if_pos h, if_pos h.symm, ih]
    · rw [if_neg h, if_neg (fun e => h e.symm)]
theorem sameS_comm (a0 : Int) (N : Int → Int) (l : List Int) (b0 : Int) (M : Int → Int) (l' : List Int) : sameS a0 N l b0 M l' = sameS b0 M l' a0 N l := by
  unfold sameS
  rw [same_comm N M, decide_eq_decide.2 (eq_comm (a := a0) (b := b0)), decide_eq_decide.2 (eq_comm (a := l) (b := l'))]

theorem refsame_l1 (a0 a1 a2 a3 a4 a5 a6 a7 : Int) (l : List Int) (b0 b1 b2 b3 b4 b5 b6 b7 : Int) (l' : List Int) (hl : l.length = l'.length) (hb : l.length < 4611686018427387904) : ∀ (m k j : Nat), j + m = l.length → m < k → pelotonref15_Same.l1 k (j : Int) a0 a1 a2 a3 a4 a5 a6 a7 l b0 b1 b2 b3 b4 b5 b6 b7 l' = some (decide (l.drop j = l'.drop j)) := by
  intro m
  induction m with
  | zero =>
    intro k j hj hk
    obtain ⟨k, rfl⟩ : ∃ x, k = x + 1 := ⟨k - 1, by omega⟩
    simp only [pelotonref15_Same.l1]
    rw [if_neg (by omega), List.drop_of_length_le (by omega), List.drop_of_length_le (by omega)]
    simp
  | succ m ih =>
    intro k j hj hk
    obtain ⟨k, rfl⟩ : ∃ x, k = x + 1 := ⟨k - 1, by omega⟩
    simp only [pelotonref15_Same.l1]
    rw [if_pos (by omega), if_pos (by omega), if_pos (by omega), next j (l.length) (by omega) (by omega), ih k (j + 1) (by omega) (by omega)]
    have hs := drop_eq_step l l' j (by omega) (by omega)
    by_cases c : rd l (j : Int) = rd l' (j : Int)
    · rw [if_pos c]
      congr 1
      exact decide_eq_decide.2 ⟨fun h => hs.2 ⟨c, h⟩, fun h => (hs.1 h).2⟩
    · rw [if_neg c, decide_eq_false (fun h => c (hs.1 h).1)]
theorem refsame_l0 (a0 a1 a2 a3 a4 a5 a6 a7 : Int) (l : List Int) (b0 b1 b2 b3 b4 b5 b6 b7 : Int) (l' : List Int) (hl : l.length = l'.length) (hb : l.length < 4611686018427387904) : ∀ (m k i : Nat), i + m = 7 → l.length + m + 1 < k → pelotonref15_Same.l0 k ⟨#[101, 114, 112, 108, 115, 116, 107]⟩ (i : Int) a0 a1 a2 a3 a4 a5 a6 a7 l b0 b1 b2 b3 b4 b5 b6 b7 l' = some (msg_Same.nums (msg_num a1 a2 a3 a4 a5 a6 a7) (msg_num b1 b2 b3 b4 b5 b6 b7) m (i : Int) && decide (l = l')) := by
  intro m
  induction m with
  | zero =>
    intro k i hi hk
    obtain ⟨k, rfl⟩ : ∃ x, k = x + 1 := ⟨k - 1, by omega⟩
    simp only [pelotonref15_Same.l0, msg_Same.nums]
    rw [if_neg (by show ¬ (i : Int) < ((7 : Nat) : Int); omega), Bool.true_and]
    exact refsame_l1 a0 a1 a2 a3 a4 a5 a6 a7 l b0 b1 b2 b3 b4 b5 b6 b7 l' hl hb l.length k 0 (by omega) (by omega)
  | succ m ih =>
    intro k i hi hk
    obtain ⟨k, rfl⟩ : ∃ x, k = x + 1 := ⟨k - 1, by omega⟩
    simp only [pelotonref15_Same.l0, msg_Same.nums]
    rw [if_pos (by show (i : Int) < ((7 : Nat) : Int); omega), if_pos (by omega), (num_eq a0 a1 a2 a3 a4 a5 a6 a7 l (i : Int) (by omega) (by omega)).1, Option.bind_some, (num_eq b0 b1 b2 b3 b4 b5 b6 b7 l' (i : Int) (by omega) (by omega)).1, Option.bind_some, next i 1000 (by omega) (by omega), ih k (i + 1) (by omega) (by omega), show ((i + 1 : Nat) : Int) = (i : Int) + 1 by omega]
    by_cases c : msg_num a1 a2 a3 a4 a5 a6 a7 (i : Int) = msg_num b1 b2 b3 b4 b5 b6 b7 (i : Int)
    · rw [if_pos c, if_pos c]
    · rw [if_neg c, if_neg c]; rfl
theorem refsame_eq (a0 a1 a2 a3 a4 a5 a6 a7 : Int) (l : List Int) (b0 b1 b2 b3 b4 b5 b6 b7 : Int) (l' : List Int) (hb : l.length < 4611686018427387904) (k : Nat) (hk : l.length + 20 < k) :
    pelotonref15_Same.f k a0 a1 a2 a3 a4 a5 a6 a7 l b0 b1 b2 b3 b4 b5 b6 b7 l' = some (sameS a0 (msg_num a1 a2 a3 a4 a5 a6 a7) l b0 (msg_num b1 b2 b3 b4 b5 b6 b7) l') := by
  obtain ⟨k, rfl⟩ : ∃ x, k = x + 1 := ⟨k - 1, by omega⟩
  unfold pelotonref15_Same.f sameS
  by_cases h : a0 = b0
  · rw [if_pos h, decide_eq_true h, Bool.true_and]
    simp only [pelotonref15_Same.j0]
    by_cases hl : l.length = l'.length
    · rw [if_neg (by simp [hl])]
      exact refsame_l0 a0 a1 a2 a3 a4 a5 a6 a7 l b0 b1 b2 b3 b4 b5 b6 b7 l' hl hb 7 k 0 (by omega) (by omega)
    · rw [if_pos (by simp; omega), decide_eq_false (fun e => hl (by rw [e])), Bool.and_false]
  · rw [if_neg h, decide_eq_false h]
    simp only [pelotonref15_Same.j0]
    rfl

def numsR (b : Int) (N : Int → Int) : Nat → Int → List Int
  | 0, _ => []
  | m + 1, i => (if msg_bit b i = 1 then msg_Bytes.five (N i) else []) ++ numsR b N m (i + 1)
def lstR (l : List Int) : Nat → Int → List Int
  | 0, _ => []
  | m + 1, j => msg_Bytes.four (rd l j) ++ lstR l m (j + 1)
theorem nums_R (b : Int) (N : Int → Int) : ∀ (m : Nat) (i : Int) (xs : List Int), msg_Bytes.nums b N m i xs = xs ++ numsR b N m i := by
  intro m
  induction m with
  | zero => intro i xs; simp [msg_Bytes.nums, numsR]
  | succ m ih =>
    intro i xs
    simp only [msg_Bytes.nums, numsR]
    rw [ih]
    by_cases c : msg_bit b i = 1
    · rw [if_pos c, if_pos c, List.append_assoc]
    · rw [if_neg c, if_neg c, List.nil_append]
theorem lst_R (l : List Int) : ∀ (m : Nat) (j : Int) (xs : List Int), msg_Bytes.lst l m j xs = xs ++ lstR l m j := by
  intro m
  induction m with
  | zero => intro j xs; simp [msg_Bytes.lst, lstR]
  | succ m ih =>
    intro j xs
    simp only [msg_Bytes.lst, lstR]
    rw [ih, List.append_assoc]
theorem numsR_len (b : Int) (N M : Int → Int) : ∀ (m : Nat) (i : Int), (numsR b N m i).length = (numsR b M m i).length := by
  intro m
  induction m with
  | zero => intro i; rfl
  | succ m ih =>
    intro i
    simp only [numsR, List.length_append]
    rw [ih]
    by_cases c : msg_bit b i = 1
    · rw [if_pos c, if_pos c]; rfl
    · rw [if_neg c, if_neg c]
theorem five_inj {x y : Int} (hx : 0 ≤ x ∧ x < 1099511627776) (hy : 0 ≤ y ∧ y < 1099511627776) (h : msg_Bytes.five x = msg_Bytes.five y) : x = y := by
  simp only [msg_Bytes.five, List.cons.injEq, and_true] at h
  omega
theorem four_inj {x y : Int} (hx : -2147483648 ≤ x ∧ x ≤ 2147483647) (hy : -2147483648 ≤ y ∧ y ≤ 2147483647) (h : msg_Bytes.four x = msg_Bytes.four y) : x = y := by
  simp only [msg_Bytes.four, List.cons.injEq, and_true] at h
  omega
theorem numsR_inj (b : Int) (N M : Int → Int) : ∀ (m : Nat) (i : Int), numsR b N m i = numsR b M m i → (∀ j : Int, i ≤ j → j < i + m → 0 ≤ N j ∧ N j < 1099511627776 ∧ 0 ≤ M j ∧ M j < 1099511627776 ∧ (msg_bit b j ≠ 1 → N j = M j)) → msg_Same.nums N M m i = true := by
  intro m
  induction m with
  | zero => intro i _ _; rfl
  | succ m ih =>
    intro i h hr
    simp only [numsR] at h
    simp only [msg_Same.nums]
    have h0 := hr i (by omega) (by omega)
    by_cases c : msg_bit b i = 1
    · rw [if_pos c, if_pos c] at h
      obtain ⟨e1, e2⟩ := List.append_inj h rfl
      rw [if_pos (five_inj ⟨h0.1, h0.2.1⟩ ⟨h0.2.2.1, h0.2.2.2.1⟩ e1)]
      exact ih (i + 1) e2 (fun j a b => hr j (by omega) (by omega))
    · rw [if_neg c, if_neg c, List.nil_append, List.nil_append] at h
      rw [if_pos (h0.2.2.2.2 c)]
      exact ih (i + 1) h (fun j a b => hr j (by omega) (by omega))
theorem lstR_inj (l l' : List Int) (hl : l.length = l'.length) (hw : ∀ x ∈ l, -2147483648 ≤ x ∧ x ≤ 2147483647) (hw' : ∀ x ∈ l', -2147483648 ≤ x ∧ x ≤ 2147483647) : ∀ (m : Nat) (j : Nat), j + m = l.length → lstR l m (j : Int) = lstR l' m (j : Int) → l.drop j = l'.drop j := by
  intro m
  induction m with
  | zero => intro j hj _; rw [List.drop_of_length_le (by omega), List.drop_of_length_le (by omega)]
  | succ m ih =>
    intro j hj h
    simp only [lstR] at h
    obtain ⟨e1, e2⟩ := List.append_inj h rfl
    rw [drop_eq_step l l' j (by omega) (by omega)]
    refine ⟨four_inj (hw _ (rd_mem l j (by omega))) (hw' _ (rd_mem l' j (by omega))) e1, ih (j + 1) (by omega) ?_⟩
    rw [show ((j + 1 : Nat) : Int) = (j : Int) + 1 by omega]
    exact e2
theorem one_num {f : ByteArray} {i x : Int} (h : oneS f i x = true) : 0 ≤ x ∧ x < 1099511627776 ∧ (hasS f (letter i) = false → x = 0) := by
  simp only [oneS, Bool.and_eq_true, Bool.or_eq_true, decide_eq_true_eq] at h
  refine ⟨h.1.1, h.1.2, fun hh => ?_⟩
  rcases h.2 with h2 | h2
  · exact h2
  · rw [hh] at h2; cases h2
theorem good_all {f : ByteArray} {N : Int → Int} : ∀ (m : Nat) (i : Int), goodS f N m i = true → ∀ j : Int, i ≤ j → j < i + m → oneS f j (N j) = true := by
  intro m
  induction m with
  | zero => intro i _ j h0 h1; omega
  | succ m ih =>
    intro i h j h0 h1
    simp only [goodS, Bool.and_eq_true] at h
    by_cases c : j = i
    · subst c; exact h.1
    · exact ih (i + 1) h.2 j (by omega) (by omega)
theorem bit01 (a0 : Int) (hok : msg_of.ok a0 = true) (i : Int) (h0 : 0 ≤ i) (h1 : i < 7) : msg_bit (msg_of.bits a0) i = 0 ∨ msg_bit (msg_of.bits a0) i = 1 := by
  have hi : i = 0 ∨ i = 1 ∨ i = 2 ∨ i = 3 ∨ i = 4 ∨ i = 5 ∨ i = 6 := by omega
  rcases kinds15 a0 with h | h
  · rcases h with rfl | rfl | rfl | rfl | rfl | rfl | rfl | rfl | rfl | rfl | rfl | rfl | rfl <;> rcases hi with rfl | rfl | rfl | rfl | rfl | rfl | rfl <;> decide +kernel
  · obtain ⟨h1, h2, h3, h4, h5, h6, h7, h8, h9, h10, h11, h12, h13⟩ := h
    simp [msg_of.ok, msg_of.T, h1, h2, h3, h4, h5, h6, h7, h8, h9, h10, h11, h12, h13] at hok
theorem body_inj (a0 : Int) (N M : Int → Int) (l l' : List Int) (hN : rightS a0 N l = true) (hM : rightS a0 M l' = true) (hw : ∀ x ∈ l, -2147483648 ≤ x ∧ x ≤ 2147483647) (hw' : ∀ x ∈ l', -2147483648 ≤ x ∧ x ≤ 2147483647) (h : msg_Bytes.body a0 N l = msg_Bytes.body a0 M l') : msg_Same.nums N M 7 0 = true ∧ l = l' := by
  have hk := right_kind hN
  have hk' := right_kind hM
  simp only [rightS, Bool.and_eq_true] at hN hM
  have gN := good_all 7 0 hN.2
  have gM := good_all 7 0 hM.2
  have hnum : numsR (msg_of.bits a0) N 7 0 = numsR (msg_of.bits a0) M 7 0 → msg_Same.nums N M 7 0 = true := by
    intro e
    refine numsR_inj _ N M 7 0 e (fun j h0 h1 => ?_)
    have oN := one_num (gN j h0 h1)
    have oM := one_num (gM j h0 h1)
    refine ⟨oN.1, oN.2.1, oM.1, oM.2.1, fun hne => ?_⟩
    have hz : msg_bit (msg_of.bits a0) j = 0 := by
      rcases bit01 a0 hk.1 j h0 (by omega) with h2 | h2
      · exact h2
      · exact absurd h2 hne
    have hh := bits_has a0 hk.1 j h0 (by omega)
    rw [hz] at hh
    have hf : hasS (formS a0) (letter j) = false := by
      cases hq : hasS (formS a0) (letter j) with
      | false => rfl
      | true => rw [hq] at hh; simp at hh
    rw [oN.2.2 hf, oM.2.2 hf]
  unfold msg_Bytes.body at h
  by_cases c : msg_of.lst a0 = true
  · rw [if_pos c, if_pos c, lst_R, lst_R, nums_R, nums_R, List.nil_append, List.nil_append, List.append_assoc, List.append_assoc] at h
    obtain ⟨e1, e2⟩ := List.append_inj h (numsR_len _ _ _ _ _)
    obtain ⟨e3, e4⟩ := List.append_inj e2 rfl
    simp only [List.cons.injEq, and_true] at e3
    have hl : l.length = l'.length := by have := hk.2.1; have := hk'.2.1; omega
    refine ⟨hnum e1, ?_⟩
    rw [← hl] at e4
    exact lstR_inj l l' hl hw hw' l.length 0 (by omega) e4
  · rw [if_neg c, if_neg c, nums_R, nums_R, List.nil_append, List.nil_append] at h
    refine ⟨hnum h, ?_⟩
    have cf : msg_of.lst a0 = false := by simpa using c
    have h1 := hN.1.2
    have h2 := hM.1.2
    rw [cf, Bool.or_false, decide_eq_true_eq] at h1 h2
    rw [List.length_eq_zero_iff.1 (show l.length = 0 by omega), List.length_eq_zero_iff.1 (show l'.length = 0 by omega)]
theorem numsR_congr (b : Int) (N M : Int → Int) : ∀ (m : Nat) (i : Int), msg_Same.nums N M m i = true → numsR b N m i = numsR b M m i := by
  intro m
  induction m with
  | zero => intro i _; rfl
  | succ m ih =>
    intro i h
    simp only [msg_Same.nums] at h
    by_cases c : N i = M i
    · rw [if_pos c] at h
      simp only [numsR]
      rw [ih (i + 1) h, c]
    · rw [if_neg c] at h; cases h
theorem apart_fin (a0 b0 : Int) (N M : Int → Int) (l l' : List Int) (hN : rightS a0 N l = true) (hM : rightS b0 M l' = true) (hw : ∀ x ∈ l, -2147483648 ≤ x ∧ x ≤ 2147483647) (hw' : ∀ x ∈ l', -2147483648 ≤ x ∧ x ≤ 2147483647) :
    decide (frL a0 (msg_Bytes.body a0 N l) = frL b0 (msg_Bytes.body b0 M l')) = sameS a0 N l b0 M l' := by
  have hk := right_kind hN
  have hk' := right_kind hM
  have bN := body_byt a0 N l hk.2.1
  have bM := body_byt b0 M l' hk'.2.1
  unfold sameS
  by_cases e : frL a0 (msg_Bytes.body a0 N l) = frL b0 (msg_Bytes.body b0 M l')
  · rw [decide_eq_true e]
    obtain ⟨e1, e2⟩ := frL_same (by omega) (by omega) e
    subst e1
    obtain ⟨e3, e4⟩ := body_inj a0 N M l l' hN hM hw hw' e2
    rw [e3, decide_eq_true e4, decide_eq_true rfl]
    rfl
  · rw [decide_eq_false e]
    cases hs : (decide (a0 = b0) && msg_Same.nums N M 7 0 && decide (l = l')) with
    | false => rfl
    | true =>
      simp only [Bool.and_eq_true, decide_eq_true_eq] at hs
      obtain ⟨⟨e1, e2⟩, e3⟩ := hs
      subst e1 e3
      refine absurd ?_ e
      unfold msg_Bytes.body
      rw [nums_R, nums_R, numsR_congr _ N M 7 0 e2]

theorem mright2_eq (a0 a1 a2 a3 a4 a5 a6 a7 : Int) (l : List Int) (b0 b1 b2 b3 b4 b5 b6 b7 : Int) (l' : List Int) (hw : (Lit.int .i64 a0).wf = true) (hw' : (Lit.int .i64 b0).wf = true) (k : Nat) : msg_Right.f (k + 4) [(⟨a0, a1, a2, a3, a4, a5, a6, a7, l⟩ : S24), ⟨b0, b1, b2, b3, b4, b5, b6, b7, l'⟩] = some (rightS a0 (msg_num a1 a2 a3 a4 a5 a6 a7) l && rightS b0 (msg_num b1 b2 b3 b4 b5 b6 b7) l') := by
  unfold msg_Right.f api_Msg_26_at_msg_wrong.f api_Msg_36_at_msg_wrong.f
  simp only [api_Msg_36_at_msg_wrong.l0, rd_T24, List.length_cons, List.length_nil, show wrap64 ((0 : Int) + 1) = 1 from by unfold wrap64; omega, show wrap64 ((1 : Int) + 1) = 2 from by unfold wrap64; omega]
  rw [if_pos (by omega), if_pos (by omega), if_pos (by omega)]
  show (((msg_wrong.f a0 a1 a2 a3 a4 a5 a6 a7 l).bind _).bind _).bind _ = _
  rw [wrong_eq _ _ _ _ _ _ _ _ _ hw, Option.bind_some]
  cases rightS a0 (msg_num a1 a2 a3 a4 a5 a6 a7) l with
  | false => rfl
  | true =>
    rw [if_neg (by simp), if_pos (by omega), if_pos (by omega), if_pos (by omega)]
    show (((msg_wrong.f b0 b1 b2 b3 b4 b5 b6 b7 l').bind _).bind _).bind _ = _
    rw [wrong_eq _ _ _ _ _ _ _ _ _ hw', Option.bind_some]
    cases rightS b0 (msg_num b1 b2 b3 b4 b5 b6 b7) l' <;> rfl

def inc15 (x : Int) : Int := wrap32 (x + 1)
theorem inc_ne (x : Int) (h : -2147483648 ≤ x ∧ x ≤ 2147483647) : inc15 x ≠ x := by unfold inc15 wrap32; omega
theorem inc_step (l : List Int) (j : Nat) (h : j < l.length) : rd ((l.take j).map inc15 ++ l.drop j) (j : Int) = rd l (j : Int) ∧ ((l.take j).map inc15 ++ l.drop j).set j (inc15 (rd l (j : Int))) = (l.take (j + 1)).map inc15 ++ l.drop (j + 1) := by
  have hA : ((l.take j).map inc15).length = j := by rw [List.length_map, List.length_take]; omega
  rw [drop_cons l j h]
  constructor
  · rw [rd_nat _ j (by rw [List.length_append, hA, List.length_cons]; omega), List.getElem_append_right (by omega)]
    have hm : min j l.length = j := by omega
    simp [hm]
  · rw [List.set_append_right _ _ (by omega), hA, Nat.sub_self, List.set_cons_zero, List.take_succ_eq_append_getElem h, List.map_append, rd_nat l j h, List.append_assoc]
    rfl
theorem apart_j4 (a0 a1 a2 a3 a4 a5 a6 a7 : Int) (l : List Int) (b0 b1 b2 b3 b4 b5 b6 b7 : Int) (l' : List Int) (hw : (Lit.int .i64 a0).wf = true) (hw' : (Lit.int .i64 b0).wf = true) (hl : ∀ x ∈ l, -2147483648 ≤ x ∧ x ≤ 2147483647) (hl' : ∀ x ∈ l', -2147483648 ≤ x ∧ x ≤ 2147483647) (k : Nat) (hk : 100 ≤ k) :
    pelotonlaw15_MsgApart.j3 k (sameS a0 (msg_num a1 a2 a3 a4 a5 a6 a7) l b0 (msg_num b1 b2 b3 b4 b5 b6 b7) l') false a0 a1 a2 a3 a4 a5 a6 a7 l b0 b1 b2 b3 b4 b5 b6 b7 l' = some true := by
  obtain ⟨k, rfl⟩ : ∃ x, k = x + 6 := ⟨k - 6, by omega⟩
  simp only [pelotonlaw15_MsgApart.j3]
  rw [if_neg (by simp), refright_eq _ _ _ _ _ _ _ _ _ (k + 5) (by omega), Option.bind_some]
  have hbad : ∀ x, (rightS a0 (msg_num a1 a2 a3 a4 a5 a6 a7) l && rightS b0 (msg_num b1 b2 b3 b4 b5 b6 b7) l') = false → x = true → pelotonlaw15_MsgApart.j4 (k + 5) (sameS a0 (msg_num a1 a2 a3 a4 a5 a6 a7) l b0 (msg_num b1 b2 b3 b4 b5 b6 b7) l') x a0 a1 a2 a3 a4 a5 a6 a7 l b0 b1 b2 b3 b4 b5 b6 b7 l' = some true := by
    rintro x hb rfl
    simp only [pelotonlaw15_MsgApart.j4]
    rw [if_pos True.intro, mright2_eq _ _ _ _ _ _ _ _ _ _ _ _ _ _ _ _ _ _ hw hw' k, Option.bind_some, hb]
    rfl
  cases hA : rightS a0 (msg_num a1 a2 a3 a4 a5 a6 a7) l with
  | false =>
    rw [if_neg (by simp)]
    exact hbad true (by rw [hA]; rfl) rfl
  | true =>
    rw [if_pos rfl, refright_eq _ _ _ _ _ _ _ _ _ (k + 5) (by omega), Option.bind_some]
    cases hB : rightS b0 (msg_num b1 b2 b3 b4 b5 b6 b7) l' with
    | false => exact hbad _ (by rw [hA, hB]; rfl) rfl
    | true =>
      have hkA := right_kind hA
      have hkB := right_kind hB
      simp only [pelotonlaw15_MsgApart.j4]
      rw [if_neg (show ¬ (!true) = true by simp), bytes_eq _ _ _ _ _ _ _ _ _ hw, bytes_eq _ _ _ _ _ _ _ _ _ hw', if_pos hA, if_pos hB, Option.bind_some, Option.bind_some]
      rw [if_pos rfl, if_pos rfl, mright2_eq _ _ _ _ _ _ _ _ _ _ _ _ _ _ _ _ _ _ hw hw' k, Option.bind_some, hA, hB, if_pos (show (true && true) = true from rfl)]
      rw [str_beq (frL_byt hkA.2.2 (body_byt _ _ _ hkA.2.1).1) (frL_byt hkB.2.2 (body_byt _ _ _ hkB.2.1).1), apart_fin _ _ _ _ _ _ hA hB hl hl']
      simp
theorem apart_loop (a0 a1 a2 a3 a4 a5 a6 a7 : Int) (l : List Int) (b0 b1 b2 b3 b4 b5 b6 b7 : Int) (l' : List Int) (hw : (Lit.int .i64 a0).wf = true) (hw' : (Lit.int .i64 b0).wf = true) (hl : ∀ x ∈ l, -2147483648 ≤ x ∧ x ≤ 2147483647) (hl' : ∀ x ∈ l', -2147483648 ≤ x ∧ x ≤ 2147483647) (hn : l.length ≤ 1000) : ∀ (m k j : Nat), j + m = l.length → m + 2000 ≤ k →
    pelotonlaw15_MsgApart.l0 k (sameS a0 (msg_num a1 a2 a3 a4 a5 a6 a7) l b0 (msg_num b1 b2 b3 b4 b5 b6 b7) l') (j : Int) a0 a1 a2 a3 a4 a5 a6 a7 l b0 b1 b2 b3 b4 b5 b6 b7 l' a0 a1 a2 a3 a4 a5 a6 a7 ((l.take j).map inc15 ++ l.drop j) = some true := by
  have hlen : ∀ j : Nat, j ≤ l.length → ((l.take j).map inc15 ++ l.drop j).length = l.length := by
    intro j h
    rw [List.length_append, List.length_map, List.length_take, List.length_drop]; omega
  intro m
  induction m with
  | zero =>
    intro k j hj hk
    obtain ⟨k, rfl⟩ : ∃ x, k = x + 1 := ⟨k - 1, by omega⟩
    have hj' : j = l.length := by omega
    subst hj'
    simp only [pelotonlaw15_MsgApart.l0]
    rw [hlen _ (Nat.le_refl _), if_neg (by omega), List.take_of_length_le (Nat.le_refl _), List.drop_of_length_le (Nat.le_refl _), List.append_nil]
    by_cases c : (l.length : Int) > 0
    · rw [if_pos c, msame_eq _ _ _ _ _ _ _ _ _ _ _ _ _ _ _ _ _ _ (by omega) k (by omega), Option.bind_some]
      have h0 : rd (l.map inc15) 0 ≠ rd l 0 := by
        have e1 := rd_nat l 0 (by omega)
        have e2 := rd_nat (l.map inc15) 0 (by rw [List.length_map]; omega)
        rw [show ((0 : Nat) : Int) = 0 from rfl] at e1 e2
        rw [e1, e2, List.getElem_map]
        exact inc_ne _ (hl _ (List.getElem_mem _))
      have hs : sameS a0 (msg_num a1 a2 a3 a4 a5 a6 a7) l a0 (msg_num a1 a2 a3 a4 a5 a6 a7) (l.map inc15) = false := by
        unfold sameS
        rw [decide_eq_false (show ¬ l = l.map inc15 from fun e => h0 (by rw [← e])), Bool.and_false]
      rw [hs, if_neg (by simp), if_pos (by omega), if_pos (by omega), beq_eq_false_iff_ne.2 h0]
      exact apart_j4 a0 a1 a2 a3 a4 a5 a6 a7 l b0 b1 b2 b3 b4 b5 b6 b7 l' hw hw' hl hl' k (by omega)
    · rw [if_neg c]
      exact apart_j4 a0 a1 a2 a3 a4 a5 a6 a7 l b0 b1 b2 b3 b4 b5 b6 b7 l' hw hw' hl hl' k (by omega)
  | succ m ih =>
    intro k j hj hk
    obtain ⟨k, rfl⟩ : ∃ x, k = x + 1 := ⟨k - 1, by omega⟩
    have hs := inc_step l j (by omega)
    simp only [pelotonlaw15_MsgApart.l0]
    rw [hlen j (by omega), if_pos (by omega), if_pos (by omega), hs.1, next j 2000 (by omega) (by omega)]
    have he : ((l.take j).map inc15 ++ l.drop j).set ((j : Int)).toNat (wrap32 (rd l (j : Int) + 1)) = (l.take (j + 1)).map inc15 ++ l.drop (j + 1) := hs.2
    rw [he]
    exact ih k (j + 1) (by omega) (by omega)
theorem MsgApart : pelotonlaw15_MsgApart.Pure := by
  intro a0 a1 a2 a3 a4 a5 a6 a7 l b0 b1 b2 b3 b4 b5 b6 b7 l' ⟨w0, w1, w2, w3, w4, w5, w6, w7, hl, hy⟩ ⟨v0, v1, v2, v3, v4, v5, v6, v7, hl', hy'⟩
  refine ⟨6000, ?_⟩
  unfold pelotonlaw15_MsgApart.f
  rw [awake15_ok 6000 (by omega), Option.bind_some, if_pos rfl]
  have hj : ∀ x, x = true → pelotonlaw15_MsgApart.j0 6000 x a0 a1 a2 a3 a4 a5 a6 a7 l b0 b1 b2 b3 b4 b5 b6 b7 l' = some true := by
    rintro x rfl
    simp only [pelotonlaw15_MsgApart.j0]
    rw [if_pos True.intro, awake15_ok 5999 (by omega)]
    rfl
  by_cases h1 : (l.length : Int) > 1000
  · rw [if_pos h1]; exact hj true rfl
  rw [if_neg h1]
  by_cases h2 : (l'.length : Int) > 1000
  · exact hj _ (decide_eq_true h2)
  rw [decide_eq_false h2]
  have q : ∀ x ∈ l, -2147483648 ≤ x ∧ x ≤ 2147483647 := fun x hx => wf32 (hy x hx)
  have q' : ∀ x ∈ l', -2147483648 ≤ x ∧ x ≤ 2147483647 := fun x hx => wf32 (hy' x hx)
  simp only [pelotonlaw15_MsgApart.j0]
  rw [if_neg (by simp), refsame_eq _ _ _ _ _ _ _ _ _ _ _ _ _ _ _ _ _ _ (by omega) 5999 (by omega), Option.bind_some, msame_eq _ _ _ _ _ _ _ _ _ _ _ _ _ _ _ _ _ _ (by omega) 5999 (by omega), Option.bind_some, if_neg (by simp),
    msame_eq _ _ _ _ _ _ _ _ _ _ _ _ _ _ _ _ _ _ (by omega) 5999 (by omega), Option.bind_some, sameS_comm b0, bne_self_eq_false]
  simp only [pelotonlaw15_MsgApart.j1]
  rw [if_neg (by simp), clone_eq _ _ _ _ _ _ _ _ _ (by omega), Option.bind_some]
  exact apart_loop a0 a1 a2 a3 a4 a5 a6 a7 l b0 b1 b2 b3 b4 b5 b6 b7 l' w0 v0 q q' (by omega) l.length 5998 0 (by omega) (by omega)

end Go.Proofs.Ytnkphgiodpledaa.Pure
