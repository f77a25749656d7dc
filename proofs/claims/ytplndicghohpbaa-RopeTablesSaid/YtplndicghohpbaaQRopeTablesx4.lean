-- Written by a program of this session (a turned copy of the print) out of the translation. Lean checks it.
import Derived.Test.YtplndicghohpbaaQRopeTablesx0
import Derived.Test.YtplndicghohpbaaQRopeTablesx1
import Derived.Test.YtplndicghohpbaaQRopeTablesx2
import Derived.Test.YtplndicghohpbaaQRopeTablesx3
namespace Go.Proofs.Ytplndicghohpbaa.QRopeTables
open Go.RowKit Go.Proofs.YtplndicghohpbaaW.PrintWords Go.Proofs.YtplndicghohpbaaW.PrintLast Go.Proofs.YtplndicghohpbaaW.PrintMore
attribute [local go_sem] max2_int min2_int max_two min_two max_three min_three max_four min_four   -- for this text's walks alone
open Go.Proofs.YtplndicghohpbaaW.PrintWords renaming below_alloc → b_a, pw_below_drewN → b_n, below_drew1 → b_d, below_set → b_s, blk_drewN → k_n, blk_drew → k_d, blk_alloc → k_a
open List renaming setIfInBounds_toArray → l_1, set_cons_zero → l_2, set_cons_succ → l_3, map_toArray → l_4, map_cons → l_5, map_nil → l_6, length_drop → l_7, length_take → l_8
set_option linter.unusedVariables false
set_option linter.unusedSimpArgs false

/-! ### pelotonlaw06_RopeTables: function 7, by hand -/
open Go.Maps in
def rope_Table.el (a b : Int) : DataW Unit := .agg [.lit (.int .i32 a), .lit (.int .i32 b)]
def rope_Table.R (v : Value) : Option (DataW Unit × List MemPlace) :=
  match v with
  | .agg cs => (match cs.toList with
    | [.int .i32 a, .int .i32 b] => some (rope_Table.el a b, [])
    | _ => none)
  | _ => none
theorem rope_Table.R_mk (a b : Int) : rope_Table.R (.agg #[.int .i32 a, .int .i32 b]) = some (rope_Table.el a b, []) := rfl
theorem rope_Table.R_inv {v : Value} {a b : Int} {ps : List MemPlace} (h : rope_Table.R v = some (rope_Table.el a b, ps)) : v = .agg #[.int .i32 a, .int .i32 b] := by
  unfold rope_Table.R at h
  split at h
  · split at h
    · rename_i cs a' b' hc
      simp only [Option.some.injEq, Prod.mk.injEq, rope_Table.el, DataW.agg.injEq, List.cons.injEq, DataW.lit.injEq, Lit.int.injEq] at h
      obtain ⟨⟨⟨_, rfl⟩, ⟨_, rfl⟩, _⟩, _⟩ := h
      congr 1
      exact Array.toList_inj.1 hc
    · cases h
  · cases h
def rope_Table.ky (p i : Int) : Lit := .string (keyBytes [.int .i64 p, .int .i64 i])
theorem rope_Table.keyty : Try.prog.keyType 34 = true := by kernel_rfl
theorem rope_Table.cells34 : Try.prog.cellsOf 34 = 2 := by kernel_rfl
theorem rope_Table.cells3 : Try.prog.cellsOf 3 = 1 := by kernel_rfl
theorem rope_Table.size : Try.prog.types.size + 1 = (Try.prog.types.size - 1) + 2 := by kernel_rfl
theorem rope_Table.u34 : Try.prog.underlying 34 = some (.array 2 3) := by kernel_rfl
theorem rope_Table.u37 : Try.prog.underlying 37 = some (.map 34 40) := by kernel_rfl
theorem rope_Table.u3 : Try.prog.underlying 3 = some (.int .i64) := by kernel_rfl
theorem rope_Table.lit (n : Nat) (x : Int) (hx : (Lit.int .i64 x).wf = true) : Try.prog.keyLits (n + 1) 3 [.int .i64 x] = some [.int .i64 x] := by
  simp [Program.keyLits, rope_Table.u3, hx]
theorem rope_Table.lit2 (n : Nat) (p i : Int) (hp : (Lit.int .i64 p).wf = true) (hi : (Lit.int .i64 i).wf = true) : Try.prog.keyLits (n + 2) 34 [.int .i64 p, .int .i64 i] = some [.int .i64 p, .int .i64 i] := by
  have e1 := rope_Table.lit n p hp
  have e2 := rope_Table.lit n i hi
  simp [Program.keyLits, rope_Table.u34, rope_Table.u3, rope_Table.cells34, rope_Table.cells3, List.range_succ, hp, hi]
theorem rope_Table.key (p i : Int) (hp : (Lit.int .i64 p).wf = true) (hi : (Lit.int .i64 i).wf = true) : keyOf Try.prog 34 (.agg #[.int .i64 p, .int .i64 i]) = some (rope_Table.ky p i) := by
  have hf : (Value.agg #[.int .i64 p, .int .i64 i]).formed Try.prog 34 = true := by simp [Value.formed, rope_Table.u34, rope_Table.cells34]
  have hl : Try.prog.keyLits (Try.prog.types.size + 1) 34 [.int .i64 p, .int .i64 i] = some [.int .i64 p, .int .i64 i] := by
    rw [rope_Table.size]
    exact rope_Table.lit2 _ p i hp hi
  unfold keyOf
  rw [rope_Table.u34]
  simp only [rope_Table.keyty, hf, Bool.and_self, if_true]
  show Option.map _ (Try.prog.keyLits (Try.prog.types.size + 1) 34 [.int .i64 p, .int .i64 i]) = _
  rw [hl]
  rfl
theorem rope_Table.laid : laidOutB Try.prog = true := by kernel_rfl
theorem rope_Table.row : (34 : TypeId) < Try.prog.types.size := of_decide_eq_true (by kernel_rfl)
theorem rope_Table.wide : (match Try.prog.underlying 34 with | some (.array _ _) | some (.struct _) => true | _ => false) = true := by rw [rope_Table.u34]
theorem rope_Table.law : Maps.Keyed Try.prog 34 := Maps.Keyed.of_law (deep_law_laid rope_Table.laid (m := 2) (by omega) rope_Table.row (by kernel_rfl) rope_Table.wide)
theorem rope_Table.zero (w : World) : (zeroValue 40).run Try.prog w = .ok (.agg #[.int .i32 0, .int .i32 0]) w := by kernel_rfl
theorem rope_Table.ky_ne {p i q j : Int} (hp : (Lit.int .i64 p).wf = true) (hi : (Lit.int .i64 i).wf = true) (hq : (Lit.int .i64 q).wf = true) (hj : (Lit.int .i64 j).wf = true) (h : ¬ (q = p ∧ j = i)) : rope_Table.ky q j ≠ rope_Table.ky p i := by
  intro he
  have h1 := rope_Table.key p i hp hi
  rw [← he] at h1
  have h2 := rope_Table.law.inj (rope_Table.key q j hq hj) h1
  injection h2 with h3
  have h4 : [Value.int IntKind.i64 q, .int .i64 j] = [.int .i64 p, .int .i64 i] := congrArg Array.toList h3
  simp only [List.cons.injEq, Value.int.injEq] at h4
  exact h ⟨h4.1.2, h4.2.1.2⟩
theorem rope_Table.wfs {x : Int} (h0 : 0 ≤ x) (h1 : x ≤ 1000) : (Lit.int .i64 x).wf = true := by
  exact WalkArith.wf_i64 (by omega)
/-- the table's state: all below (p, i) -/
def rope_Table.Tb (C S : Int → Int → Int) (D : DataW Unit) (n p i : Int) : Prop :=
  Maps.Tidy D ∧ (∀ q j : Int, 0 ≤ q → q ≤ 300 → 0 ≤ j → j ≤ 300 → Maps.has D (rope_Table.ky q j) = decide (j < n ∧ (q < p ∨ (q = p ∧ j < i)))) ∧
  (∀ q j : Int, 0 ≤ q → q ≤ 300 → 0 ≤ j → j < n → (q < p ∨ (q = p ∧ j < i)) → ∀ z, D.atKey (rope_Table.ky q j) z = rope_Table.el (C q j) (S q j)) ∧ (Maps.size D : Int) = p * n + i
theorem rope_Table.Tb.zero (C S : Int → Int → Int) (n : Int) : rope_Table.Tb C S (.map []) n 0 0 :=
  ⟨Maps.tidy_empty, fun q j h0 _ h1 _ => by
    rw [decide_eq_false (by omega)]; rfl, fun q j h0 _ h1 _ h => by omega, by simp [Maps.size]⟩
theorem rope_Table.Tb.turn {C S : Int → Int → Int} {D : DataW Unit} {n p : Int} (h : rope_Table.Tb C S D n p n) : rope_Table.Tb C S D n (p + 1) 0 :=
  ⟨h.1, fun q j h0 h1 h2 h3 => by
    rw [h.2.1 q j h0 h1 h2 h3]
    congr 1
    exact propext ⟨fun ⟨a, b⟩ => ⟨a, by omega⟩, fun ⟨a, b⟩ => ⟨a, by omega⟩⟩, fun q j h0 h1 h2 h3 h4 => h.2.2.1 q j h0 h1 h2 h3 (by omega), by rw [h.2.2.2, Int.add_mul, Int.one_mul, Int.add_zero]⟩
theorem rope_Table.Tb.put {C S : Int → Int → Int} {D : DataW Unit} {n p i : Int} (h : rope_Table.Tb C S D n p i) (hp0 : 0 ≤ p) (hp1 : p ≤ 300) (hi0 : 0 ≤ i) (hi1 : i < n) (hn : n ≤ 300) : rope_Table.Tb C S (D.put (rope_Table.ky p i) (rope_Table.el (C p i) (S p i))) n p (i + 1) := by
  have hk : WideAt.IsKeyLit (rope_Table.ky p i) := rope_Table.law.key (rope_Table.key p i (rope_Table.wfs hp0 (by omega)) (rope_Table.wfs hi0 (by omega)))
  refine ⟨h.1.put hk _, fun q j h0 h1 h2 h3 => ?_, fun q j h0 h1 h2 h3 h4 z => ?_, ?_⟩
  · by_cases he : q = p ∧ j = i
    · obtain ⟨rfl, rfl⟩ := he
      rw [Maps.has_put_same h.1.isMap hk, decide_eq_true (by omega)]
    · rw [Maps.has_put_other (rope_Table.ky_ne (rope_Table.wfs hp0 (by omega)) (rope_Table.wfs hi0 (by omega)) (rope_Table.wfs h0 (by omega)) (rope_Table.wfs h2 (by omega)) he), h.2.1 q j h0 h1 h2 h3]
      congr 1
      exact propext ⟨fun ⟨a, b⟩ => ⟨a, by omega⟩, fun ⟨a, b⟩ => ⟨a, by omega⟩⟩
  · by_cases he : q = p ∧ j = i
    · obtain ⟨rfl, rfl⟩ := he
      exact Maps.atKey_put_same h.1.isMap hk _ _
    · rw [Maps.atKey_put_other (rope_Table.ky_ne (rope_Table.wfs hp0 (by omega)) (rope_Table.wfs hi0 (by omega)) (rope_Table.wfs h0 (by omega)) (rope_Table.wfs h2 (by omega)) he)]
      exact h.2.2.1 q j h0 h1 h2 h3 (by omega) z
  · have hs := Maps.size_put (k := rope_Table.ky p i) h.1 (rope_Table.el (C p i) (S p i))
    rw [h.2.1 p i hp0 hp1 hi0 (by omega), decide_eq_false (by omega)] at hs
    rw [hs, ← Int.add_assoc, ← h.2.2.2]
    simp
def rope_Table.Inv (w W : World) (C S : Int → Int → Int) (a1 : Int) (n : Nat) (D : DataW Unit) (p i : Int) : Prop :=
  Below w.heap.size w W ∧ W.ownsMap Try.prog 34 rope_Table.R w.heap.size n D ∧ rope_Table.Tb C S D a1 p i ∧ (n : Int) ≤ 300 * p + i
theorem rope_Table.own_below {W W' : World} {b n : Nat} {D : DataW Unit} (h : W.ownsMap Try.prog 34 rope_Table.R b n D) (hb : Below W.heap.size W W') : W'.ownsMap Try.prog 34 rope_Table.R b n D := by
  obtain ⟨es, c, h1, h2⟩ := h
  exact ⟨es, c, blk_below h1 hb, h2⟩
theorem rope_Table.Inv.below {w W W' : World} {C S : Int → Int → Int} {a1 : Int} {n : Nat} {D : DataW Unit} {p i : Int} (h : rope_Table.Inv w W C S a1 n D p i) (hb : Below W.heap.size W W') : rope_Table.Inv w W' C S a1 n D p i :=
  ⟨below_step h.1 hb, rope_Table.own_below h.2.1 hb, h.2.2⟩
theorem rope_Table.Inv.put {w W W' : World} {C S : Int → Int → Int} {a1 : Int} {n : Nat} {D : DataW Unit} {p i : Int} (h : rope_Table.Inv w W C S a1 n D p i) (ho : W'.ownsMap Try.prog 34 rope_Table.R w.heap.size (n + 1) (D.put (rope_Table.ky p i) (rope_Table.el (C p i) (S p i)))) (hg : W.grownBy W' (some w.heap.size)) (hp0 : 0 ≤ p) (hp1 : p ≤ 300) (hi0 : 0 ≤ i) (hi1 : i < a1) (hn : a1 ≤ 300) : rope_Table.Inv w W' C S a1 (n + 1) (D.put (rope_Table.ky p i) (rope_Table.el (C p i) (S p i))) p (i + 1) :=
  ⟨h.1.grown hg h.1.size (fun j hj => by cases hj; exact Nat.le_refl _), ho, h.2.2.1.put hp0 hp1 hi0 hi1 hn, by have := h.2.2.2; omega⟩
theorem rope_Table.Inv.turn {w W : World} {C S : Int → Int → Int} {a1 : Int} {n : Nat} {D : DataW Unit} {p : Int} (h : rope_Table.Inv w W C S a1 n D p a1) (hn : a1 ≤ 300) : rope_Table.Inv w W C S a1 n D (p + 1) 0 :=
  ⟨h.1, h.2.1, h.2.2.1.turn, by have := h.2.2.2; omega⟩
set_option maxHeartbeats 8000000 in
set_option maxRecDepth 100000 in
theorem rope_Table.bad (a0 a1 : Int) (w : World) (h : a0 < 0 ∨ a0 > 256 ∨ a1 < 0 ∨ a1 > 256) :
    Calls Try.prog 18 #[.int .i64 a0, .int .i64 a1] w fun e w' => e = .returned (.tuple #[.map none, .int .i64 2]) ∧ w' = w := by
  by_cases h1 : a0 < 0
  · have p1 : decide (a0 < 0) = true := decide_eq_true h1
    clear h
    go_enter Try.func18, Try.ntmps18
    go_wp2
    go_ret2
    exact ⟨rfl, rfl⟩
  · have p1 : decide (a0 < 0) = false := decide_eq_false h1
    by_cases h2 : a0 > 256
    · have p2 : decide (a0 > 256) = true := decide_eq_true h2
      clear h
      go_enter Try.func18, Try.ntmps18
      go_wp2
      go_ret2
      exact ⟨rfl, rfl⟩
    · have p2 : decide (a0 > 256) = false := decide_eq_false h2
      by_cases h3 : a1 < 0
      · have p3 : decide (a1 < 0) = true := decide_eq_true h3
        clear h
        go_enter Try.func18, Try.ntmps18
        go_wp2
        go_ret2
        exact ⟨rfl, rfl⟩
      · have p3 : decide (a1 < 0) = false := decide_eq_false h3
        have p4 : decide (a1 > 256) = true := decide_eq_true (by omega)
        clear h
        go_enter Try.func18, Try.ntmps18
        go_wp2
        go_ret2
        exact ⟨rfl, rfl⟩
set_option maxHeartbeats 8000000 in
set_option maxRecDepth 100000 in
theorem rope_Table.good (k : Nat) (a0 a1 : Int) (A C S : Int → Int → Int) (w : World) (h0 : 0 ≤ a0 ∧ a0 ≤ 256 ∧ 0 ≤ a1 ∧ a1 ≤ 256) (hh : ∀ q j : Int, 0 ≤ q → q < a0 → 0 ≤ j → j < a1 → rope_Angle.f q j = some (A q j) ∧ rope_Cos.f k (A q j) = some (C q j) ∧ rope_Sin.f k (A q j) = some (S q j)) :
    Calls Try.prog 18 #[.int .i64 a0, .int .i64 a1] w fun e w' => ∃ (n : Nat) (D : DataW Unit), e = .returned (.tuple #[.map (some w.heap.size), .int .i64 0]) ∧ rope_Table.Inv w w' C S a1 n D a0 0 := by
  have p1 : decide (a0 < 0) = false := decide_eq_false (by omega)
  have p2 : decide (a0 > 256) = false := decide_eq_false (by omega)
  have p3 : decide (a1 < 0) = false := decide_eq_false (by omega)
  have p4 : decide (a1 > 256) = false := decide_eq_false (by omega)
  have H0 := Aside0.mk h0
  have HH := Aside0.mk hh
  clear h0 hh
  have hmm := @run_makeMap Try.prog
  go_enter Try.func18, Try.ntmps18
  go_wp2
  clear p1 p2 p3 p4
  go_loopg [26] a0.toNat (fun m v26 W => ∃ (p : Int) (n : Nat) (D : DataW Unit), v26 = .int .i64 p ∧ 0 ≤ p ∧ Aside0 (p + m = a0) ∧ Aside0 (rope_Table.Inv w W C S a1 n D p 0))
  case atStart => exact ⟨0, 0, _, rfl, by omega, ⟨by have := H0.out; omega⟩, ⟨(Below.refl _ _).alloc (Nat.le_refl _) _, World.ownsMap_made _ _ _ _, rope_Table.Tb.zero C S a1, by omega⟩⟩
  case round =>
    obtain ⟨p, n, D, rfl, hp0, HP, IV⟩ := hrel
    cases gk with
    | zero =>
      have q1 : decide (p < a0) = false := decide_eq_false (by have := HP.out; omega)
      go_wp2
      go_ret2
      obtain rfl : p = a0 := by have := HP.out; omega
      exact ⟨n, D, rfl, IV.out⟩
    | succ m =>
      have q1 : decide (p < a0) = true := decide_eq_true (by have := HP.out; omega)
      go_wp2
      go_loopg [30] a1.toNat (fun m v30 W => ∃ (i : Int) (n : Nat) (D : DataW Unit), v30 = .int .i64 i ∧ 0 ≤ i ∧ Aside0 (i + m = a1) ∧ Aside0 (rope_Table.Inv w W C S a1 n D p i))
      case atStart => exact ⟨0, n, D, rfl, by omega, ⟨by have := H0.out; omega⟩, IV⟩
      case round =>
        clear IV
        obtain ⟨i, n, D, rfl, hi0, HI, IV⟩ := hrel
        cases gk with
        | zero =>
          have q2 : decide (i < a1) = false := decide_eq_false (by have := HI.out; omega)
          have hw : IntKind.i64.wrap (p + 1) = p + 1 := by rw [i64_w]; have := HP.out; have := H0.out; unfold wrap64; omega
          go_wp2
          go_roundg m
          case measure => omega
          case rel =>
            have e : i = a1 := by have := HI.out; omega
            have h := IV.out
            rw [e] at h
            exact ⟨p + 1, n, D, by first | rfl | rw [hw], by omega, ⟨by have := HP.out; omega⟩, ⟨h.turn (by have := H0.out; omega)⟩⟩
        | succ m2 =>
          have q2 : decide (i < a1) = true := decide_eq_true (by have := HI.out; omega)
          have hw : IntKind.i64.wrap (i + 1) = i + 1 := by rw [i64_w]; have := HI.out; have := H0.out; unfold wrap64; omega
          have hq := HH.out p i hp0 (by have := HP.out; omega) hi0 (by have := HI.out; omega)
          have E1 := Aside0.mk hq.1
          have E2 := Aside0.mk hq.2.1
          have E3 := Aside0.mk hq.2.2
          clear hq
          go_wp2_with (first
            | (go_at_call 13; (refine (rope_Angle.calls _ _ _ _ E1.out).mono ?_); rintro e wA ⟨rfl, hb⟩; replace IV := Aside0.mk (IV.out.below hb); clear hb E1)
            | (go_at_call 11; (refine (rope_Cos.calls k _ _ _ E2.out).mono ?_); rintro e wC ⟨rfl, hb⟩; replace IV := Aside0.mk (IV.out.below hb); clear hb E2)
            | (go_at_call 9; (refine (rope_Sin.calls k _ _ _ E3.out).mono ?_); rintro e wS ⟨rfl, hb⟩; replace IV := Aside0.mk (IV.out.below hb); clear hb E3)
            | (at_mapUpdate; refine wpList_mapUpdate_own _ rfl _ _ _ 37 rfl 34 40 rope_Table.law rope_Table.u37 _ w.heap.size n D rfl IV.out.2.1 (by have := IV.out.2.2.2; have := HP.out; have := HI.out; have := H0.out; unfold maxLen; omega) _ _ _ rfl rfl (rope_Table.key p i (rope_Table.wfs hp0 (by have := HP.out; have := H0.out; omega)) (rope_Table.wfs hi0 (by have := HI.out; have := H0.out; omega))) _ [] (rope_Table.R_mk _ _) ?_; intro w1 hown1 hgrow1; replace IV := Aside0.mk (IV.out.put hown1 hgrow1 hp0 (by have := HP.out; have := H0.out; omega) hi0 (by have := HI.out; omega) (by have := H0.out; omega)); clear hown1 hgrow1))
          go_roundg m2
          case measure => omega
          case rel => exact ⟨i + 1, n + 1, _, by first | rfl | rw [hw], by omega, ⟨by have := HI.out; omega⟩, IV⟩
/-! the law -/
theorem rope_Table.look {ops : Array Oper} {rest : List Oper} {o : Oper} {a : Act} {Q : Exit → Act → World → Prop} {W : World} (hg : o.guard = none) (m x : Operand) (hop : o.op = Op.lookup 37 m x true) (b n : Nat) (D : DataW Unit) (p i c s : Int) (hm : a.eval m = .map (some b)) (hown : W.ownsMap Try.prog 34 rope_Table.R b n D) (hx : a.eval x = .agg #[.int .i64 p, .int .i64 i]) (hp : (Lit.int .i64 p).wf = true) (hi : (Lit.int .i64 i).wf = true) (hhas : Maps.has D (rope_Table.ky p i) = true) (hat : ∀ z, D.atKey (rope_Table.ky p i) z = rope_Table.el c s)
    (hK : wpList Try.prog ops Q rest (a.put o.dst (.tuple #[.agg #[.int .i32 c, .int .i32 s], .bool true])) W) : wpList Try.prog ops Q (o :: rest) a W :=
  wpList_lookup_own_ok W hg m x 37 hop 34 40 rope_Table.law rope_Table.u37 rope_Table.R (rope_Table.zero W) (rope_Table.el 0 0) [] (rope_Table.R_mk 0 0) b n D hm hown _ _ hx (rope_Table.key p i hp hi) (fun v ps hv => by rw [hat] at hv; rw [rope_Table.R_inv hv, hhas]; exact hK)
theorem rope_Table.cell2 {w : World} {g t : Nat} {u v : Value} (h : w.heap[g]? = some (.cells #[u, v] t (0, 0))) : w.cell? ⟨g, 0, none⟩ = some u ∧ w.cell? ⟨g, 1, none⟩ = some v ∧ w.frozen? ⟨g, 0, none⟩ = false ∧ w.frozen? ⟨g, 1, none⟩ = false :=
  ⟨(blk_cell h 0).trans rfl, (blk_cell h 1).trans rfl, blk_frozen h 0, blk_frozen h 1⟩
theorem rope_Table.put2 {w : World} {g t : Nat} {a b u v : Value} (h : w.heap[g]? = some (.cells #[a, b] t (0, 0))) : ((w.setCell ⟨g, 0, none⟩ u).setCell ⟨g, 1, none⟩ v).heap[g]? = some (.cells #[u, v] t (0, 0)) :=
  blk_put (cs := #[u, b]) (blk_put h 0 u rfl) 1 v rfl
theorem rope_Table.below2 {w W : World} {g : Nat} {u v : Value} (h : Below w.heap.size w W) (hg : w.heap.size ≤ g) : Below w.heap.size w ((W.setCell ⟨g, 0, none⟩ u).setCell ⟨g, 1, none⟩ v) := below_set (below_set h hg) hg
def pelotonlaw06_RopeTables.T16 : Bool × List (List Nat × List Nat) := (true, [([], []), ([0], [0]), ([1], [1]), ([2], [2]), ([3, 2], [2, 3]), ([2], [2]), ([5, 2, 2], [2, 5]), ([4, 6, 2], [2, 4, 6]), ([2, 7], [2, 7]), ([8, 6], [8]), ([9], [9]), ([10, 9], [9, 10]), ([9], [9]), ([12, 9, 9], [9, 12]), ([11, 13, 9], [9, 11, 13]), ([9, 14], [9, 14])])
def pelotonlaw06_RopeTables.B16 : List Nat := [0, 1, 3, 7, 15, 7, 39, 127, 255, 511, 1023, 2047, 1023, 5119, 16383, 32767]
theorem pelotonlaw06_RopeTables.tab16 : rtab .any (opsOf Try.f7 16) = pelotonlaw06_RopeTables.T16 := by kernel_rfl
theorem pelotonlaw06_RopeTables.bits16 : waitsOk pelotonlaw06_RopeTables.T16.2 pelotonlaw06_RopeTables.B16 = true := by kernel_rfl
def pelotonlaw06_RopeTables.chk (k : Nat) (q j : Int) : Option Bool := (rope_Angle.f q j).bind fun a => (rope_Cos.f k a).bind fun c => (rope_Sin.f k a).bind fun s => (pelotonref06_Angle.f k q j).bind fun b => (pelotonref06_Cos.f k b).bind fun c' => (pelotonref06_Sin.f k b).bind fun s' => if c = c' ∧ s = s' then some true else none
def pelotonlaw06_RopeTables.f (k : Nat) (a0 a1 : Int) : Option Bool := (pelotonlaw06_awake.f k).bind fun t => if t = true then (if a0 < 0 ∨ a1 < 0 ∨ a0 > 256 ∨ a1 > 256 then some true else if ∀ q : Nat, q < a0.toNat → ∀ j : Nat, j < a1.toNat → pelotonlaw06_RopeTables.chk k q j = some true then some true else none) else some false
theorem pelotonlaw06_RopeTables.six {k : Nat} {q j : Int} (h : pelotonlaw06_RopeTables.chk k q j = some true) : ∃ a c s b, rope_Angle.f q j = some a ∧ rope_Cos.f k a = some c ∧ rope_Sin.f k a = some s ∧ pelotonref06_Angle.f k q j = some b ∧ pelotonref06_Cos.f k b = some c ∧ pelotonref06_Sin.f k b = some s := by
  unfold pelotonlaw06_RopeTables.chk at h
  obtain ⟨a, h1, h⟩ := Option.bind_eq_some_iff.1 h
  obtain ⟨c, h2, h⟩ := Option.bind_eq_some_iff.1 h
  obtain ⟨s, h3, h⟩ := Option.bind_eq_some_iff.1 h
  obtain ⟨b, h4, h⟩ := Option.bind_eq_some_iff.1 h
  obtain ⟨c', h5, h⟩ := Option.bind_eq_some_iff.1 h
  obtain ⟨s', h6, h⟩ := Option.bind_eq_some_iff.1 h
  by_cases hc : c = c' ∧ s = s'
  · obtain ⟨rfl, rfl⟩ := hc
    exact ⟨a, c, s, b, h1, h2, h3, h4, h5, h6⟩
  · rw [if_neg hc] at h; cases h
theorem pelotonlaw06_RopeTables.all {k : Nat} {a0 a1 : Int} (h : ∀ q : Nat, q < a0.toNat → ∀ j : Nat, j < a1.toNat → pelotonlaw06_RopeTables.chk k q j = some true) : ∃ A C S B : Int → Int → Int, ∀ q j : Int, 0 ≤ q → q < a0 → 0 ≤ j → j < a1 → rope_Angle.f q j = some (A q j) ∧ rope_Cos.f k (A q j) = some (C q j) ∧ rope_Sin.f k (A q j) = some (S q j) ∧ pelotonref06_Angle.f k q j = some (B q j) ∧ pelotonref06_Cos.f k (B q j) = some (C q j) ∧ pelotonref06_Sin.f k (B q j) = some (S q j) := by
  refine ⟨fun q j => (rope_Angle.f q j).getD 0, fun q j => (rope_Cos.f k ((rope_Angle.f q j).getD 0)).getD 0, fun q j => (rope_Sin.f k ((rope_Angle.f q j).getD 0)).getD 0, fun q j => (pelotonref06_Angle.f k q j).getD 0, fun q j h0 h1 h2 h3 => ?_⟩
  have hc := h q.toNat (by omega) j.toNat (by omega)
  rw [Int.toNat_of_nonneg h0, Int.toNat_of_nonneg h2] at hc
  obtain ⟨a, c, s, b, e1, e2, e3, e4, e5, e6⟩ := pelotonlaw06_RopeTables.six hc
  simp only [e1, Option.getD_some, e2, e3, e4, e5, e6, and_self]
def rope_Table.Law (w W : World) (g : Nat) (C S : Int → Int → Int) (a1 : Int) (n : Nat) (D : DataW Unit) (a0 : Int) : Prop :=
  Below w.heap.size w W ∧ W.ownsMap Try.prog 34 rope_Table.R g n D ∧ rope_Table.Tb C S D a1 a0 0
theorem rope_Table.Law.below {w W W' : World} {g : Nat} {C S : Int → Int → Int} {a1 : Int} {n : Nat} {D : DataW Unit} {a0 : Int} (h : rope_Table.Law w W g C S a1 n D a0) (hb : Below W.heap.size W W') : rope_Table.Law w W' g C S a1 n D a0 :=
  ⟨below_step h.1 hb, rope_Table.own_below h.2.1 hb, h.2.2⟩
set_option maxHeartbeats 8000000 in
set_option maxRecDepth 100000 in
theorem pelotonlaw06_RopeTables.calls (k : Nat) (a0 a1 : Int) (r : Bool) (w : World) (h : pelotonlaw06_RopeTables.f k a0 a1 = some r) :
    Calls Try.prog 7 #[.int .i64 a0, .int .i64 a1] w fun e w' => e = .returned (.bool r) ∧ Below w.heap.size w w' := by
  unfold pelotonlaw06_RopeTables.f at h
  obtain ⟨t, h1, h2⟩ := Option.bind_eq_some_iff.1 h
  have EA := Aside0.mk h1
  have HH := Aside0.mk h2
  clear h h1 h2
  have hln : ∀ w, (Builtin.len_ #[37] 3 #[.map none]).run Try.prog w = .ok (.int .i64 0) w := fun w => Maps.len_nil rope_Table.u37 3
  cases t with
  | false =>
    have h := HH.out
    clear HH
    obtain rfl : false = r := by simpa using h
    go_enter Try.func7, Try.ntmps7
    go_wp2_with (first | (go_at_call 8; (refine (pelotonlaw06_awake.calls k _ _ EA.out).mono ?_); rintro e wa ⟨rfl, hb⟩; have HB := Aside0.mk hb; clear hb EA))
    go_ret
    exact ⟨rfl, HB.out⟩
  | true =>
    have h := HH.out
    clear HH
    rw [if_pos rfl] at h
    by_cases hr : a0 < 0 ∨ a1 < 0 ∨ a0 > 256 ∨ a1 > 256
    · rw [if_pos hr] at h
      obtain rfl : true = r := Option.some.inj h
      clear h
      have HR := Aside0.mk hr
      clear hr
      by_cases h1 : a0 < 0
      · have p1 : decide (a0 < 0) = true := decide_eq_true h1
        clear h1
        go_enter Try.func7, Try.ntmps7
        go_wp2_with (first | (go_at_call 8; (refine (pelotonlaw06_awake.calls k _ _ EA.out).mono ?_); rintro e wa ⟨rfl, hb⟩; have HB := Aside0.mk hb; clear hb EA) | (go_at_call 18; (refine (rope_Table.bad a0 a1 _ (by have := HR.out; omega)).mono ?_); rintro e wt ⟨rfl, rfl⟩))
        go_ret
        exact ⟨rfl, HB.out⟩
      · have p1 : decide (a0 < 0) = false := decide_eq_false h1
        by_cases h2 : a1 < 0
        · have p2 : decide (a1 < 0) = true := decide_eq_true h2
          clear h1 h2
          go_enter Try.func7, Try.ntmps7
          go_wp2_with (first | (go_at_call 8; (refine (pelotonlaw06_awake.calls k _ _ EA.out).mono ?_); rintro e wa ⟨rfl, hb⟩; have HB := Aside0.mk hb; clear hb EA) | (go_at_call 18; (refine (rope_Table.bad a0 a1 _ (by have := HR.out; omega)).mono ?_); rintro e wt ⟨rfl, rfl⟩))
          go_ret
          exact ⟨rfl, HB.out⟩
        · have p2 : decide (a1 < 0) = false := decide_eq_false h2
          by_cases h3 : a0 > 256
          · have p3 : decide (a0 > 256) = true := decide_eq_true h3
            clear h1 h2 h3
            go_enter Try.func7, Try.ntmps7
            go_wp2_with (first | (go_at_call 8; (refine (pelotonlaw06_awake.calls k _ _ EA.out).mono ?_); rintro e wa ⟨rfl, hb⟩; have HB := Aside0.mk hb; clear hb EA) | (go_at_call 18; (refine (rope_Table.bad a0 a1 _ (by have := HR.out; omega)).mono ?_); rintro e wt ⟨rfl, rfl⟩))
            go_ret
            exact ⟨rfl, HB.out⟩
          · have p3 : decide (a0 > 256) = false := decide_eq_false h3
            have p4 : decide (a1 > 256) = true := decide_eq_true (by have := HR.out; omega)
            clear h1 h2 h3
            go_enter Try.func7, Try.ntmps7
            go_wp2_with (first | (go_at_call 8; (refine (pelotonlaw06_awake.calls k _ _ EA.out).mono ?_); rintro e wa ⟨rfl, hb⟩; have HB := Aside0.mk hb; clear hb EA) | (go_at_call 18; (refine (rope_Table.bad a0 a1 _ (by have := HR.out; omega)).mono ?_); rintro e wt ⟨rfl, rfl⟩))
            go_ret
            exact ⟨rfl, HB.out⟩
    · rw [if_neg hr] at h
      by_cases ha : ∀ q : Nat, q < a0.toNat → ∀ j : Nat, j < a1.toNat → pelotonlaw06_RopeTables.chk k q j = some true
      · rw [if_pos ha] at h
        obtain rfl : true = r := Option.some.inj h
        clear h
        obtain ⟨A, C, S, B, hall⟩ := pelotonlaw06_RopeTables.all ha
        clear ha
        have HA := Aside0.mk hall
        have H0 := Aside0.mk (show 0 ≤ a0 ∧ a0 ≤ 256 ∧ 0 ≤ a1 ∧ a1 ≤ 256 from by omega)
        clear hall hr
        have p1 : decide (a0 < 0) = false := decide_eq_false (by have := H0.out; omega)
        have p2 : decide (a1 < 0) = false := decide_eq_false (by have := H0.out; omega)
        have p3 : decide (a0 > 256) = false := decide_eq_false (by have := H0.out; omega)
        have p4 : decide (a1 > 256) = false := decide_eq_false (by have := H0.out; omega)
        go_enter Try.func7, Try.ntmps7
        go_upto_region 4 with (first | (go_at_call 8; (refine (pelotonlaw06_awake.calls k _ _ EA.out).mono ?_); rintro e wa ⟨rfl, hb⟩; have HB := Aside0.mk hb; clear hb EA) | (go_at_call 18; (refine (rope_Table.good k a0 a1 A C S _ H0.out (fun q j x1 x2 x3 x4 => ⟨(HA.out q j x1 x2 x3 x4).1, (HA.out q j x1 x2 x3 x4).2.1, (HA.out q j x1 x2 x3 x4).2.2.1⟩)).mono ?_); rintro e wt ⟨n, D, rfl, hI⟩; have HI0 := Aside0.mk hI; clear hI))
        have IV := Aside0.mk (show rope_Table.Law w wt wa.heap.size C S a1 n D a0 from ⟨below_step HB.out HI0.out.1, HI0.out.2.1, HI0.out.2.2.1⟩)
        clear HI0 HB
        generalize wa.heap.size = gm at *
        have hlen := IV.out.2.1.len rope_Table.u37 3
        have hsz : (Maps.size D : Int) = a0 * a1 := by have := IV.out.2.2.2.2.2; omega
        rw [hsz] at hlen
        clear hsz
        have hw : IntKind.i64.wrap (a0 * a1) = a0 * a1 := by
          have h := H0.out
          have e1 : a0 * a1 ≤ 256 * 256 := Int.mul_le_mul h.2.1 h.2.2.2 h.2.2.1 (by omega)
          have e2 := Int.mul_nonneg h.1 h.2.2.1
          rw [i64_w]; unfold wrap64; omega
        go_upto_region 8 with (fail)
        clear hlen hw p1 p2 p3 p4 hln
        go_wp2
        go_loopg [7] a0.toNat (fun m v7 W => ∃ (p : Int), v7 = .int .i64 p ∧ 0 ≤ p ∧ Aside0 (p + m = a0) ∧ Aside0 (rope_Table.Law w W gm C S a1 n D a0))
        case atStart => exact ⟨0, rfl, by omega, ⟨by have := H0.out; omega⟩, IV⟩
        case round =>
          clear IV
          obtain ⟨p, rfl, hp0, HP, IV⟩ := hrel
          cases gk with
          | zero =>
            have q1 : decide (p < a0) = false := decide_eq_false (by have := HP.out; omega)
            go_wp2
            go_ret
            exact ⟨rfl, IV.out.1⟩
          | succ m =>
            have q1 : decide (p < a0) = true := decide_eq_true (by have := HP.out; omega)
            go_wp2
            go_loopg [8] a1.toNat (fun m v8 W => ∃ (i : Int), v8 = .int .i64 i ∧ 0 ≤ i ∧ Aside0 (i + m = a1) ∧ Aside0 (rope_Table.Law w W gm C S a1 n D a0))
            case atStart => exact ⟨0, rfl, by omega, ⟨by have := H0.out; omega⟩, IV⟩
            case round =>
              clear IV
              obtain ⟨i, rfl, hi0, HI, IV⟩ := hrel
              cases gk with
              | zero =>
                have q2 : decide (i < a1) = false := decide_eq_false (by have := HI.out; omega)
                have hw : IntKind.i64.wrap (p + 1) = p + 1 := by rw [i64_w]; have := HP.out; have := H0.out; unfold wrap64; omega
                go_wp2
                go_roundg m
                case measure => omega
                case rel => exact ⟨p + 1, by first | rfl | rw [hw], by omega, ⟨by have := HP.out; omega⟩, IV⟩
              | succ m2 =>
                have q2 : decide (i < a1) = true := decide_eq_true (by have := HI.out; omega)
                have hw : IntKind.i64.wrap (i + 1) = i + 1 := by rw [i64_w]; have := HI.out; have := H0.out; unfold wrap64; omega
                have hq := HA.out p i hp0 (by have := HP.out; omega) hi0 (by have := HI.out; omega)
                have E4 := Aside0.mk hq.2.2.2.1
                have E5 := Aside0.mk hq.2.2.2.2.1
                have E6 := Aside0.mk hq.2.2.2.2.2
                clear hq
                have HK := Aside0.mk (show p < a0 ∧ i < a1 ∧ p ≤ 256 ∧ i ≤ 256 from by have := HP.out; have := HI.out; have := H0.out; omega)
                go_upto_region 15 with (first
                  | (at_lookup; refine rope_Table.look rfl _ _ rfl gm n D p i (C p i) (S p i) rfl IV.out.2.1 rfl (rope_Table.wfs hp0 (by have := HK.out; omega)) (rope_Table.wfs hi0 (by have := HK.out; omega)) (by have h := HK.out; rw [IV.out.2.2.2.1 p i hp0 (by omega) hi0 (by omega), decide_eq_true (by omega)]) (by have h := HK.out; exact IV.out.2.2.2.2.1 p i hp0 (by omega) hi0 h.2.1 (Or.inl h.1)) ?_)
                  | ((with_reducible refine gate_dst (N := 9) rfl ?_); refine box_event ?hg (N := 9) ?hd (cs := #[.int .i32 0, .int .i32 0]) (t := 40) ?hr ?_; (case hd => rfl); (case hg => rfl); (case hr => first | (go_simp; done) | (go_simp; rfl)); intro g hg_ wb hbox hbb; have BX := Aside0.mk (rope_Table.below2 (u := .int .i32 (C p i)) (v := .int .i32 (S p i)) hbb (Nat.le_of_eq hg_.symm)); have KG := Aside0.mk (rope_Table.put2 (u := .int .i32 (C p i)) (v := .int .i32 (S p i)) hbox); obtain ⟨b1, b2, b3, b4⟩ := rope_Table.cell2 hbox; clear hg_ hbox hbb))
                replace IV := Aside0.mk (IV.out.below BX.out)
                generalize hW_ : ((wb.setCell ⟨g, 0, none⟩ (.int .i32 (C p i))).setCell ⟨g, 1, none⟩ (.int .i32 (S p i))) = W1 at *
                clear hW_ BX b1 b2 b3 b4
                go_upto_region 16 with (first
                  | (go_at_call 14; (refine (pelotonref06_Angle.calls k _ _ _ _ E4.out).mono ?_); rintro e wA ⟨rfl, hd⟩; replace IV := Aside0.mk (IV.out.below hd.below); replace KG := Aside0.mk (blk_below KG.out hd.below); clear hd E4))
                refine start_ (n := 16) (S := fun W_ => W_.cell? ⟨g, 0, none⟩ = some (.int .i32 (C p i)) ∧ W_.cell? ⟨g, 1, none⟩ = some (.int .i32 (S p i))) (ds := []) #[false, false, false, false, false, false, false, false, false, false, false, false, false, false, false, false] (by kernel_rfl) rfl rfl ⟨(rope_Table.cell2 (k_d KG.out)).1, (rope_Table.cell2 (k_d KG.out)).2.1⟩ (fun hHeld => ?_); refine with_tabW pelotonlaw06_RopeTables.tab16 pelotonlaw06_RopeTables.bits16 (fun HT_ HW_ => ?_)
                replace IV := Aside0.mk (IV.out.below (b_d (Below.refl _ _)))
                replace KG := Aside0.mk (k_d KG.out)
                generalize hWd : wA.drew = W0 at *
                clear hWd
                refine pure_ (i := 0) (N := some 72) (v := ?_) (a' := ?_) #[true, false, false, false, false, false, false, false, false, false, false, false, false, false, false, false] rfl rfl (any_of HT_.out (by kernel_rfl)) (fun _ _ _ h => h) (Or.inl ⟨by rfl, ?_⟩) ?_ ?_
                rotate_left
                ·
                  intro w'
                  go_simp
                  with_reducible rfl
                rotate_left
                ·
                  simp only [Act.put, l_1, l_2, l_3, i64_w, i32_w]
                  rfl
                refine pure_ (i := 1) (N := some 73) (v := ?_) (a' := ?_) #[true, true, false, false, false, false, false, false, false, false, false, false, false, false, false, false] rfl rfl (any_of HT_.out (by kernel_rfl)) (fun _ _ _ h => h) (Or.inl ⟨by rfl, ?_⟩) ?_ ?_
                rotate_left
                ·
                  intro w'
                  go_simp
                  with_reducible rfl
                rotate_left
                ·
                  simp only [Act.put, l_1, l_2, l_3, i64_w, i32_w]
                  rfl
                refine pure_ (i := 2) (N := some 74) (v := ?_) (a' := ?_) #[true, true, true, false, false, false, false, false, false, false, false, false, false, false, false, false] rfl rfl (any_of HT_.out (by kernel_rfl)) (fun _ _ _ h => h) (Or.inl ⟨by rfl, ?_⟩) ?_ ?_
                rotate_left
                ·
                  intro w'
                  go_simp
                  with_reducible rfl
                rotate_left
                ·
                  simp only [Act.put, l_1, l_2, l_3, i64_w, i32_w]
                  rfl
                refine pure_ (i := 3) (N := some 75) (v := ?_) (a' := ?_) #[true, true, true, true, false, false, false, false, false, false, false, false, false, false, false, false] rfl rfl (any_of HT_.out (by kernel_rfl)) (fun _ _ _ h => h) (Or.inl ⟨by rfl, ?_⟩) ?_ ?_
                rotate_left
                ·
                  intro w'
                  go_simp
                  with_reducible rfl
                rotate_left
                ·
                  simp only [Act.put, l_1, l_2, l_3, i64_w, i32_w]
                  rfl
                refine take_ (i := 4) (N := some 76) (v := ?_) (a' := ?_) #[true, true, true, true, true, false, false, false, false, false, false, false, false, false, false, false] rfl rfl (take_ofW HT_.out HW_.out (by kernel_rfl)) (fun _ _ _ h => h) (Or.inl ⟨by rfl, ?_⟩) hHeld ?_ ?_
                rotate_left
                ·
                  rintro w' ⟨s0, s1⟩
                  go_simp
                  with_reducible rfl
                rotate_left
                ·
                  simp only [Act.put, l_1, l_2, l_3, i64_w, i32_w]
                  rfl
                refine pure_ (i := 5) (N := some 77) (v := ?_) (a' := ?_) #[true, true, true, true, true, true, false, false, false, false, false, false, false, false, false, false] rfl rfl (any_of HT_.out (by kernel_rfl)) (fun _ _ _ h => h) (Or.inl ⟨by rfl, ?_⟩) ?_ ?_
                rotate_left
                ·
                  intro w'
                  go_simp
                  with_reducible rfl
                rotate_left
                ·
                  simp only [Act.put, l_1, l_2, l_3, i64_w, i32_w]
                  rfl
                refine one_ (i := 6) (N := some 78) #[true, true, true, true, true, true, true, false, false, false, false, false, false, false, false, false] rfl rfl (one_of HT_.out (by kernel_rfl)) (by decide) (fun K hK => ?_)
                refine goes_ Try.func12 (by kernel_rfl) rfl #[.int .i64 (B p i)] (by rfl) rfl rfl (by (try simp only [l_4, l_5, l_6]); first | done | rfl | (simp only [l_7, l_8]; rfl)) ?_
                refine (pelotonref06_Cos.calls k (B p i) _ _ E5.out).mono ?_
                rintro e wC ⟨rfl, hb⟩
                refine ⟨_, rfl, ?_⟩
                replace IV := Aside0.mk (IV.out.below hb)
                replace KG := Aside0.mk (blk_below KG.out hb)
                clear hb
                refine hK.out _ _ ⟨(rope_Table.cell2 KG.out).1, (rope_Table.cell2 KG.out).2.1⟩ (fun hHeld => ?_)
                clear hK K
                refine norm_ (a' := ?_) ?_ ?_
                rotate_left
                ·
                  show Act.put _ (some 78) _ = _
                  simp only [Act.put, l_1, l_2, l_3, i64_w, i32_w]
                  rfl
                refine pure_ (i := 7) (N := some 79) (v := ?_) (a' := ?_) #[true, true, true, true, true, true, true, true, false, false, false, false, false, false, false, false] rfl rfl (any_of HT_.out (by kernel_rfl)) (fun _ _ _ h => h) (Or.inl ⟨by rfl, ?_⟩) ?_ ?_
                rotate_left
                ·
                  intro w'
                  go_simp
                  with_reducible rfl
                rotate_left
                ·
                  simp only [Act.put, l_1, l_2, l_3, i64_w, i32_w]
                  rfl
                refine pure_ (i := 8) (N := some 80) (v := ?_) (a' := ?_) #[true, true, true, true, true, true, true, true, true, false, false, false, false, false, false, false] rfl rfl (any_of HT_.out (by kernel_rfl)) (fun _ _ _ h => h) (Or.inl ⟨by rfl, ?_⟩) ?_ ?_
                rotate_left
                ·
                  intro w'
                  go_simp
                  with_reducible rfl
                rotate_left
                ·
                  simp only [Act.put, l_1, l_2, l_3, i64_w, i32_w]
                  rfl
                refine pure_ (i := 9) (N := some 81) (v := ?_) (a' := ?_) #[true, true, true, true, true, true, true, true, true, true, false, false, false, false, false, false] rfl rfl (any_of HT_.out (by kernel_rfl)) (fun _ _ _ h => h) (Or.inl ⟨by rfl, ?_⟩) ?_ ?_
                rotate_left
                ·
                  intro w'
                  go_simp
                  with_reducible rfl
                rotate_left
                ·
                  simp only [Act.put, l_1, l_2, l_3, i64_w, i32_w]
                  rfl
                refine pure_ (i := 10) (N := some 82) (v := ?_) (a' := ?_) #[true, true, true, true, true, true, true, true, true, true, true, false, false, false, false, false] rfl rfl (any_of HT_.out (by kernel_rfl)) (fun _ _ _ h => h) (Or.inl ⟨by rfl, ?_⟩) ?_ ?_
                rotate_left
                ·
                  intro w'
                  go_simp
                  with_reducible rfl
                rotate_left
                ·
                  simp only [Act.put, l_1, l_2, l_3, i64_w, i32_w]
                  rfl
                refine take_ (i := 11) (N := some 83) (v := ?_) (a' := ?_) #[true, true, true, true, true, true, true, true, true, true, true, true, false, false, false, false] rfl rfl (take_ofW HT_.out HW_.out (by kernel_rfl)) (fun _ _ _ h => h) (Or.inl ⟨by rfl, ?_⟩) hHeld ?_ ?_
                rotate_left
                ·
                  rintro w' ⟨s0, s1⟩
                  go_simp
                  with_reducible rfl
                rotate_left
                ·
                  simp only [Act.put, l_1, l_2, l_3, i64_w, i32_w]
                  rfl
                refine pure_ (i := 12) (N := some 84) (v := ?_) (a' := ?_) #[true, true, true, true, true, true, true, true, true, true, true, true, true, false, false, false] rfl rfl (any_of HT_.out (by kernel_rfl)) (fun _ _ _ h => h) (Or.inl ⟨by rfl, ?_⟩) ?_ ?_
                rotate_left
                ·
                  intro w'
                  go_simp
                  with_reducible rfl
                rotate_left
                ·
                  simp only [Act.put, l_1, l_2, l_3, i64_w, i32_w]
                  rfl
                refine one_ (i := 13) (N := some 85) #[true, true, true, true, true, true, true, true, true, true, true, true, true, true, false, false] rfl rfl (one_of HT_.out (by kernel_rfl)) (by decide) (fun K hK => ?_)
                refine goes_ Try.func10 (by kernel_rfl) rfl #[.int .i64 (B p i)] (by rfl) rfl rfl (by (try simp only [l_4, l_5, l_6]); first | done | rfl | (simp only [l_7, l_8]; rfl)) ?_
                refine (pelotonref06_Sin.calls k (B p i) _ _ E6.out).mono ?_
                rintro e wS ⟨rfl, hb⟩
                refine ⟨_, rfl, ?_⟩
                replace IV := Aside0.mk (IV.out.below hb)
                replace KG := Aside0.mk (blk_below KG.out hb)
                clear hb
                refine hK.out _ _ ⟨(rope_Table.cell2 KG.out).1, (rope_Table.cell2 KG.out).2.1⟩ (fun hHeld => ?_)
                clear hK K
                refine norm_ (a' := ?_) ?_ ?_
                rotate_left
                ·
                  show Act.put _ (some 85) _ = _
                  simp only [Act.put, l_1, l_2, l_3, i64_w, i32_w]
                  rfl
                refine pure_ (i := 14) (N := some 86) (v := ?_) (a' := ?_) #[true, true, true, true, true, true, true, true, true, true, true, true, true, true, true, false] rfl rfl (any_of HT_.out (by kernel_rfl)) (fun _ _ _ h => h) (Or.inl ⟨by rfl, ?_⟩) ?_ ?_
                rotate_left
                ·
                  intro w'
                  go_simp
                  with_reducible rfl
                rotate_left
                ·
                  simp only [Act.put, l_1, l_2, l_3, i64_w, i32_w]
                  rfl
                refine pure_ (i := 15) (N := some 87) (v := ?_) (a' := ?_) #[true, true, true, true, true, true, true, true, true, true, true, true, true, true, true, true] rfl rfl (any_of HT_.out (by kernel_rfl)) (fun _ _ _ h => h) (Or.inl ⟨by rfl, ?_⟩) ?_ ?_
                rotate_left
                ·
                  intro w'
                  go_simp
                  with_reducible rfl
                rotate_left
                ·
                  simp only [Act.put, l_1, l_2, l_3, i64_w, i32_w]
                  rfl
                refine done_ (done_of HT_.out (by kernel_rfl)) ?_
                clear hHeld HT_ HW_ KG
                go_wp2
                go_roundg m2
                case measure => omega
                case rel => exact ⟨i + 1, by first | rfl | rw [hw], by omega, ⟨by have := HI.out; omega⟩, IV⟩
      · rw [if_neg ha] at h; cases h
/-- THE ONE PURE STATEMENT of pelotonlaw06_RopeTables. -/
def pelotonlaw06_RopeTables.Pure : Prop := ∀ (a0 : Int) (a1 : Int), ((Lit.int .i64 a0).wf = true) → ((Lit.int .i64 a1).wf = true) → ∃ k, pelotonlaw06_RopeTables.f k a0 a1 = some true
end Go.Proofs.Ytplndicghohpbaa.QRopeTables
