-- Written by a program of this session (a turned copy of the print) out of the translation. Lean checks it.
import Derived.Test.YtijkcjlkfjeedaaQSliceOwnsx0
import Derived.Test.YtijkcjlkfjeedaaQSliceOwnsx2
import Derived.Test.YtijkcjlkfjeedaaQSliceOwnsx3
import Derived.Test.YtijkcjlkfjeedaaQSliceOwnsx4
import Derived.Test.YtijkcjlkfjeedaaQSliceOwnsx5
import Derived.Test.YtijkcjlkfjeedaaQSliceOwnsx6
namespace Go.Proofs.Ytijkcjlkfjeedaa.QSliceOwns
open Go.RowKit Go.Proofs.YtijkcjlkfjeedaaW.PrintWords Go.Proofs.YtijkcjlkfjeedaaW.PrintLast Go.Proofs.YtijkcjlkfjeedaaW.PrintMore
attribute [local go_sem] max2_int min2_int max_two min_two max_three min_three max_four min_four   -- for this text's walks alone
open Go.Proofs.YtijkcjlkfjeedaaW.PrintWords renaming below_alloc → b_a, pw_below_drewN → b_n, below_drew1 → b_d, below_set → b_s, blk_drewN → k_n, blk_drew → k_d, blk_alloc → k_a
open List renaming setIfInBounds_toArray → l_1, set_cons_zero → l_2, set_cons_succ → l_3, map_toArray → l_4, map_cons → l_5, map_nil → l_6, length_drop → l_7, length_take → l_8
set_option linter.unusedVariables false
set_option linter.unusedSimpArgs false

/-! ### pelotonlaw10_SliceOwns: function 6, by hand -/
def slice_Owners.el (g c : Nat) : DataW Unit := .agg [.lit (.int .i64 g), .lit (.int .i64 c)]
def slice_Owners.R (v : Value) : Option (DataW Unit × List MemPlace) :=
  match v with
  | .slice none 0 0 => some (.agg [], [])
  | .slice (some ⟨g, 0, none⟩) 1 c => some (slice_Owners.el g c, [])
  | _ => none
theorem slice_Owners.R_mk (g c : Nat) : slice_Owners.R (.slice (some ⟨g, 0, none⟩) 1 c) = some (slice_Owners.el g c, []) := rfl
theorem slice_Owners.R_nil : slice_Owners.R (.slice none 0 0) = some (.agg [], []) := rfl
theorem slice_Owners.R_inv {v : Value} {g c : Nat} {ps : List MemPlace} (h : slice_Owners.R v = some (slice_Owners.el g c, ps)) : v = .slice (some ⟨g, 0, none⟩) 1 c := by
  unfold slice_Owners.R at h
  split at h
  · simp only [Option.some.injEq, Prod.mk.injEq, slice_Owners.el, DataW.agg.injEq] at h
    cases h.1
  · simp only [Option.some.injEq, Prod.mk.injEq, slice_Owners.el, DataW.agg.injEq, List.cons.injEq, DataW.lit.injEq, Lit.int.injEq, Int.ofNat_inj] at h
    obtain ⟨⟨⟨_, rfl⟩, ⟨_, rfl⟩, _⟩, _⟩ := h
    rfl
  · cases h
def slice_Owners.ky (p i : Int) : Lit := .string (keyBytes [.int .i64 p, .int .i64 i])
theorem slice_Owners.keyty : Try.prog.keyType 29 = true := by kernel_rfl
theorem slice_Owners.cells29 : Try.prog.cellsOf 29 = 2 := by kernel_rfl
theorem slice_Owners.cells3 : Try.prog.cellsOf 3 = 1 := by kernel_rfl
theorem slice_Owners.size : Try.prog.types.size + 1 = (Try.prog.types.size - 1) + 2 := by kernel_rfl
theorem slice_Owners.u29 : Try.prog.underlying 29 = some (.array 2 3) := by kernel_rfl
theorem slice_Owners.u45 : Try.prog.underlying 45 = some (.map 29 47) := by kernel_rfl
theorem slice_Owners.u3 : Try.prog.underlying 3 = some (.int .i64) := by kernel_rfl
theorem slice_Owners.lit2 (n : Nat) (p i : Int) (hp : (Lit.int .i64 p).wf = true) (hi : (Lit.int .i64 i).wf = true) : Try.prog.keyLits (n + 2) 29 [.int .i64 p, .int .i64 i] = some [.int .i64 p, .int .i64 i] := by
  simp [Program.keyLits, slice_Owners.u29, slice_Owners.u3, slice_Owners.cells29, slice_Owners.cells3, List.range_succ, hp, hi]
theorem slice_Owners.key (p i : Int) (hp : (Lit.int .i64 p).wf = true) (hi : (Lit.int .i64 i).wf = true) : keyOf Try.prog 29 (.agg #[.int .i64 p, .int .i64 i]) = some (slice_Owners.ky p i) := by
  have hf : (Value.agg #[.int .i64 p, .int .i64 i]).formed Try.prog 29 = true := by simp [Value.formed, slice_Owners.u29, slice_Owners.cells29]
  have hl : Try.prog.keyLits (Try.prog.types.size + 1) 29 [.int .i64 p, .int .i64 i] = some [.int .i64 p, .int .i64 i] := by
    rw [slice_Owners.size]
    exact slice_Owners.lit2 _ p i hp hi
  unfold keyOf
  rw [slice_Owners.u29]
  simp only [slice_Owners.keyty, hf, Bool.and_self, if_true]
  show Option.map _ (Try.prog.keyLits (Try.prog.types.size + 1) 29 [.int .i64 p, .int .i64 i]) = _
  rw [hl]
  rfl
theorem slice_Owners.laid : laidOutB Try.prog = true := by kernel_rfl
theorem slice_Owners.row : (29 : TypeId) < Try.prog.types.size := of_decide_eq_true (by kernel_rfl)
theorem slice_Owners.wide : (match Try.prog.underlying 29 with | some (.array _ _) | some (.struct _) => true | _ => false) = true := by rw [slice_Owners.u29]
theorem slice_Owners.law0 : WideMaps.KeyLaw Try.prog 29 := deep_law_laid slice_Owners.laid (m := 2) (by omega) slice_Owners.row (by kernel_rfl) slice_Owners.wide
theorem slice_Owners.law : Maps.Keyed Try.prog 29 := Maps.Keyed.of_law slice_Owners.law0
theorem slice_Owners.zero (w : World) : (zeroValue 47).run Try.prog w = .ok (.slice none 0 0) w := by kernel_rfl
theorem slice_Owners.ky_ne {p i q j : Int} (hp : (Lit.int .i64 p).wf = true) (hi : (Lit.int .i64 i).wf = true) (hq : (Lit.int .i64 q).wf = true) (hj : (Lit.int .i64 j).wf = true) (h : ¬ (q = p ∧ j = i)) : slice_Owners.ky q j ≠ slice_Owners.ky p i := by
  intro he
  have h1 := slice_Owners.key p i hp hi
  rw [← he] at h1
  have h2 := slice_Owners.law.inj (slice_Owners.key q j hq hj) h1
  injection h2 with h3
  have h4 : [Value.int IntKind.i64 q, .int .i64 j] = [.int .i64 p, .int .i64 i] := congrArg Array.toList h3
  simp only [List.cons.injEq, Value.int.injEq] at h4
  exact h ⟨h4.1.2, h4.2.1.2⟩
theorem slice_Owners.wfs {x : Int} (h0 : 0 ≤ x) (h1 : x ≤ 1000) : (Lit.int .i64 x).wf = true := by
  exact WalkArith.wf_i64 (by omega)
open Go.ChangeMaps Go.MapKept in
/-- 'm[k] = append(m[k], ..)' at a key that is not there: the entry, and the store behind the append -/
theorem slice_Owners.entry {W : World} {b n : Nat} {D : DataW Unit} (hown : W.ownsMap Try.prog 29 slice_Owners.R b n D) (hn : n < maxLen) {p i : Int} (hp : (Lit.int .i64 p).wf = true) (hi : (Lit.int .i64 i).wf = true) (hno : Maps.has D (slice_Owners.ky p i) = false) :
    ∃ (st : Nat) (W1 : World) (o : Obj), (Instr.mapEntry 45 (.map (some b)) (.agg #[.int .i64 p, .int .i64 i])).run Try.prog W = .ok (.tuple #[.slice none 0 0, .int .i64 (st : Int)]) W1 ∧ W.grownBy W1 (some b) ∧ W1.heap[b]? = some o ∧
      ∀ (W2 : World) (g c : Nat), W2.heap[b]? = some o → ∃ W3, (Instr.entryStore 45 (.map (some b)) (.int .i64 (st : Int)) (.slice (some ⟨g, 0, none⟩) 1 c)).run Try.prog W2 = .ok () W3 ∧ W3.ownsMap Try.prog 29 slice_Owners.R b (n + 1) (D.put (slice_Owners.ky p i) (slice_Owners.el g c)) ∧ W2.grownBy W3 (some b) := by
  have hkey := slice_Owners.key p i hp hi
  have hown' := hown
  obtain ⟨es, clock, hb, F, hs, rfl⟩ := hown
  obtain ⟨v0, st, es1, clock1, h1, h2, h3⟩ := WideElems.entry_then_store slice_Owners.law0 slice_Owners.u45 (z := .slice none 0 0) slice_Owners.zero hb F hkey
  have hv0 : v0 = .slice none 0 0 := by
    rcases h2 with ⟨e0, m0, k0, _⟩ | ⟨_, h⟩
    · exfalso
      rcases Maps.fit_look true slice_Owners.law slice_Owners.u45 (slice_Owners.zero W) hb F hkey with ⟨_, hne, _⟩ | ⟨e1, y, _, _, _, _, hat, _⟩
      · exact hne e0 m0 k0
      · rw [Maps.has_true_of_atKey hat] at hno; cases hno
    · exact h
  subst hv0
  refine ⟨st, _, _, h1, ⟨rfl, rfl, rfl, by simp [setBlock], fun i _ hi => heap_setBlock_other hb _ (fun e => hi (by rw [e]))⟩, heap_setBlock_same hb _, fun W2 g c hW2 => ?_⟩
  obtain ⟨es', clock', hrun, hupd⟩ := h3 W2 (.slice (some ⟨g, 0, none⟩) 1 c) hW2
  obtain ⟨w', hu1, hu2, _⟩ := hown'.update slice_Owners.law slice_Owners.u45 hn hkey (slice_Owners.R_mk g c)
  rw [hupd] at hu1
  injection hu1 with _ hw
  subst hw
  obtain ⟨es2, clock2, hb2, F2, hs2, hd2⟩ := hu2
  rw [heap_setBlock_same hb _] at hb2
  injection hb2 with hb2
  injection hb2 with e1 e2
  subst e1; subst e2
  exact ⟨_, hrun, ⟨es', clock', heap_setBlock_same hW2 _, F2, hs2, hd2⟩, ⟨rfl, rfl, rfl, by simp [setBlock], fun i _ hi => heap_setBlock_other hW2 _ (fun e => hi (by rw [e]))⟩⟩
structure slice_Owners.Geo where
  N : Int
  I : Int → Int
  J : Int → Int
  X0 : Int → Int
  X1 : Int → Int
  Y0 : Int → Int
  Y1 : Int → Int
  Sz : Int → Int
def slice_Owners.In (G : slice_Owners.Geo) (u q j : Int) : Prop := G.X0 u ≤ q ∧ q < G.X1 u ∧ G.Y0 u ≤ j ∧ j < G.Y1 u
def slice_Owners.Own (G : slice_Owners.Geo) (v l h u q j : Int) : Prop := 0 ≤ u ∧ slice_Owners.In G u q j ∧ (u < v ∨ (u = v ∧ (q < l ∨ (q = l ∧ j < h))))
def slice_Owners.Apart (G : slice_Owners.Geo) : Prop := (∀ u, 0 ≤ u → u < G.N → 0 ≤ G.X0 u ∧ G.X0 u ≤ G.X1 u ∧ G.X1 u ≤ 300 ∧ 0 ≤ G.Y0 u ∧ G.Y0 u ≤ G.Y1 u ∧ G.Y1 u ≤ 300) ∧ (∀ u u' q j, 0 ≤ u → u < G.N → 0 ≤ u' → u' < G.N → slice_Owners.In G u q j → slice_Owners.In G u' q j → u = u') ∧ G.Sz 0 = 0 ∧ (∀ u, 0 ≤ u → u < G.N → G.Sz (u + 1) = G.Sz u + (G.X1 u - G.X0 u) * (G.Y1 u - G.Y0 u))
/-- the map's state -/
def slice_Owners.Tb (G : slice_Owners.Geo) (W : World) (D : DataW Unit) (v l h : Int) : Prop :=
  Maps.Tidy D ∧ (∀ q j : Int, 0 ≤ q → q ≤ 300 → 0 ≤ j → j ≤ 300 → (Maps.has D (slice_Owners.ky q j) = true ↔ ∃ u, slice_Owners.Own G v l h u q j)) ∧
  (∀ u q j : Int, slice_Owners.Own G v l h u q j → 0 ≤ q → q ≤ 300 → 0 ≤ j → j ≤ 300 → ∃ g c cs, (∀ z, D.atKey (slice_Owners.ky q j) z = slice_Owners.el g c) ∧ W.heap[g]? = some (.cells cs 3 (0, 0)) ∧ cs[0]? = some (.int .i64 u)) ∧
  (Maps.size D : Int) = G.Sz v + (l - G.X0 v) * (G.Y1 v - G.Y0 v) + (h - G.Y0 v)
theorem slice_Owners.Tb.zero (G : slice_Owners.Geo) (hA : slice_Owners.Apart G) (W : World) : slice_Owners.Tb G W (.map []) 0 (G.X0 0) (G.Y0 0) := by
  have hno : ∀ u q j, ¬ slice_Owners.Own G 0 (G.X0 0) (G.Y0 0) u q j := by
    rintro u q j ⟨h0, ⟨h1, h2, h3, h4⟩, h5⟩
    rcases h5 with h5 | ⟨rfl, h5⟩
    · omega
    · omega
  refine ⟨Maps.tidy_empty, fun q j _ _ _ _ => ⟨fun h => (by cases h), fun ⟨u, hu⟩ => (hno u q j hu).elim⟩, fun u q j hu => (hno u q j hu).elim, ?_⟩
  rw [hA.2.2.1]
  simp [Maps.size]
theorem slice_Owners.Tb.congr {G : slice_Owners.Geo} {W : World} {D : DataW Unit} {v l h v' l' h' : Int} (H : slice_Owners.Tb G W D v l h) (e : ∀ u q j, slice_Owners.Own G v l h u q j ↔ slice_Owners.Own G v' l' h' u q j) (hs : G.Sz v + (l - G.X0 v) * (G.Y1 v - G.Y0 v) + (h - G.Y0 v) = G.Sz v' + (l' - G.X0 v') * (G.Y1 v' - G.Y0 v') + (h' - G.Y0 v')) : slice_Owners.Tb G W D v' l' h' :=
  ⟨H.1, fun q j h0 h1 h2 h3 => (H.2.1 q j h0 h1 h2 h3).trans ⟨fun ⟨u, hu⟩ => ⟨u, (e u q j).1 hu⟩, fun ⟨u, hu⟩ => ⟨u, (e u q j).2 hu⟩⟩, fun u q j hu => H.2.2.1 u q j ((e u q j).2 hu), by rw [H.2.2.2, hs]⟩
theorem slice_Owners.Tb.inner {G : slice_Owners.Geo} {W : World} {D : DataW Unit} {v l : Int} (H : slice_Owners.Tb G W D v l (G.Y1 v)) : slice_Owners.Tb G W D v (l + 1) (G.Y0 v) := by
  refine H.congr (fun u q j => ?_) ?_
  · constructor
    · rintro ⟨h0, ⟨h1, h2, h3, h4⟩, h5⟩
      refine ⟨h0, ⟨h1, h2, h3, h4⟩, ?_⟩
      rcases h5 with h5 | ⟨rfl, h5⟩
      · exact Or.inl h5
      · exact Or.inr ⟨rfl, by omega⟩
    · rintro ⟨h0, ⟨h1, h2, h3, h4⟩, h5⟩
      refine ⟨h0, ⟨h1, h2, h3, h4⟩, ?_⟩
      rcases h5 with h5 | ⟨rfl, h5⟩
      · exact Or.inl h5
      · exact Or.inr ⟨rfl, by omega⟩
  · rw [show l + 1 - G.X0 v = (l - G.X0 v) + 1 by omega, Int.add_mul, Int.one_mul]
    omega
theorem slice_Owners.Tb.outer {G : slice_Owners.Geo} {W : World} {D : DataW Unit} {v : Int} (hA : slice_Owners.Apart G) (h0 : 0 ≤ v) (h1 : v < G.N) (H : slice_Owners.Tb G W D v (G.X1 v) (G.Y0 v)) : slice_Owners.Tb G W D (v + 1) (G.X0 (v + 1)) (G.Y0 (v + 1)) := by
  refine H.congr (fun u q j => ?_) ?_
  · constructor
    · rintro ⟨h0, h2, h5⟩
      refine ⟨h0, h2, Or.inl ?_⟩
      rcases h5 with h5 | ⟨rfl, h5⟩
      · omega
      · omega
    · rintro ⟨h0, ⟨h1, h2, h3, h4⟩, h5⟩
      refine ⟨h0, ⟨h1, h2, h3, h4⟩, ?_⟩
      rcases h5 with h5 | ⟨rfl, h5⟩
      · by_cases hu : u < v
        · exact Or.inl hu
        · obtain rfl : u = v := by omega
          exact Or.inr ⟨rfl, Or.inl h2⟩
      · omega
  · rw [hA.2.2.2 v h0 h1, Int.sub_self (G.X0 (v + 1)), Int.zero_mul]
    omega
theorem slice_Owners.Tb.keep {G : slice_Owners.Geo} {W W' : World} {D : DataW Unit} {v l h : Int} (H : slice_Owners.Tb G W D v l h) (hk : ∀ (g : Nat) cs, W.heap[g]? = some (.cells cs 3 (0, 0)) → W'.heap[g]? = some (.cells cs 3 (0, 0))) : slice_Owners.Tb G W' D v l h :=
  ⟨H.1, H.2.1, fun u q j hu h0 h1 h2 h3 => by
    obtain ⟨g, c, cs, e1, e2, e3⟩ := H.2.2.1 u q j hu h0 h1 h2 h3
    exact ⟨g, c, cs, e1, hk g cs e2, e3⟩, H.2.2.2⟩
theorem slice_Owners.Tb.no {G : slice_Owners.Geo} {W : World} {D : DataW Unit} {v l h : Int} (hA : slice_Owners.Apart G) (H : slice_Owners.Tb G W D v l h) (h0 : 0 ≤ v) (h1 : v < G.N) (l0 : G.X0 v ≤ l) (l1 : l < G.X1 v) (k0 : G.Y0 v ≤ h) (k1 : h < G.Y1 v) : Maps.has D (slice_Owners.ky l h) = false := by
  have hb := hA.1 v h0 h1
  cases hh : Maps.has D (slice_Owners.ky l h) with
  | false => rfl
  | true =>
    obtain ⟨u, u0, u1, u2⟩ := (H.2.1 l h (by omega) (by omega) (by omega) (by omega)).1 hh
    exfalso
    rcases u2 with u2 | ⟨rfl, u2⟩
    · have := hA.2.1 u v l h u0 (by omega) h0 h1 u1 ⟨l0, l1, k0, k1⟩
      omega
    · omega
theorem slice_Owners.Tb.put {G : slice_Owners.Geo} {W : World} {D : DataW Unit} {v l h : Int} (hA : slice_Owners.Apart G) (H : slice_Owners.Tb G W D v l h) (h0 : 0 ≤ v) (h1 : v < G.N) (l0 : G.X0 v ≤ l) (l1 : l < G.X1 v) (k0 : G.Y0 v ≤ h) (k1 : h < G.Y1 v) {g c : Nat} {cs : Array Value} (hg : W.heap[g]? = some (.cells cs 3 (0, 0))) (hc : cs[0]? = some (.int .i64 v)) : slice_Owners.Tb G W (D.put (slice_Owners.ky l h) (slice_Owners.el g c)) v l (h + 1) := by
  have hb := hA.1 v h0 h1
  have hno := H.no hA h0 h1 l0 l1 k0 k1
  have wl : (Lit.int .i64 l).wf = true := slice_Owners.wfs (by omega) (by omega)
  have wh : (Lit.int .i64 h).wf = true := slice_Owners.wfs (by omega) (by omega)
  have hk : WideAt.IsKeyLit (slice_Owners.ky l h) := slice_Owners.law.key (slice_Owners.key l h wl wh)
  have hown : ∀ u q j, slice_Owners.Own G v l (h + 1) u q j → (slice_Owners.Own G v l h u q j ∨ (u = v ∧ q = l ∧ j = h)) := by
    rintro u q j ⟨a0, a1, a2⟩
    rcases a2 with a2 | ⟨rfl, a2⟩
    · exact Or.inl ⟨a0, a1, Or.inl a2⟩
    · by_cases he : q = l ∧ j = h
      · exact Or.inr ⟨rfl, he⟩
      · exact Or.inl ⟨a0, a1, Or.inr ⟨rfl, by omega⟩⟩
  have hnow : slice_Owners.Own G v l (h + 1) v l h := ⟨h0, ⟨l0, l1, k0, k1⟩, Or.inr ⟨rfl, Or.inr ⟨rfl, by omega⟩⟩⟩
  have hold : ∀ u q j, slice_Owners.Own G v l h u q j → slice_Owners.Own G v l (h + 1) u q j := by
    rintro u q j ⟨a0, a1, a2⟩
    rcases a2 with a2 | ⟨rfl, a2⟩
    · exact ⟨a0, a1, Or.inl a2⟩
    · exact ⟨a0, a1, Or.inr ⟨rfl, by omega⟩⟩
  refine ⟨H.1.put hk _, fun q j q0 q1 j0 j1 => ?_, fun u q j hu q0 q1 j0 j1 => ?_, ?_⟩
  · by_cases he : q = l ∧ j = h
    · obtain ⟨rfl, rfl⟩ := he
      exact ⟨fun _ => ⟨v, hnow⟩, fun _ => Maps.has_put_same H.1.isMap hk _⟩
    · rw [Maps.has_put_other (slice_Owners.ky_ne wl wh (slice_Owners.wfs q0 (by omega)) (slice_Owners.wfs j0 (by omega)) he), H.2.1 q j q0 q1 j0 j1]
      constructor
      · rintro ⟨u, hu⟩; exact ⟨u, hold u q j hu⟩
      · rintro ⟨u, hu⟩
        rcases hown u q j hu with hu | ⟨_, e1, e2⟩
        · exact ⟨u, hu⟩
        · exact (he ⟨e1, e2⟩).elim
  · by_cases he : q = l ∧ j = h
    · obtain ⟨rfl, rfl⟩ := he
      have hv : u = v := by
        rcases hown u q j hu with hu | ⟨e, _⟩
        · have h3 := (H.2.1 q j q0 q1 j0 j1).2 ⟨u, hu⟩
          rw [hno] at h3; cases h3
        · exact e
      subst hv
      exact ⟨g, c, cs, fun z => Maps.atKey_put_same H.1.isMap hk _ _, hg, hc⟩
    · rcases hown u q j hu with hu | ⟨_, e1, e2⟩
      · obtain ⟨g', c', cs', e1, e2, e3⟩ := H.2.2.1 u q j hu q0 q1 j0 j1
        exact ⟨g', c', cs', fun z => by rw [Maps.atKey_put_other (slice_Owners.ky_ne wl wh (slice_Owners.wfs q0 (by omega)) (slice_Owners.wfs j0 (by omega)) he)]; exact e1 z, e2, e3⟩
      · exact (he ⟨e1, e2⟩).elim
  · have hs := Maps.size_put (k := slice_Owners.ky l h) H.1 (slice_Owners.el g c)
    rw [hno] at hs
    rw [hs]
    have := H.2.2.2
    simp only [Bool.false_eq_true, if_false]
    omega
theorem slice_Owners.u47 : Try.prog.underlying 47 = some (.slice 3) := by kernel_rfl
theorem slice_Owners.info3 : (Try.prog.info? 3).map (fun i => (i.zero, i.size, i.bytes)) = some (some (.int .i64 0), 1, 8) := by kernel_rfl
theorem slice_Owners.cell2 {w : World} {g t : Nat} {u v : Value} (h : w.heap[g]? = some (.cells #[u, v] t (0, 0))) : w.cell? ⟨g, 0, none⟩ = some u ∧ w.cell? ⟨g, 1, none⟩ = some v ∧ w.frozen? ⟨g, 0, none⟩ = false ∧ w.frozen? ⟨g, 1, none⟩ = false :=
  ⟨(blk_cell h 0).trans rfl, (blk_cell h 1).trans rfl, blk_frozen h 0, blk_frozen h 1⟩
theorem slice_Owners.cell6 {w : World} {g t : Nat} {a b c d e f : Value} (h : w.heap[g]? = some (.cells #[a, b, c, d, e, f] t (0, 0))) : w.cell? ⟨g, 0, none⟩ = some a ∧ w.cell? ⟨g, 1, none⟩ = some b ∧ w.cell? ⟨g, 2, none⟩ = some c ∧ w.cell? ⟨g, 3, none⟩ = some d ∧ w.cell? ⟨g, 4, none⟩ = some e ∧ w.cell? ⟨g, 5, none⟩ = some f :=
  ⟨(blk_cell h 0).trans rfl, (blk_cell h 1).trans rfl, (blk_cell h 2).trans rfl, (blk_cell h 3).trans rfl, (blk_cell h 4).trans rfl, (blk_cell h 5).trans rfl⟩
theorem slice_Owners.put2 {w : World} {g t : Nat} {a b u v : Value} (h : w.heap[g]? = some (.cells #[a, b] t (0, 0))) : ((w.setCell ⟨g, 0, none⟩ u).setCell ⟨g, 1, none⟩ v).heap[g]? = some (.cells #[u, v] t (0, 0)) :=
  blk_put (cs := #[u, b]) (blk_put h 0 u rfl) 1 v rfl
theorem slice_Owners.below2 {w W : World} {g : Nat} {u v : Value} (h : Below w.heap.size w W) (hg : w.heap.size ≤ g) : Below w.heap.size w ((W.setCell ⟨g, 0, none⟩ u).setCell ⟨g, 1, none⟩ v) := below_set (below_set h hg) hg
theorem slice_Owners.app (W : World) (g c : Nat) (v : Int) (hcell : W.cell? ⟨g, 0, none⟩ = some (.int .i64 v)) : ∃ cap cs, (Builtin.append_ #[47, 47] 47 #[.slice none 0 0, .slice (some ⟨g, 0, none⟩) 1 c]).run Try.prog W = .ok (.slice (some ⟨W.heap.size, 0, none⟩) 1 cap) (W.drew.alloc (.cells cs 3)) ∧ cs[0]? = some (.int .i64 v) := by
  obtain ⟨i, hi, hzz⟩ := Option.map_eq_some_iff.1 slice_Owners.info3
  simp only [Prod.mk.injEq] at hzz
  obtain ⟨hz, hsz, hby⟩ := hzz
  have hr := run_append_nil (P := Try.prog) W 47 47 3 i (.int .i64 0) slice_Owners.u47 hi hz ⟨g, 0, none⟩ 1 c [.int .i64 v] (by rw [hsz]; rfl) (fun j u hj => by
    cases j with
    | zero =>
      obtain rfl : Value.int .i64 v = u := Option.some.inj hj
      have e : (⟨g, 0, none⟩ : Addr).add 0 = ⟨g, 0, none⟩ := by unfold Addr.add; split <;> simp_all
      rw [e]; exact hcell
    | succ j => cases hj) (by omega) (by omega) (by rw [hby]; omega)
  refine ⟨_, _, hr, ?_⟩
  rw [Array.getElem?_append_left (by simp)]
  rfl
theorem slice_Owners.wpapp {W : World} {ops : Array Oper} {rest : List Oper} {o : Oper} {a : Act} {Q : Exit → Act → World → Prop} (hgd : o.guard = none) (s x : Operand) (t : TypeId) (ho : o.op = .call { callee := .builtin .append, args := #[s, x], argTypes := #[t, t] }) (v u : Value) (hd : a.eval s = v) (hs : a.eval x = u) {v' : Value} {w' : World} (hr : (Builtin.append_ #[t, t] o.type #[v, u]).run Try.prog W = .ok v' w') (h : wpList Try.prog ops Q rest (a.put o.dst v') w') : wpList Try.prog ops Q (o :: rest) a W :=
  wpList_plain hgd fun _ hK => by
    unfold Oper.wp execOp
    simp only [ho, resolve, invoke, builtin, Sem.run_bind, Sem.run_pure, Result.andThen_ok, List.map_toArray, List.map_cons, List.map_nil, hd, hs, hr]
    exact hK _ _ h
def slice_Owners.Inv (w W : World) (G : slice_Owners.Geo) (sa sb : Array Value) (g2 g3 gm n : Nat) (D : DataW Unit) (v l h : Int) : Prop :=
  Below w.heap.size w W ∧ W.heap[g2]? = some (.cells sa 23 (0, 0)) ∧ W.heap[g3]? = some (.cells sb 25 (0, 0)) ∧ w.heap.size ≤ gm ∧ W.ownsMap Try.prog 29 slice_Owners.R gm n D ∧ slice_Owners.Tb G W D v l h ∧ (n : Int) ≤ 200000 * v + 300 * (l - G.X0 v) + (h - G.Y0 v)
theorem slice_Owners.own_below {W W' : World} {b n : Nat} {D : DataW Unit} (h : W.ownsMap Try.prog 29 slice_Owners.R b n D) (hb : Below W.heap.size W W') : W'.ownsMap Try.prog 29 slice_Owners.R b n D := by
  obtain ⟨es, c, h1, h2⟩ := h
  exact ⟨es, c, blk_below h1 hb, h2⟩
section
variable {w W W' : World} {G : slice_Owners.Geo} {sa sb : Array Value} {g2 g3 gm n : Nat} {D : DataW Unit} {v l h : Int}
theorem slice_Owners.Inv.below (H : slice_Owners.Inv w W G sa sb g2 g3 gm n D v l h) (hb : Below W.heap.size W W') : slice_Owners.Inv w W' G sa sb g2 g3 gm n D v l h :=
  ⟨below_step H.1 hb, blk_below H.2.1 hb, blk_below H.2.2.1 hb, H.2.2.2.1, slice_Owners.own_below H.2.2.2.2.1 hb, H.2.2.2.2.2.1.keep (fun g cs e => blk_below e hb), H.2.2.2.2.2.2⟩
theorem slice_Owners.Inv.inner (H : slice_Owners.Inv w W G sa sb g2 g3 gm n D v l (G.Y1 v)) (hb : G.Y1 v - G.Y0 v ≤ 300) : slice_Owners.Inv w W G sa sb g2 g3 gm n D v (l + 1) (G.Y0 v) :=
  ⟨H.1, H.2.1, H.2.2.1, H.2.2.2.1, H.2.2.2.2.1, H.2.2.2.2.2.1.inner, by have := H.2.2.2.2.2.2; omega⟩
theorem slice_Owners.Inv.outer (hA : slice_Owners.Apart G) (h0 : 0 ≤ v) (h1 : v < G.N) (H : slice_Owners.Inv w W G sa sb g2 g3 gm n D v (G.X1 v) (G.Y0 v)) : slice_Owners.Inv w W G sa sb g2 g3 gm n D (v + 1) (G.X0 (v + 1)) (G.Y0 (v + 1)) :=
  ⟨H.1, H.2.1, H.2.2.1, H.2.2.2.1, H.2.2.2.2.1, H.2.2.2.2.2.1.outer hA h0 h1, by have := H.2.2.2.2.2.2; have := hA.1 v h0 h1; omega⟩
theorem slice_Owners.Inv.upd {W1 W3 : World} {cs : Array Value} {c : Nat} (hA : slice_Owners.Apart G) (h0 : 0 ≤ v) (h1 : v < G.N) (l0 : G.X0 v ≤ l) (l1 : l < G.X1 v) (k0 : G.Y0 v ≤ h) (k1 : h < G.Y1 v) (H : slice_Owners.Inv w W G sa sb g2 g3 gm n D v l h) (o1 : W.grownBy W1 (some gm)) (o3 : (W1.drew.alloc (.cells cs 3)).grownBy W3 (some gm)) (ho : W3.ownsMap Try.prog 29 slice_Owners.R gm (n + 1) (D.put (slice_Owners.ky l h) (slice_Owners.el W1.heap.size c))) (hc : cs[0]? = some (.int .i64 v)) :
    slice_Owners.Inv w W3 G sa sb g2 g3 gm (n + 1) (D.put (slice_Owners.ky l h) (slice_Owners.el W1.heap.size c)) v l (h + 1) ∧ ∀ (g : Nat) ds t, W.heap[g]? = some (.cells ds t (0, 0)) → W3.heap[g]? = some (.cells ds t (0, 0)) := by
  have hlt := H.2.2.2.2.1.lt
  have hs1 := o1.size
  have hsz : (W1.drew.alloc (.cells cs 3)).heap.size = W1.heap.size + 1 := by
    show (W1.heap.push _).size = _
    exact Array.size_push _
  have hk : ∀ (g : Nat) ds t, W.heap[g]? = some (.cells ds t (0, 0)) → W3.heap[g]? = some (.cells ds t (0, 0)) := by
    intro g ds t hg
    have hgl := blk_lt hg
    have hne : some g ≠ some gm := by
      intro e
      injection e with e
      subst e
      obtain ⟨es, cl, hb, _⟩ := H.2.2.2.2.1
      rw [hb] at hg; cases hg
    rw [o3.block g (by omega) hne, heap_alloc_old W1.drew _ (show g < W1.heap.size by omega)]
    exact (o1.block g hgl hne).trans hg
  have b1 := H.1.grown o1 H.1.size (fun j hj => by cases hj; exact H.2.2.2.1)
  have b2 := (b_d b1).alloc b1.size (.cells cs 3)
  have b3 := b2.grown o3 b2.size (fun j hj => by cases hj; exact H.2.2.2.1)
  have hnew : W3.heap[W1.heap.size]? = some (.cells cs 3 (0, 0)) := by
    rw [o3.block W1.heap.size (by omega) (fun e => by injection e with e; omega)]
    exact heap_alloc_last W1.drew _
  exact ⟨⟨b3, hk _ _ _ H.2.1, hk _ _ _ H.2.2.1, H.2.2.2.1, ho, ((H.2.2.2.2.2.1.keep (fun g ds e => hk g ds 3 e)).put hA h0 h1 l0 l1 k0 k1 hnew hc), by have := H.2.2.2.2.2.2; omega⟩, hk⟩
end
theorem slice_Owners.box68 {W : World} {ops : Array Oper} {rest : List Oper} {o : Oper} {a : Act} {Q : Exit → Act → World → Prop} (hgd : o.guard = none) {N : Tmp} (_hd : o.dst = some N) {v : Int}
    (hrun : (execOp a.eval o).run Try.prog W = .ok (.value (.slice (some ⟨W.heap.size, 0, none⟩) 1 1)) (W.alloc (.cells #[.int .i64 v] 3 (0, 0))))
    (h : ∀ (g : Nat) (w1 : World), (∀ (W1 : World) (gm : Nat), w1.grownBy W1 (some gm) → (∃ n D, w1.ownsMap Try.prog 29 slice_Owners.R gm n D) → W1.cell? ⟨g, 0, none⟩ = some (.int .i64 v)) → Below W.heap.size W w1 → wpList Try.prog ops Q rest (a.put o.dst (.slice (some ⟨g, 0, none⟩) 1 1)) w1) : wpList Try.prog ops Q (o :: rest) a W := by
  refine Kd.event_run hgd hrun (h _ _ (fun W1 gm hg hm => ?_) (below_alloc (Below.refl _ _) _))
  have hn := blk_new W (.cells #[.int .i64 v] 3 (0, 0))
  have hne : some W.heap.size ≠ some gm := by
    intro e
    injection e with e
    obtain ⟨n, D, es, cl, hb, _⟩ := hm
    rw [← e, hn] at hb; cases hb
  have h2 := (hg.block W.heap.size (blk_lt hn) hne).trans hn
  exact (blk_cell h2 0).trans rfl
set_option maxHeartbeats 8000000 in
set_option maxRecDepth 100000 in
theorem slice_Owners.good (G : slice_Owners.Geo) (s0 s1 s2 s3 s4 s5 c0 c1 : Int) (w : World) (hW : slice_Workers.f s0 s1 s2 s3 s4 s5 c0 c1 = some G.N) (hN : 0 ≤ G.N ∧ G.N ≤ 64) (hF : ∀ u, 0 ≤ u → u < G.N → slice_Where.f c0 c1 u = some (G.I u, G.J u, true) ∧ slice_Layers.f s0 s1 s2 s3 s4 s5 c0 c1 (G.I u) = some (G.X0 u, G.X1 u, 0) ∧ slice_Heads.f s0 s1 s2 s3 s4 s5 c0 c1 (G.J u) = some (G.Y0 u, G.Y1 u, 0)) (hA : slice_Owners.Apart G) :
    Calls Try.prog 20 #[.agg #[.int .i64 s0, .int .i64 s1, .int .i64 s2, .int .i64 s3, .int .i64 s4, .int .i64 s5], .agg #[.int .i64 c0, .int .i64 c1]] w fun e w' => ∃ (gm n : Nat) (D : DataW Unit), e = .returned (.map (some gm)) ∧ Below w.heap.size w w' ∧ w'.ownsMap Try.prog 29 slice_Owners.R gm n D ∧ slice_Owners.Tb G w' D G.N (G.X0 G.N) (G.Y0 G.N) := by
  have hu23 := Try.underlying23
  have hu25 := Try.underlying25
  have hu29 := Try.underlying29
  have HW := Aside0.mk hW
  have HN := Aside0.mk hN
  have HF := Aside0.mk hF
  have HA := Aside0.mk hA
  clear hW hN hF hA
  have hmm := @run_makeMap Try.prog
  go_enter Try.func20, Try.ntmps20
  go_upto_region 1 with (first
    | ((with_reducible refine gate_dst (N := 2) rfl ?_); refine box_event ?hg (N := 2) ?hd (cs := #[.int .i64 s0, .int .i64 s1, .int .i64 s2, .int .i64 s3, .int .i64 s4, .int .i64 s5]) (t := 23) ?hr ?_; (case hd => rfl); (case hg => rfl); (case hr => first | (go_simp; done) | (go_simp; rfl)); intro g2 hg2 w2 hbox hb; have HB := Aside0.mk hb; have K2 := Aside0.mk hbox; clear hg2 hbox hb)
    | ((with_reducible refine gate_dst (N := 3) rfl ?_); refine box_event ?hg (N := 3) ?hd (cs := #[.int .i64 c0, .int .i64 c1]) (t := 25) ?hr ?_; (case hd => rfl); (case hg => rfl); (case hr => first | (go_simp; done) | (go_simp; rfl)); intro g3 hg3 w3 hbox hb; replace HB := Aside0.mk (below_step HB.out hb); replace K2 := Aside0.mk (blk_below K2.out hb); have K3 := Aside0.mk hbox; clear hg3 hbox hb))
  go_upto_region 2 with (fail)
  have ba := (Below.refl w3.heap.size w3).alloc (Nat.le_refl _) (.map #[] 0)
  obtain ⟨gm, hgm⟩ : ∃ gm, gm = w3.heap.size := ⟨_, rfl⟩
  have IV := Aside0.mk (show slice_Owners.Inv w (w3.alloc (.map #[] 0)) G #[.int .i64 s0, .int .i64 s1, .int .i64 s2, .int .i64 s3, .int .i64 s4, .int .i64 s5] #[.int .i64 c0, .int .i64 c1] g2 g3 gm 0 (.map []) 0 (G.X0 0) (G.Y0 0) from ⟨below_step HB.out ba, blk_below K2.out ba, blk_below K3.out ba, by rw [hgm]; exact HB.out.size, by rw [hgm]; exact World.ownsMap_made _ _ _ _, slice_Owners.Tb.zero G HA.out _, by omega⟩)
  rw [← hgm]
  clear ba hgm HB K2 K3
  generalize w3.alloc (.map #[] 0) = W0 at *
  obtain ⟨x1, x2, x3, x4, x5, x6⟩ := slice_Owners.cell6 IV.out.2.1; obtain ⟨y1, y2, _, _⟩ := slice_Owners.cell2 IV.out.2.2.1
  go_wp2_with (first | (go_at_call 10; (refine (slice_Workers.calls s0 s1 s2 s3 s4 s5 c0 c1 _ _ HW.out).mono ?_); rintro e wk ⟨rfl, hb⟩; replace IV := Aside0.mk (IV.out.below hb); clear hb))
  clear x1 x2 x3 x4 x5 x6 y1 y2
  go_loopg [20] G.N.toNat (fun m v20 W => ∃ (v : Int) (n : Nat) (D : DataW Unit), v20 = .int .i64 v ∧ 0 ≤ v ∧ Aside0 (v + m = G.N) ∧ Aside0 (slice_Owners.Inv w W G (#[.int .i64 s0, .int .i64 s1, .int .i64 s2, .int .i64 s3, .int .i64 s4, .int .i64 s5]) (#[.int .i64 c0, .int .i64 c1]) g2 g3 gm n D v (G.X0 v) (G.Y0 v)))
  case atStart => exact ⟨0, 0, _, rfl, by omega, ⟨by have := HN.out; omega⟩, IV⟩
  case round =>
    clear IV
    obtain ⟨v, n, D, rfl, hv0, HV, IV⟩ := hrel
    cases gk with
    | zero =>
      have q1 : decide (v < G.N) = false := decide_eq_false (by have := HV.out; omega)
      go_wp2
      go_ret
      have e : v = G.N := by have := HV.out; omega
      have h := IV.out
      rw [e] at h
      exact ⟨gm, n, D, rfl, h.1, h.2.2.2.2.1, h.2.2.2.2.2.1⟩
    | succ m =>
      have HV1 := Aside0.mk (show v < G.N from by have := HV.out; omega)
      have q1 : decide (v < G.N) = true := decide_eq_true HV1.out
      have hf := HF.out v hv0 HV1.out
      have E1 := Aside0.mk hf.1
      have E2 := Aside0.mk hf.2.1
      have E3 := Aside0.mk hf.2.2
      have HX := Aside0.mk (HA.out.1 v hv0 HV1.out)
      clear hf
      obtain ⟨x1, x2, x3, x4, x5, x6⟩ := slice_Owners.cell6 IV.out.2.1; obtain ⟨y1, y2, _, _⟩ := slice_Owners.cell2 IV.out.2.2.1
      go_upto_region 6 with (first | (go_at_call 19; (refine (slice_Where.calls c0 c1 _ _ _ _ _ E1.out).mono ?_); rintro e wa ⟨rfl, hb⟩; replace IV := Aside0.mk (IV.out.below hb); clear hb E1) | ((with_reducible refine gate_dst (N := 7) rfl ?_); refine box_event ?hg (N := 7) ?hd (cs := #[.int .i64 0, .int .i64 0]) (t := 29) ?hr ?_; (case hd => rfl); (case hg => rfl); (case hr => first | (go_simp; done) | (go_simp; rfl)); intro g7 hg_ wb hbox hbb; have BX := Aside0.mk (slice_Owners.below2 (u := .int .i64 (G.I v)) (v := .int .i64 (G.J v)) hbb (Nat.le_of_eq hg_.symm)); have Kg7 := Aside0.mk (slice_Owners.put2 (u := .int .i64 (G.I v)) (v := .int .i64 (G.J v)) hbox); obtain ⟨b1, b2, b3, b4⟩ := slice_Owners.cell2 hbox; clear hg_ hbox hbb))
      replace IV := Aside0.mk (IV.out.below BX.out)
      generalize hW_ : ((wb.setCell ⟨g7, 0, none⟩ (.int .i64 (G.I v))).setCell ⟨g7, 1, none⟩ (.int .i64 (G.J v))) = W7 at *
      clear hW_ BX b1 b2 b3 b4 x1 x2 x3 x4 x5 x6 y1 y2
      obtain ⟨x1, x2, x3, x4, x5, x6⟩ := slice_Owners.cell6 IV.out.2.1; obtain ⟨y1, y2, _, _⟩ := slice_Owners.cell2 IV.out.2.2.1
      obtain ⟨z1, z2, _, _⟩ := slice_Owners.cell2 Kg7.out
      go_upto_region 7 with (first | (go_at_call 11; (refine (slice_Layers.calls s0 s1 s2 s3 s4 s5 c0 c1 _ _ _ _ _ E2.out).mono ?_); rintro e wa ⟨rfl, hb⟩; replace IV := Aside0.mk (IV.out.below hb); replace Kg7 := Aside0.mk (blk_below Kg7.out hb); clear hb E2) | ((with_reducible refine gate_dst (N := 9) rfl ?_); refine box_event ?hg (N := 9) ?hd (cs := #[.int .i64 0, .int .i64 0]) (t := 29) ?hr ?_; (case hd => rfl); (case hg => rfl); (case hr => first | (go_simp; done) | (go_simp; rfl)); intro g9 hg_ wb hbox hbb; have BX := Aside0.mk (slice_Owners.below2 (u := .int .i64 (G.X0 v)) (v := .int .i64 (G.X1 v)) hbb (Nat.le_of_eq hg_.symm)); have Kg9 := Aside0.mk (slice_Owners.put2 (u := .int .i64 (G.X0 v)) (v := .int .i64 (G.X1 v)) hbox); obtain ⟨b1, b2, b3, b4⟩ := slice_Owners.cell2 hbox; clear hg_ hbox hbb))
      replace IV := Aside0.mk (IV.out.below BX.out)
      replace Kg7 := Aside0.mk (blk_below Kg7.out BX.out)
      generalize hW_ : ((wb.setCell ⟨g9, 0, none⟩ (.int .i64 (G.X0 v))).setCell ⟨g9, 1, none⟩ (.int .i64 (G.X1 v))) = W9 at *
      clear hW_ BX b1 b2 b3 b4 x1 x2 x3 x4 x5 x6 y1 y2 z1 z2
      obtain ⟨x1, x2, x3, x4, x5, x6⟩ := slice_Owners.cell6 IV.out.2.1; obtain ⟨y1, y2, _, _⟩ := slice_Owners.cell2 IV.out.2.2.1
      obtain ⟨z1, z2, _, _⟩ := slice_Owners.cell2 Kg7.out
      go_upto_region 8 with (first | (go_at_call 12; (refine (slice_Heads.calls s0 s1 s2 s3 s4 s5 c0 c1 _ _ _ _ _ E3.out).mono ?_); rintro e wa ⟨rfl, hb⟩; replace IV := Aside0.mk (IV.out.below hb); replace Kg9 := Aside0.mk (blk_below Kg9.out hb); clear hb E3) | ((with_reducible refine gate_dst (N := 11) rfl ?_); refine box_event ?hg (N := 11) ?hd (cs := #[.int .i64 0, .int .i64 0]) (t := 29) ?hr ?_; (case hd => rfl); (case hg => rfl); (case hr => first | (go_simp; done) | (go_simp; rfl)); intro g11 hg_ wb hbox hbb; have BX := Aside0.mk (slice_Owners.below2 (u := .int .i64 (G.Y0 v)) (v := .int .i64 (G.Y1 v)) hbb (Nat.le_of_eq hg_.symm)); have Kg11 := Aside0.mk (slice_Owners.put2 (u := .int .i64 (G.Y0 v)) (v := .int .i64 (G.Y1 v)) hbox); obtain ⟨b1, b2, b3, b4⟩ := slice_Owners.cell2 hbox; clear hg_ hbox hbb))
      replace IV := Aside0.mk (IV.out.below BX.out)
      replace Kg9 := Aside0.mk (blk_below Kg9.out BX.out)
      generalize hW_ : ((wb.setCell ⟨g11, 0, none⟩ (.int .i64 (G.Y0 v))).setCell ⟨g11, 1, none⟩ (.int .i64 (G.Y1 v))) = W11 at *
      clear hW_ BX b1 b2 b3 b4 x1 x2 x3 x4 x5 x6 y1 y2 z1 z2 Kg7
      obtain ⟨x1, x2, _, _⟩ := slice_Owners.cell2 Kg9.out
      go_wp2
      clear x1 x2
      go_loopg [13] (G.X1 v - G.X0 v).toNat (fun m v13 W => ∃ (l : Int) (n : Nat) (D : DataW Unit), v13 = .int .i64 l ∧ Aside0 (G.X0 v ≤ l ∧ l + m = G.X1 v) ∧ Aside0 (slice_Owners.Inv w W G (#[.int .i64 s0, .int .i64 s1, .int .i64 s2, .int .i64 s3, .int .i64 s4, .int .i64 s5]) (#[.int .i64 c0, .int .i64 c1]) g2 g3 gm n D v l (G.Y0 v)) ∧ Aside0 (W.heap[g9]? = some (.cells #[.int .i64 (G.X0 v), .int .i64 (G.X1 v)] 29 (0, 0))) ∧ Aside0 (W.heap[g11]? = some (.cells #[.int .i64 (G.Y0 v), .int .i64 (G.Y1 v)] 29 (0, 0))))
      case atStart => exact ⟨G.X0 v, n, D, rfl, ⟨by have := HX.out; omega⟩, IV, Kg9, Kg11⟩
      case round =>
        clear IV Kg9 Kg11
        obtain ⟨l, n, D, rfl, HL, IV, Kg9, Kg11⟩ := hrel
        obtain ⟨x1, x2, _, _⟩ := slice_Owners.cell2 Kg9.out
        obtain ⟨y1, y2, _, _⟩ := slice_Owners.cell2 Kg11.out
        cases gk with
        | zero =>
          have q2 : decide (l < G.X1 v) = false := decide_eq_false (by have := HL.out; omega)
          have hw : IntKind.i64.wrap (v + 1) = v + 1 := by rw [i64_w]; have := HV1.out; have := HN.out; unfold wrap64; omega
          go_wp2
          go_roundg m
          case measure => omega
          case rel =>
            have e : l = G.X1 v := by have := HL.out; omega
            have h := IV.out
            rw [e] at h
            exact ⟨v + 1, n, D, by first | rfl | rw [hw], by omega, ⟨by have := HV.out; omega⟩, ⟨h.outer HA.out hv0 HV1.out⟩⟩
        | succ m2 =>
          have q2 : decide (l < G.X1 v) = true := decide_eq_true (by have := HL.out; omega)
          go_wp2
          clear x1 x2 y1 y2
          go_loopg [14] (G.Y1 v - G.Y0 v).toNat (fun m v14 W => ∃ (h : Int) (n : Nat) (D : DataW Unit), v14 = .int .i64 h ∧ Aside0 (G.Y0 v ≤ h ∧ h + m = G.Y1 v) ∧ Aside0 (slice_Owners.Inv w W G (#[.int .i64 s0, .int .i64 s1, .int .i64 s2, .int .i64 s3, .int .i64 s4, .int .i64 s5]) (#[.int .i64 c0, .int .i64 c1]) g2 g3 gm n D v l h) ∧ Aside0 (W.heap[g9]? = some (.cells #[.int .i64 (G.X0 v), .int .i64 (G.X1 v)] 29 (0, 0))) ∧ Aside0 (W.heap[g11]? = some (.cells #[.int .i64 (G.Y0 v), .int .i64 (G.Y1 v)] 29 (0, 0))))
          case atStart => exact ⟨G.Y0 v, n, D, rfl, ⟨by have := HX.out; omega⟩, IV, Kg9, Kg11⟩
          case round =>
            clear IV Kg9 Kg11
            obtain ⟨h, n, D, rfl, HH, IV, Kg9, Kg11⟩ := hrel
            obtain ⟨x1, x2, _, _⟩ := slice_Owners.cell2 Kg9.out
            obtain ⟨y1, y2, _, _⟩ := slice_Owners.cell2 Kg11.out
            cases gk with
            | zero =>
              have q3 : decide (h < G.Y1 v) = false := decide_eq_false (by have := HH.out; omega)
              have hw : IntKind.i64.wrap (l + 1) = l + 1 := by rw [i64_w]; have := HL.out; have := HX.out; unfold wrap64; omega
              go_wp2
              go_roundg m2
              case measure => omega
              case rel =>
                have e : h = G.Y1 v := by have := HH.out; omega
                have hh := IV.out
                rw [e] at hh
                exact ⟨l + 1, n, D, by first | rfl | rw [hw], ⟨by have := HL.out; omega⟩, ⟨hh.inner (by have := HX.out; omega)⟩, Kg9, Kg11⟩
            | succ m3 =>
              have q3 : decide (h < G.Y1 v) = true := decide_eq_true (by have := HH.out; omega)
              have hw : IntKind.i64.wrap (h + 1) = h + 1 := by rw [i64_w]; have := HH.out; have := HX.out; unfold wrap64; omega
              have HB := Aside0.mk (show G.X0 v ≤ l ∧ l < G.X1 v ∧ G.Y0 v ≤ h ∧ h < G.Y1 v from by have := HL.out; have := HH.out; omega)
              go_upto_region 15 with (first | ((with_reducible refine gate_dst (N := 15) rfl ?_); refine box_event ?hg (N := 15) ?hd (cs := #[.int .i64 0, .int .i64 0]) (t := 29) ?hr ?_; (case hd => rfl); (case hg => rfl); (case hr => first | (go_simp; done) | (go_simp; rfl)); intro g15 hg_ wb hbox hbb; have BX := Aside0.mk (slice_Owners.below2 (u := .int .i64 (l)) (v := .int .i64 (h)) hbb (Nat.le_of_eq hg_.symm)); have Kg15 := Aside0.mk (slice_Owners.put2 (u := .int .i64 (l)) (v := .int .i64 (h)) hbox); obtain ⟨b1, b2, b3, b4⟩ := slice_Owners.cell2 hbox; clear hg_ hbox hbb))
              replace IV := Aside0.mk (IV.out.below BX.out)
              replace Kg9 := Aside0.mk (blk_below Kg9.out BX.out)
              replace Kg11 := Aside0.mk (blk_below Kg11.out BX.out)
              generalize hW_ : ((wb.setCell ⟨g15, 0, none⟩ (.int .i64 (l))).setCell ⟨g15, 1, none⟩ (.int .i64 (h))) = W15 at *
              clear hW_ BX b1 b2 b3 b4 x1 x2 y1 y2
              obtain ⟨x1, x2, _, _⟩ := slice_Owners.cell2 Kg15.out
              go_wp2_with (first
                | ((with_reducible refine gate_dst (N := 68) rfl ?_); refine slice_Owners.box68 ?hg (N := 68) ?hd (v := v) ?hr ?_; (case hd => rfl); (case hg => rfl); (case hr => first | (go_simp; done) | (go_simp; rfl)); intro g68 w68 hcell hbb; replace IV := Aside0.mk (IV.out.below hbb); replace Kg9 := Aside0.mk (blk_below Kg9.out hbb); replace Kg11 := Aside0.mk (blk_below Kg11.out hbb); obtain ⟨st, W1, ob, hme, ho1, hob, hst⟩ := slice_Owners.entry IV.out.2.2.2.2.1 (by have := IV.out.2.2.2.2.2.2; have := HX.out; have := HB.out; have := HN.out; have := HV1.out; unfold maxLen; omega) (p := l) (i := h) (slice_Owners.wfs (by have := HX.out; have := HB.out; omega) (by have := HX.out; have := HB.out; omega)) (slice_Owners.wfs (by have := HX.out; have := HB.out; omega) (by have := HX.out; have := HB.out; omega)) (IV.out.2.2.2.2.2.1.no HA.out hv0 HV1.out HB.out.1 HB.out.2.1 HB.out.2.2.1 HB.out.2.2.2); obtain ⟨cap, cs, happ, hcs⟩ := slice_Owners.app W1 g68 1 v (hcell W1 gm ho1 ⟨_, _, IV.out.2.2.2.2.1⟩); obtain ⟨W3, hes, ho3, hg3⟩ := hst (W1.drew.alloc (.cells cs 3)) W1.heap.size cap ((heap_alloc_old W1.drew _ (show gm < W1.heap.size from Nat.lt_of_lt_of_le IV.out.2.2.2.2.1.lt ho1.size)).trans hob); replace hes : (Instr.entryStore 45 (.map (some gm)) (.int .i64 (st : Int)) (.slice (some ⟨W1.heap.size, 0, none⟩) 1 cap)).run Try.prog (W1.alloc (.cells cs 3)).drew = .ok () W3 := hes; have UP := Aside0.mk (IV.out.upd HA.out hv0 HV1.out HB.out.1 HB.out.2.1 HB.out.2.2.1 HB.out.2.2.2 ho1 hg3 ho3 hcs); clear hcell hbb ho1 hob hst hcs ho3 hg3)
                | (at_builtin; refine slice_Owners.wpapp rfl _ _ 47 rfl _ _ rfl rfl happ ?_))
              go_roundg m3
              case measure => omega
              case rel => exact ⟨h + 1, n + 1, _, by first | rfl | rw [hw], ⟨by have := HH.out; omega⟩, ⟨UP.out.1⟩, ⟨UP.out.2 _ _ _ Kg9.out⟩, ⟨UP.out.2 _ _ _ Kg11.out⟩⟩
theorem slice_Owners.look {ops : Array Oper} {rest : List Oper} {o : Oper} {a : Act} {Q : Exit → Act → World → Prop} {W : World} (hg : o.guard = none) (m x : Operand) (hop : o.op = Op.lookup 45 m x false) (b n : Nat) (D : DataW Unit) (p i : Int) (g c : Nat) (hm : a.eval m = .map (some b)) (hown : W.ownsMap Try.prog 29 slice_Owners.R b n D) (hx : a.eval x = .agg #[.int .i64 p, .int .i64 i]) (hp : (Lit.int .i64 p).wf = true) (hi : (Lit.int .i64 i).wf = true) (hat : ∀ z, D.atKey (slice_Owners.ky p i) z = slice_Owners.el g c)
    (hK : wpList Try.prog ops Q rest (a.put o.dst (.slice (some ⟨g, 0, none⟩) 1 c)) W) : wpList Try.prog ops Q (o :: rest) a W := by
  refine wpList_plain hg fun K' hK' => ?_
  obtain ⟨v, ps, hrun, hv⟩ := hown.lookup slice_Owners.law slice_Owners.u45 (slice_Owners.zero W) slice_Owners.R_nil (slice_Owners.key p i hp hi)
  rw [hat] at hv
  rw [slice_Owners.R_inv hv] at hrun
  unfold Oper.wp
  simp [execOp, hop, hm, hx, hrun, Result.andThen]
  exact hK' _ _ hK
/-- what the law needs of a shape and a cut -/
structure pelotonlaw10_SliceOwns.Cond (s0 s1 s2 s3 s4 s5 c0 c1 : Int) (G : slice_Owners.Geo) (LX IX : Int → Int) : Prop where
  workers : slice_Workers.f s0 s1 s2 s3 s4 s5 c0 c1 = some G.N
  nowork : slice_Workers.f s0 s1 s2 s3 s4 s5 0 0 = some 0
  shape : 0 ≤ s0 ∧ s0 ≤ 16 ∧ 0 ≤ s2 ∧ s2 ≤ 16 ∧ 0 ≤ s3 ∧ s3 ≤ 300 ∧ 0 ≤ c0 ∧ c0 ≤ 64 ∧ 0 ≤ c1 ∧ c1 ≤ 64
  count : G.N = c0 * c1 ∧ 0 ≤ G.N ∧ G.N ≤ 64
  spans : ∀ u, 0 ≤ u → u < G.N → slice_Where.f c0 c1 u = some (G.I u, G.J u, true) ∧ slice_Layers.f s0 s1 s2 s3 s4 s5 c0 c1 (G.I u) = some (G.X0 u, G.X1 u, 0) ∧ slice_Heads.f s0 s1 s2 s3 s4 s5 c0 c1 (G.J u) = some (G.Y0 u, G.Y1 u, 0)
  apart : slice_Owners.Apart G
  sum : G.Sz G.N = s0 * s2
  held : ∀ l h, 0 ≤ l → l < s0 → 0 ≤ h → h < s2 → ∃ u, 0 ≤ u ∧ u < G.N ∧ slice_Owners.In G u l h
  owns : ∀ u, 0 ≤ u → u < G.N → ∃ l h, 0 ≤ l ∧ l < s0 ∧ 0 ≤ h ∧ h < s2 ∧ slice_Owners.In G u l h
  layers : LX 0 = 0 ∧ LX c0 = s0 ∧ ∀ i, 0 ≤ i → i < c0 → slice_Layers.f s0 s1 s2 s3 s4 s5 c0 c1 i = some (LX i, LX (i + 1), 0) ∧ LX i < LX (i + 1)
  inner : IX 0 = 0 ∧ IX c1 = s3 ∧ ∀ i, 0 ≤ i → i < c1 → slice_Inner.f s0 s1 s2 s3 s4 s5 c0 c1 i = some (IX i, IX (i + 1), 0) ∧ IX i < IX (i + 1)
/-- the counts behind the rounds up to (l, h) -/
def pelotonlaw10_SliceOwns.Has (G : slice_Owners.Geo) (s2 : Int) (xs : List Int) (l h : Int) : Prop :=
  (xs.length : Int) = G.N ∧ (∀ u : Int, 0 ≤ u → u < G.N → 0 ≤ rd xs u ∧ rd xs u ≤ 300 * l + h) ∧ ∀ u q j : Int, 0 ≤ u → u < G.N → 0 ≤ q → 0 ≤ j → j < s2 → (q < l ∨ (q = l ∧ j < h)) → slice_Owners.In G u q j → 1 ≤ rd xs u
theorem pelotonlaw10_SliceOwns.Has.zero (G : slice_Owners.Geo) (s2 : Int) (n : Nat) (hn : (n : Int) = G.N) : pelotonlaw10_SliceOwns.Has G s2 (List.replicate n 0) 0 0 := by
  have hz : ∀ u : Int, rd (List.replicate n 0) u = 0 := by
    intro u
    unfold rd
    rw [List.getD_eq_getElem?_getD, List.getElem?_replicate]
    split <;> rfl
  refine ⟨by rw [List.length_replicate]; exact hn, fun u _ _ => by rw [hz]; omega, fun u q j _ _ _ _ _ h5 _ => by omega⟩
theorem pelotonlaw10_SliceOwns.Has.turn {G : slice_Owners.Geo} {s2 : Int} {xs : List Int} {l : Int} (H : pelotonlaw10_SliceOwns.Has G s2 xs l s2) (h0 : 0 ≤ s2) (h1 : s2 ≤ 300) : pelotonlaw10_SliceOwns.Has G s2 xs (l + 1) 0 :=
  ⟨H.1, fun u a b => by have := H.2.1 u a b; omega, fun u q j a b c d e f g => H.2.2 u q j a b c d e (by omega) g⟩
theorem pelotonlaw10_SliceOwns.Has.put {G : slice_Owners.Geo} {s2 : Int} {xs : List Int} {l h : Int} (hA : slice_Owners.Apart G) (H : pelotonlaw10_SliceOwns.Has G s2 xs l h) {u0 : Int} (a0 : 0 ≤ u0) (a1 : u0 < G.N) (hin : slice_Owners.In G u0 l h) : pelotonlaw10_SliceOwns.Has G s2 (xs.set u0.toNat (rd xs u0 + 1)) l (h + 1) := by
  have hlen : u0.toNat < xs.length := by have := H.1; omega
  have hrd : ∀ u : Int, 0 ≤ u → rd (xs.set u0.toNat (rd xs u0 + 1)) u = if u = u0 then rd xs u0 + 1 else rd xs u := by
    intro u hu
    by_cases he : u = u0
    · subst he
      rw [if_pos rfl]
      show (xs.set u.toNat (rd xs u + 1)).getD u.toNat 0 = _
      rw [List.getD_eq_getElem?_getD, List.getElem?_set_self hlen]
      rfl
    · rw [if_neg he]
      show (xs.set u0.toNat (rd xs u0 + 1)).getD u.toNat 0 = xs.getD u.toNat 0
      rw [List.getD_eq_getElem?_getD, List.getD_eq_getElem?_getD, List.getElem?_set_ne (by omega)]
  refine ⟨by rw [List.length_set]; exact H.1, fun u b0 b1 => ?_, fun u q j b0 b1 b2 b3 b4 b5 b6 => ?_⟩
  · rw [hrd u b0]
    have h2 := H.2.1 u b0 b1
    have h3 := H.2.1 u0 a0 a1
    split <;> omega
  · rw [hrd u b0]
    have h3 := H.2.1 u0 a0 a1
    by_cases he : u = u0
    · rw [if_pos he]; omega
    · rw [if_neg he]
      refine H.2.2 u q j b0 b1 b2 b3 b4 ?_ b6
      rcases b5 with b5 | ⟨rfl, b5⟩
      · exact Or.inl b5
      · by_cases hj : j = h
        · subst hj
          exact (he (hA.2.1 u u0 q j b0 b1 a0 a1 b6 hin)).elim
        · exact Or.inr ⟨rfl, by omega⟩
theorem slice_Owners.put6 {w : World} {g t : Nat} {a b c d e f a' b' c' d' e' f' : Value} (h : w.heap[g]? = some (.cells #[a, b, c, d, e, f] t (0, 0))) : ((((((w.setCell ⟨g, 0, none⟩ a').setCell ⟨g, 1, none⟩ b').setCell ⟨g, 2, none⟩ c').setCell ⟨g, 3, none⟩ d').setCell ⟨g, 4, none⟩ e').setCell ⟨g, 5, none⟩ f').heap[g]? = some (.cells #[a', b', c', d', e', f'] t (0, 0)) :=
  blk_put (cs := #[a', b', c', d', e', f]) (blk_put (cs := #[a', b', c', d', e, f]) (blk_put (cs := #[a', b', c', d, e, f]) (blk_put (cs := #[a', b', c, d, e, f]) (blk_put (cs := #[a', b, c, d, e, f]) (blk_put h 0 a' rfl) 1 b' rfl) 2 c' rfl) 3 d' rfl) 4 e' rfl) 5 f' rfl
theorem slice_Owners.below6 {w W : World} {g : Nat} {a' b' c' d' e' f' : Value} (h : Below w.heap.size w W) (hg : w.heap.size ≤ g) : Below w.heap.size w ((((((W.setCell ⟨g, 0, none⟩ a').setCell ⟨g, 1, none⟩ b').setCell ⟨g, 2, none⟩ c').setCell ⟨g, 3, none⟩ d').setCell ⟨g, 4, none⟩ e').setCell ⟨g, 5, none⟩ f') := below_set (below_set (below_set (below_set (below_set (below_set h hg) hg) hg) hg) hg) hg
theorem slice_Owners.frz6 {w : World} {g t : Nat} {a b c d e f : Value} (h : w.heap[g]? = some (.cells #[a, b, c, d, e, f] t (0, 0))) : w.frozen? ⟨g, 0, none⟩ = false ∧ w.frozen? ⟨g, 1, none⟩ = false ∧ w.frozen? ⟨g, 2, none⟩ = false ∧ w.frozen? ⟨g, 3, none⟩ = false ∧ w.frozen? ⟨g, 4, none⟩ = false ∧ w.frozen? ⟨g, 5, none⟩ = false :=
  ⟨blk_frozen h 0, blk_frozen h 1, blk_frozen h 2, blk_frozen h 3, blk_frozen h 4, blk_frozen h 5⟩
/-- the law's state -/
def pelotonlaw10_SliceOwns.St (w W : World) (G : slice_Owners.Geo) (sa sb : Array Value) (g7 g8 gm n : Nat) (D : DataW Unit) : Prop :=
  Below w.heap.size w W ∧ W.heap[g7]? = some (.cells sa 23 (0, 0)) ∧ W.heap[g8]? = some (.cells sb 25 (0, 0)) ∧ W.ownsMap Try.prog 29 slice_Owners.R gm n D ∧ slice_Owners.Tb G W D G.N (G.X0 G.N) (G.Y0 G.N)
theorem pelotonlaw10_SliceOwns.St.below {w W W' : World} {G : slice_Owners.Geo} {sa sb : Array Value} {g7 g8 gm n : Nat} {D : DataW Unit} (H : pelotonlaw10_SliceOwns.St w W G sa sb g7 g8 gm n D) (hb : Below W.heap.size W W') : pelotonlaw10_SliceOwns.St w W' G sa sb g7 g8 gm n D :=
  ⟨below_step H.1 hb, blk_below H.2.1 hb, blk_below H.2.2.1 hb, slice_Owners.own_below H.2.2.2.1 hb, H.2.2.2.2.keep (fun g cs e => blk_below e hb)⟩
/-- the counts' state behind the make, at which the world was W0 -/
def pelotonlaw10_SliceOwns.Lv (W0 W : World) (Ao : Option Addr) (ys : List Int) (co : Nat) (xs : List Int) : Prop :=
  Below W0.heap.size W0 W ∧ Kd.R (Kd.int .i64) 3 W W0.heap.size (fun _ => True) (.slice Ao ys.length co) xs ∧ xs.length = ys.length
theorem pelotonlaw10_SliceOwns.Lv.below {W0 W W' : World} {Ao : Option Addr} {ys xs : List Int} {co : Nat} (H : pelotonlaw10_SliceOwns.Lv W0 W Ao ys co xs) (hb : Below W.heap.size W W') : pelotonlaw10_SliceOwns.Lv W0 W' Ao ys co xs :=
  ⟨below_step H.1 hb, Kd.R_below H.2.1 hb, H.2.2⟩
theorem pelotonlaw10_SliceOwns.Lv.put {W0 W : World} {go : Nat} {ys xs : List Int} {co : Nat} (H : pelotonlaw10_SliceOwns.Lv W0 W (some ⟨go, 0, none⟩) ys co xs) (u x : Int) (h0 : 0 ≤ u) (h1 : u < (ys.length : Int)) : pelotonlaw10_SliceOwns.Lv W0 (W.setCell ⟨go, u.toNat, none⟩ (.int .i64 x)) (some ⟨go, 0, none⟩) ys co (xs.set u.toNat x) := by
  have hg := Kd.R_putg H.2.1 u x
  have hp : 0 < xs.length := by have := H.2.2; omega
  obtain ⟨go', co', e, hb, hl, _⟩ := Kd.R_form H.2.1 hp
  injection e with e1 e2 e3
  injection e1 with e1
  injection e1 with e1
  subst e1
  exact ⟨below_set H.1 hb, hg.1, by rw [List.length_set]; exact H.2.2⟩
theorem pelotonlaw10_SliceOwns.held18 {w W0 W : World} {G : slice_Owners.Geo} {sa : Array Value} {c1 c2 u : Int} {g7 g8 gm n g : Nat} {D : DataW Unit} {cs : Array Value} (SV : pelotonlaw10_SliceOwns.St w W0 G sa #[.int .i64 c1, .int .i64 c2] g7 g8 gm n D) (hg : W0.heap[g]? = some (.cells cs 3 (0, 0))) (hc : cs[0]? = some (.int .i64 u)) (hb : Below W0.heap.size W0 W) :
    W.cell? ⟨g8, 0, none⟩ = some (.int .i64 c1) ∧ W.cell? ⟨g8, 1, none⟩ = some (.int .i64 c2) ∧ W.cell? ⟨g, 0, none⟩ = some (.int .i64 u) :=
  ⟨(slice_Owners.cell2 (SV.below hb).2.2.1).1, (slice_Owners.cell2 (SV.below hb).2.2.1).2.1, (blk_cell (blk_below hg hb) 0).trans hc⟩
noncomputable def pelotonlaw10_SliceOwns.f (k : Nat) (n0 n1 n2 n3 n4 n5 a b : Int) : Option Bool :=
  pelotonlaw10_awake.f.bind fun t => if t = true then (pelotonref07_Tiny.f n0 n1 n2 n3 n4 n5).bind fun s => (pelotonref10_Cut.f k s.1 s.2.1 s.2.2.1 s.2.2.2.1 s.2.2.2.2.1 s.2.2.2.2.2 a b).bind fun c =>
    (open Classical in if ∃ G LX IX, pelotonlaw10_SliceOwns.Cond s.1 s.2.1 s.2.2.1 s.2.2.2.1 s.2.2.2.2.1 s.2.2.2.2.2 c.1 c.2 G LX IX then some true else none) else some false
def pelotonlaw10_SliceOwns.T18 : Bool × List (List Nat × List Nat) := (true, [([], []), ([], []), ([1], [1]), ([2], [2]), ([0, 3], [0, 3]), ([4], [4]), ([5], [5]), ([5], [5]), ([], []), ([8, 6, 4, 0, 1, 2, 3, 4, 5, 6, 8], [6, 8]), ([7, 9, 0, 1, 2, 3, 4, 5, 6, 7, 8, 9], [7])])
def pelotonlaw10_SliceOwns.B18 : List Nat := [0, 0, 2, 6, 15, 31, 63, 63, 0, 383, 1023]
theorem pelotonlaw10_SliceOwns.tab18 : rtab .any (opsOf Try.f6 18) = pelotonlaw10_SliceOwns.T18 := by kernel_rfl
theorem pelotonlaw10_SliceOwns.bits18 : waitsOk pelotonlaw10_SliceOwns.T18.2 pelotonlaw10_SliceOwns.B18 = true := by kernel_rfl
def pelotonlaw10_SliceOwns.G0 : slice_Owners.Geo := ⟨0, fun _ => 0, fun _ => 0, fun _ => 0, fun _ => 0, fun _ => 0, fun _ => 0, fun _ => 0⟩
theorem pelotonlaw10_SliceOwns.apart0 : slice_Owners.Apart pelotonlaw10_SliceOwns.G0 :=
  ⟨fun u h0 h1 => absurd h1 (by show ¬ u < 0; omega), fun u u' q j h0 h1 => absurd h1 (by show ¬ u < 0; omega), rfl, fun u h0 h1 => absurd h1 (by show ¬ u < 0; omega)⟩
theorem pelotonlaw10_SliceOwns.size0 {W : World} {D : DataW Unit} (h : slice_Owners.Tb pelotonlaw10_SliceOwns.G0 W D pelotonlaw10_SliceOwns.G0.N (pelotonlaw10_SliceOwns.G0.X0 pelotonlaw10_SliceOwns.G0.N) (pelotonlaw10_SliceOwns.G0.Y0 pelotonlaw10_SliceOwns.G0.N)) : (Maps.size D : Int) = 0 := h.2.2.2
set_option maxHeartbeats 8000000 in
set_option maxRecDepth 100000 in
theorem pelotonlaw10_SliceOwns.calls (k : Nat) (n0 n1 n2 n3 n4 n5 a b : Int) (r : Bool) (w : World) (h : pelotonlaw10_SliceOwns.f k n0 n1 n2 n3 n4 n5 a b = some r) :
    Calls Try.prog 6 #[.agg #[.int .i64 n0, .int .i64 n1, .int .i64 n2, .int .i64 n3, .int .i64 n4, .int .i64 n5], .int .i64 a, .int .i64 b] w fun e w' => e = .returned (.bool r) ∧ Below w.heap.size w w' := by
  have hu23 := Try.underlying23
  have hu25 := Try.underlying25
  have hu29 := Try.underlying29
  have hu35 := Try.underlying35
  unfold pelotonlaw10_SliceOwns.f at h
  obtain ⟨t, h1, h2⟩ := Option.bind_eq_some_iff.1 h
  have EA := Aside0.mk h1
  clear h h1
  cases t with
  | false =>
    obtain rfl : false = r := by simpa using h2
    clear h2
    go_enter Try.func6, Try.ntmps6
    go_wp2_with (first | ((with_reducible refine gate_dst (N := 3) rfl ?_); refine box_event ?hg (N := 3) ?hd (cs := #[.int .i64 n0, .int .i64 n1, .int .i64 n2, .int .i64 n3, .int .i64 n4, .int .i64 n5]) (t := 35) ?hr ?_; (case hd => rfl); (case hg => rfl); (case hr => first | (go_simp; done) | (go_simp; rfl)); intro g3 hg_ wb hbox hbb; have HB := Aside0.mk hbb; have K3 := Aside0.mk hbox; clear hg_ hbox hbb) | (go_at_call 7; (refine (pelotonlaw10_awake.calls _ _ EA.out).mono ?_); rintro e wa ⟨rfl, hb⟩; replace HB := Aside0.mk (below_step HB.out hb); replace K3 := Aside0.mk (blk_below K3.out hb); clear hb EA))
    go_ret
    exact ⟨rfl, HB.out⟩
  | true =>
    rw [if_pos rfl] at h2
    obtain ⟨⟨s1, s2, s3, s4, s5, s6⟩, e1, h3⟩ := Option.bind_eq_some_iff.1 h2
    obtain ⟨⟨c1, c2⟩, e2, h4⟩ := Option.bind_eq_some_iff.1 h3
    dsimp only at e2 h4
    have ET := Aside0.mk e1
    have EC := Aside0.mk e2
    clear h2 h3 e1 e2
    by_cases hc : ∃ G LX IX, pelotonlaw10_SliceOwns.Cond s1 s2 s3 s4 s5 s6 c1 c2 G LX IX
    · rw [if_pos hc] at h4
      obtain rfl : true = r := Option.some.inj h4
      clear h4
      obtain ⟨G, LX, IX, hc⟩ := hc
      have HC := Aside0.mk hc
      clear hc
      go_enter Try.func6, Try.ntmps6
      go_upto_region 3 with (first | ((with_reducible refine gate_dst (N := 3) rfl ?_); refine box_event ?hg (N := 3) ?hd (cs := #[.int .i64 n0, .int .i64 n1, .int .i64 n2, .int .i64 n3, .int .i64 n4, .int .i64 n5]) (t := 35) ?hr ?_; (case hd => rfl); (case hg => rfl); (case hr => first | (go_simp; done) | (go_simp; rfl)); intro g3 hg_ wb hbox hbb; have HB := Aside0.mk hbb; have K3 := Aside0.mk hbox; clear hg_ hbox hbb) | (go_at_call 7; (refine (pelotonlaw10_awake.calls _ _ EA.out).mono ?_); rintro e wa ⟨rfl, hb⟩; replace HB := Aside0.mk (below_step HB.out hb); replace K3 := Aside0.mk (blk_below K3.out hb); clear hb EA))
      obtain ⟨x1, x2, x3, x4, x5, x6⟩ := slice_Owners.cell6 K3.out
      go_upto_region 4 with (first | (go_at_call 15; (refine (pelotonref07_Tiny.calls n0 n1 n2 n3 n4 n5 _ _ _ _ _ _ _ ET.out).mono ?_); rintro e wt ⟨rfl, hb⟩; replace HB := Aside0.mk (below_step HB.out hb); clear hb ET K3) | ((with_reducible refine gate_dst (N := 7) rfl ?_); refine box_event ?hg (N := 7) ?hd (cs := #[.int .i64 0, .int .i64 0, .int .i64 0, .int .i64 0, .int .i64 0, .int .i64 0]) (t := 23) ?hr ?_; (case hd => rfl); (case hg => rfl); (case hr => first | (go_simp; done) | (go_simp; rfl)); intro g7 hg_ wb hbox hbb; have BX := Aside0.mk (slice_Owners.below6 (a' := .int .i64 s1) (b' := .int .i64 s2) (c' := .int .i64 s3) (d' := .int .i64 s4) (e' := .int .i64 s5) (f' := .int .i64 s6) hbb (Nat.le_of_eq hg_.symm)); have K7 := Aside0.mk (slice_Owners.put6 (a' := .int .i64 s1) (b' := .int .i64 s2) (c' := .int .i64 s3) (d' := .int .i64 s4) (e' := .int .i64 s5) (f' := .int .i64 s6) hbox); obtain ⟨b1, b2, b3, b4, b5, b6⟩ := slice_Owners.cell6 hbox; obtain ⟨d1, d2, d3, d4, d5, d6⟩ := slice_Owners.frz6 hbox; clear hg_ hbox hbb))
      replace HB := Aside0.mk (below_step HB.out BX.out)
      generalize hW_ : ((((((wb.setCell ⟨g7, 0, none⟩ (.int .i64 s1)).setCell ⟨g7, 1, none⟩ (.int .i64 s2)).setCell ⟨g7, 2, none⟩ (.int .i64 s3)).setCell ⟨g7, 3, none⟩ (.int .i64 s4)).setCell ⟨g7, 4, none⟩ (.int .i64 s5)).setCell ⟨g7, 5, none⟩ (.int .i64 s6)) = W7 at *
      clear hW_ BX b1 b2 b3 b4 b5 b6 d1 d2 d3 d4 d5 d6 x1 x2 x3 x4 x5 x6
      obtain ⟨x1, x2, x3, x4, x5, x6⟩ := slice_Owners.cell6 K7.out
      go_upto_region 5 with (first | (go_at_call 16; (refine (pelotonref10_Cut.calls k s1 s2 s3 s4 s5 s6 a b _ _ _ EC.out).mono ?_); rintro e wt ⟨rfl, hb⟩; replace HB := Aside0.mk (below_step HB.out hb); replace K7 := Aside0.mk (blk_below K7.out hb); clear hb EC) | ((with_reducible refine gate_dst (N := 8) rfl ?_); refine box_event ?hg (N := 8) ?hd (cs := #[.int .i64 0, .int .i64 0]) (t := 25) ?hr ?_; (case hd => rfl); (case hg => rfl); (case hr => first | (go_simp; done) | (go_simp; rfl)); intro g8 hg_ wb hbox hbb; have BX := Aside0.mk (slice_Owners.below2 (u := .int .i64 c1) (v := .int .i64 c2) hbb (Nat.le_of_eq hg_.symm)); have K8 := Aside0.mk (slice_Owners.put2 (u := .int .i64 c1) (v := .int .i64 c2) hbox); obtain ⟨b1, b2, b3, b4⟩ := slice_Owners.cell2 hbox; clear hg_ hbox hbb))
      replace HB := Aside0.mk (below_step HB.out BX.out)
      replace K7 := Aside0.mk (blk_below K7.out BX.out)
      generalize hW_ : ((wb.setCell ⟨g8, 0, none⟩ (.int .i64 c1)).setCell ⟨g8, 1, none⟩ (.int .i64 c2)) = W8 at *
      clear hW_ BX b1 b2 b3 b4 x1 x2 x3 x4 x5 x6
      obtain ⟨x1, x2, x3, x4, x5, x6⟩ := slice_Owners.cell6 K7.out
      obtain ⟨y1, y2, _, _⟩ := slice_Owners.cell2 K8.out
      go_upto_region 6 with (first | (go_at_call 20; (refine (slice_Owners.good G s1 s2 s3 s4 s5 s6 c1 c2 _ HC.out.workers HC.out.count.2 HC.out.spans HC.out.apart).mono ?_); rintro e wo ⟨gm, n, D, rfl, hb, ho, hT⟩; have SV := Aside0.mk (show pelotonlaw10_SliceOwns.St w wo G #[.int .i64 s1, .int .i64 s2, .int .i64 s3, .int .i64 s4, .int .i64 s5, .int .i64 s6] #[.int .i64 c1, .int .i64 c2] g7 g8 gm n D from ⟨below_step HB.out hb, blk_below K7.out hb, blk_below K8.out hb, ho, hT⟩); clear hb ho hT HB K7 K8))
      have hlen := SV.out.2.2.2.1.len slice_Owners.u45 3
      have hsz : (Maps.size D : Int) = s1 * s3 := by
        have h1 := SV.out.2.2.2.2.2.2.2
        rw [Int.sub_self (G.X0 G.N), Int.zero_mul, HC.out.sum] at h1
        omega
      rw [hsz] at hlen
      clear hsz
      have hw : IntKind.i64.wrap (s1 * s3) = s1 * s3 := by
        have h := HC.out.shape
        have e1 : s1 * s3 ≤ 16 * 16 := Int.mul_le_mul h.2.1 h.2.2.2.1 h.2.2.1 (by omega)
        have e2 := Int.mul_nonneg h.1 h.2.2.1
        rw [i64_w]; unfold wrap64; omega
      clear x1 x2 x3 x4 x5 x6 y1 y2
      obtain ⟨x1, x2, x3, x4, x5, x6⟩ := slice_Owners.cell6 SV.out.2.1
      go_upto_region 8 with (first | (go_at_call 20; (refine (slice_Owners.good pelotonlaw10_SliceOwns.G0 s1 s2 s3 s4 s5 s6 0 0 _ HC.out.nowork ⟨by decide, by decide⟩ (fun u h0 h1 => absurd h1 (by show ¬ u < 0; omega)) pelotonlaw10_SliceOwns.apart0).mono ?_); rintro e wp ⟨gq, nq_, Dq, rfl, hb, ho, hT⟩; have hl2 := ho.len slice_Owners.u45 3; rw [pelotonlaw10_SliceOwns.size0 hT] at hl2; replace SV := Aside0.mk (SV.out.below hb); clear hb ho hT))
      clear hlen hw hl2 x1 x2 x3 x4 x5 x6
      obtain ⟨y1, y2, _, _⟩ := slice_Owners.cell2 SV.out.2.2.1
      have hw : IntKind.i64.wrap (c1 * c2) = G.N := by
        have h := HC.out.count
        rw [i64_w, ← h.1]; unfold wrap64; omega
      go_upto_region 9 with (first | ((with_reducible refine gate_dst (N := 60) rfl ?_); refine Kd.R_make (Kd.int .i64) _ 3 rfl (N := 60) rfl 47 _ _ rfl G.N rfl rfl slice_Owners.u47 (.int .i64 0) 8 slice_Owners.info3 rfl (by decide) (by omega) 0 (ok := fun _ => True) (okp := fun _ => True) rfl (fun _ hk => hk) trivial (by have := HC.out.count; omega) (by have := HC.out.count; omega) (Below.refl _ _) (Nat.le_refl _) ?_; intro v60 w60 ho hb hg_ hnew_; clear hg_ hnew_; have HO := Aside0.mk ho; have BW := Aside0.mk hb; clear ho hb))
      clear hw y1 y2
      have HS := Aside0.mk (pelotonlaw10_SliceOwns.Has.zero G s3 G.N.toNat (by have := HC.out.count; omega))
      obtain ⟨ys, hys⟩ : ∃ ys, ys = List.replicate G.N.toNat (0 : Int) := ⟨_, rfl⟩
      rw [← hys] at HO HS
      clear hys
      obtain ⟨Ao, co, eo⟩ := Kd.R_slice HO.out
      subst eo
      have HLY := Aside0.mk HS.out.1
      obtain ⟨x1, x2, x3, x4, x5, x6⟩ := slice_Owners.cell6 (SV.out.below BW.out).2.1
      go_wp2
      clear x1 x2 x3 x4 x5 x6
      go_loopg [11] s1.toNat (fun m v11 W => ∃ (l : Int) (xs : List Int), v11 = .int .i64 l ∧ 0 ≤ l ∧ Aside0 (l + m = s1) ∧ Aside0 (pelotonlaw10_SliceOwns.Lv wp W Ao ys co xs) ∧ Aside0 (pelotonlaw10_SliceOwns.Has G s3 xs l 0))
      case atStart => exact ⟨0, ys, rfl, by omega, ⟨by have := HC.out.shape; omega⟩, ⟨BW.out, HO.out, rfl⟩, HS⟩
      case round =>
        clear BW HO HS
        obtain ⟨l, xs, rfl, hl0, HL, LV, HS⟩ := hrel
        obtain ⟨x1, x2, x3, x4, x5, x6⟩ := slice_Owners.cell6 (SV.out.below LV.out.1).2.1
        cases gk with
        | zero =>
          have q1 : decide (l < s1) = false := decide_eq_false (by have := HL.out; omega)
          have HG := Aside0.mk (show ∀ u : Int, 0 ≤ u → u < (ys.length : Int) → 1 ≤ rd xs u from fun u h0 h1 => by
            obtain ⟨l', h', a, b, c, d, e⟩ := HC.out.owns u h0 (by have := HLY.out; omega)
            exact HS.out.2.2 u l' h' h0 (by have := HLY.out; omega) a c d (Or.inl (by have := HL.out; omega)) e)
          clear HS
          go_wp2
          clear x1 x2 x3 x4 x5 x6
          go_loopg [20] ys.length (fun m v20 W => ∃ i : Int, v20 = .int .i64 i ∧ 0 ≤ i ∧ Aside0 (i + m = (ys.length : Int)) ∧ Aside0 (pelotonlaw10_SliceOwns.Lv wp W Ao ys co xs))
          case atStart => exact ⟨0, rfl, by omega, ⟨by omega⟩, LV⟩
          case round =>
            clear LV
            obtain ⟨i, rfl, hi0, HI, LV⟩ := hrel
            cases gk with
            | succ m =>
              have q2 : decide (i < (ys.length : Int)) = true := decide_eq_true (by have := HI.out; omega)
              have p5 : decide (0 ≤ i) = true := decide_eq_true hi0
              have p9 : (0 ≤ i) = True := eq_true hi0
              have p10 : (i < (ys.length : Int)) = True := eq_true (of_decide_eq_true q2)
              have hn0 : 0 < xs.length := by have := LV.out.2.2; have := HI.out; omega
              obtain ⟨go, cg, eo, gb, gl, cl, hcl_⟩ := Kd.R_form LV.out.2.1 hn0
              have eo' : Ao = some ⟨go, 0, none⟩ := by injection eo
              clear eo hcl_
              subst eo'
              obtain ⟨hcl, hfz⟩ := Kd.R_celln 0 LV.out.2.1 i hi0 (of_decide_eq_true q2)
              have hbnd := HG.out i hi0 (of_decide_eq_true q2)
              obtain ⟨x, hX⟩ : ∃ x, rd xs i = x := ⟨_, rfl⟩
              replace hcl := (show _ = some (Value.int .i64 (rd xs i)) from hcl); rw [hX] at hcl hbnd
              have r1 : decide (x = 0) = false := decide_eq_false (by omega)
              have r0 : (x == 0) = false := beq_eq_false_iff_ne.2 (by omega)
              have HN := Aside0.mk (Kd.R_reads' LV.out.2.1).2.1
              have hw : IntKind.i64.wrap (i + 1) = i + 1 := by rw [i64_w]; have := HI.out; have := HC.out.count; have := HLY.out; unfold wrap64; omega
              clear hX hbnd
              go_wp2
              go_roundg m
              case measure => omega
              case rel => exact ⟨i + 1, by first | rfl | rw [hw], by omega, ⟨by have := HI.out; omega⟩, LV⟩
            | zero =>
              have q2 : decide (i < (ys.length : Int)) = false := decide_eq_false (by have := HI.out; omega)
              obtain ⟨y1, y2, _, _⟩ := slice_Owners.cell2 (SV.out.below LV.out.1).2.2.1
              go_wp2
              clear y1 y2
              go_loopg [21, 23] c1.toNat (fun m v21 v23 W => ∃ i : Int, v23 = .int .i64 i ∧ v21 = .int .i64 (LX i) ∧ 0 ≤ i ∧ Aside0 (i + m = c1) ∧ Aside0 (pelotonlaw10_SliceOwns.Lv wp W Ao ys co xs))
              case atStart => exact ⟨0, rfl, by rw [HC.out.layers.1], by omega, ⟨by have := HC.out.shape; omega⟩, LV⟩
              case round =>
                clear LV
                obtain ⟨i, rfl, rfl, hi0, HI, LV⟩ := hrel
                obtain ⟨x1, x2, x3, x4, x5, x6⟩ := slice_Owners.cell6 (SV.out.below LV.out.1).2.1; obtain ⟨y1, y2, _, _⟩ := slice_Owners.cell2 (SV.out.below LV.out.1).2.2.1
                cases gk with
                | succ m =>
                  have q3 : decide (i < c1) = true := decide_eq_true (by have := HI.out; omega)
                  have HY := Aside0.mk (HC.out.layers.2.2 i hi0 (of_decide_eq_true q3))
                  have hw : IntKind.i64.wrap (i + 1) = i + 1 := by rw [i64_w]; have := HI.out; have := HC.out.shape; unfold wrap64; omega
                  have r2 : decide (LX (i + 1) ≤ LX i) = false := decide_eq_false (by have := HY.out.2; omega)
                  go_upto_region 34 with (first | (go_at_call 11; (refine (slice_Layers.calls s1 s2 s3 s4 s5 s6 c1 c2 _ _ _ _ _ HY.out.1).mono ?_); rintro e wa ⟨rfl, hb⟩; replace LV := Aside0.mk (LV.out.below hb); clear hb) | ((with_reducible refine gate_dst (N := 24) rfl ?_); refine box_event ?hg (N := 24) ?hd (cs := #[.int .i64 0, .int .i64 0]) (t := 29) ?hr ?_; (case hd => rfl); (case hg => rfl); (case hr => first | (go_simp; done) | (go_simp; rfl)); intro g24 hg_ wb hbox hbb; have BX := Aside0.mk (slice_Owners.below2 (u := .int .i64 (LX i)) (v := .int .i64 (LX (i + 1))) hbb (Nat.le_of_eq hg_.symm)); have K24 := Aside0.mk (slice_Owners.put2 (u := .int .i64 (LX i)) (v := .int .i64 (LX (i + 1))) hbox); obtain ⟨b1, b2, b3, b4⟩ := slice_Owners.cell2 hbox; clear hg_ hbox hbb))
                  replace LV := Aside0.mk (LV.out.below BX.out)
                  generalize hW_ : ((wb.setCell ⟨g24, 0, none⟩ (.int .i64 (LX i))).setCell ⟨g24, 1, none⟩ (.int .i64 (LX (i + 1)))) = W24 at *
                  clear hW_ BX b1 b2 b3 b4 x1 x2 x3 x4 x5 x6 y1 y2
                  obtain ⟨x1, x2, _, _⟩ := slice_Owners.cell2 K24.out
                  go_wp2
                  go_roundg m
                  case measure => omega
                  case rel => exact ⟨i + 1, by first | rfl | rw [hw], rfl, by omega, ⟨by have := HI.out; omega⟩, LV⟩
                | zero =>
                  have q3 : decide (i < c1) = false := decide_eq_false (by have := HI.out; omega)
                  have hLX : LX i = s1 := by rw [← HC.out.layers.2.1]; congr 1; have := HI.out; omega
                  rw [hLX]
                  clear hLX
                  go_wp2
                  clear x1 x2 x3 x4 x5 x6 y1 y2
                  go_loopg [22, 26] c2.toNat (fun m v22 v26 W => ∃ i : Int, v26 = .int .i64 i ∧ v22 = .int .i64 (IX i) ∧ 0 ≤ i ∧ Aside0 (i + m = c2) ∧ Aside0 (pelotonlaw10_SliceOwns.Lv wp W Ao ys co xs))
                  case atStart => exact ⟨0, rfl, by rw [HC.out.inner.1], by omega, ⟨by have := HC.out.shape; omega⟩, LV⟩
                  case round =>
                    clear LV
                    obtain ⟨i, rfl, rfl, hi0, HI, LV⟩ := hrel
                    obtain ⟨x1, x2, x3, x4, x5, x6⟩ := slice_Owners.cell6 (SV.out.below LV.out.1).2.1; obtain ⟨y1, y2, _, _⟩ := slice_Owners.cell2 (SV.out.below LV.out.1).2.2.1
                    cases gk with
                    | succ m =>
                      have q3 : decide (i < c2) = true := decide_eq_true (by have := HI.out; omega)
                      have HY := Aside0.mk (HC.out.inner.2.2 i hi0 (of_decide_eq_true q3))
                      have hw : IntKind.i64.wrap (i + 1) = i + 1 := by rw [i64_w]; have := HI.out; have := HC.out.shape; unfold wrap64; omega
                      have r2 : decide (IX (i + 1) ≤ IX i) = false := decide_eq_false (by have := HY.out.2; omega)
                      go_upto_region 41 with (first | (go_at_call 13; (refine (slice_Inner.calls s1 s2 s3 s4 s5 s6 c1 c2 _ _ _ _ _ HY.out.1).mono ?_); rintro e wa ⟨rfl, hb⟩; replace LV := Aside0.mk (LV.out.below hb); clear hb) | ((with_reducible refine gate_dst (N := 27) rfl ?_); refine box_event ?hg (N := 27) ?hd (cs := #[.int .i64 0, .int .i64 0]) (t := 29) ?hr ?_; (case hd => rfl); (case hg => rfl); (case hr => first | (go_simp; done) | (go_simp; rfl)); intro g27 hg_ wb hbox hbb; have BX := Aside0.mk (slice_Owners.below2 (u := .int .i64 (IX i)) (v := .int .i64 (IX (i + 1))) hbb (Nat.le_of_eq hg_.symm)); have K27 := Aside0.mk (slice_Owners.put2 (u := .int .i64 (IX i)) (v := .int .i64 (IX (i + 1))) hbox); obtain ⟨b1, b2, b3, b4⟩ := slice_Owners.cell2 hbox; clear hg_ hbox hbb))
                      replace LV := Aside0.mk (LV.out.below BX.out)
                      generalize hW_ : ((wb.setCell ⟨g27, 0, none⟩ (.int .i64 (IX i))).setCell ⟨g27, 1, none⟩ (.int .i64 (IX (i + 1)))) = W27 at *
                      clear hW_ BX b1 b2 b3 b4 x1 x2 x3 x4 x5 x6 y1 y2
                      obtain ⟨x1, x2, _, _⟩ := slice_Owners.cell2 K27.out
                      go_wp2
                      go_roundg m
                      case measure => omega
                      case rel => exact ⟨i + 1, by first | rfl | rw [hw], rfl, by omega, ⟨by have := HI.out; omega⟩, LV⟩
                    | zero =>
                      have q3 : decide (i < c2) = false := decide_eq_false (by have := HI.out; omega)
                      have hIX : IX i = s4 := by rw [← HC.out.inner.2.1]; congr 1; have := HI.out; omega
                      rw [hIX]
                      clear hIX
                      have BE := Aside0.mk (below_step SV.out.1 LV.out.1)
                      go_wp2
                      go_ret
                      exact ⟨rfl, BE.out⟩
        | succ m =>
          have q1 : decide (l < s1) = true := decide_eq_true (by have := HL.out; omega)
          go_wp2
          clear x1 x2 x3 x4 x5 x6
          go_loopg [12] s3.toNat (fun m v12 W => ∃ (h : Int) (xs : List Int), v12 = .int .i64 h ∧ 0 ≤ h ∧ Aside0 (h + m = s3) ∧ Aside0 (pelotonlaw10_SliceOwns.Lv wp W Ao ys co xs) ∧ Aside0 (pelotonlaw10_SliceOwns.Has G s3 xs l h))
          case atStart => exact ⟨0, xs, rfl, by omega, ⟨by have := HC.out.shape; omega⟩, LV, HS⟩
          case round =>
            clear LV HS
            obtain ⟨h, xs, rfl, hh0, HH, LV, HS⟩ := hrel
            obtain ⟨x1, x2, x3, x4, x5, x6⟩ := slice_Owners.cell6 (SV.out.below LV.out.1).2.1
            cases gk with
            | zero =>
              have q2 : decide (h < s3) = false := decide_eq_false (by have := HH.out; omega)
              have hw : IntKind.i64.wrap (l + 1) = l + 1 := by rw [i64_w]; have := HL.out; have := HC.out.shape; unfold wrap64; omega
              go_wp2
              go_roundg m
              case measure => omega
              case rel =>
                have e : h = s3 := by have := HH.out; omega
                have hh := HS.out
                rw [e] at hh
                exact ⟨l + 1, xs, by first | rfl | rw [hw], by omega, ⟨by have := HL.out; omega⟩, LV, ⟨hh.turn (by have := HC.out.shape; omega) (by have := HC.out.shape; omega)⟩⟩
            | succ m2 =>
              have q2 : decide (h < s3) = true := decide_eq_true (by have := HH.out; omega)
              have hw : IntKind.i64.wrap (h + 1) = h + 1 := by rw [i64_w]; have := HH.out; have := HC.out.shape; unfold wrap64; omega
              obtain ⟨u, hu0, hu1, hin⟩ := HC.out.held l h hl0 (by have := HL.out; omega) hh0 (by have := HH.out; omega)
              obtain ⟨g, c, cs, e1, e2, e3⟩ := SV.out.2.2.2.2.2.2.1 u l h ⟨hu0, hin, Or.inl hu1⟩ hl0 (by have := HL.out; have := HC.out.shape; omega) hh0 (by have := HH.out; have := HC.out.shape; omega)
              have KG := Aside0.mk e2
              have z1 := (blk_cell (blk_below e2 LV.out.1) 0).trans e3
              have HU := Aside0.mk (show 0 ≤ u ∧ u < (ys.length : Int) ∧ u < G.N ∧ u < 64 from by have := HC.out.count; have := HLY.out; omega)
              have HI := Aside0.mk hin
              have HE := Aside0.mk e1
              have HD := Aside0.mk e3
              have HSP := Aside0.mk (HC.out.spans u hu0 hu1)
              clear e1 e2 e3 hin hu0 hu1
              have p1 : decide (u < 0) = false := decide_eq_false (by have := HU.out; omega)
              have p2 : decide (u ≥ (ys.length : Int)) = false := decide_eq_false (by have := HU.out; omega)
              have p3 : decide ((ys.length : Int) ≤ u) = false := decide_eq_false (by have := HU.out; omega)
              go_upto_region 18 with (first | (at_lookup; refine slice_Owners.look rfl _ _ rfl gm n D l h g c rfl (SV.out.below LV.out.1).2.2.2.1 rfl (slice_Owners.wfs hl0 (by have := HL.out; have := HC.out.shape; omega)) (slice_Owners.wfs hh0 (by have := HH.out; have := HC.out.shape; omega)) HE.out ?_))
              clear p1 p2 p3 x1 x2 x3 x4 x5 x6 z1
              have EW := HSP.out.1
              replace EW := Aside0.mk EW
              have BV := Aside0.mk (b_d LV.out.1)
              refine start_ (n := 11) (S := fun W_ => W_.cell? ⟨g8, 0, none⟩ = some (.int .i64 c1) ∧ W_.cell? ⟨g8, 1, none⟩ = some (.int .i64 c2) ∧ W_.cell? ⟨g, 0, none⟩ = some (.int .i64 u)) (ds := []) #[false, false, false, false, false, false, false, false, false, false, false] (by kernel_rfl) rfl rfl (pelotonlaw10_SliceOwns.held18 SV.out KG.out HD.out BV.out) (fun hHeld => ?_); refine with_tabW pelotonlaw10_SliceOwns.tab18 pelotonlaw10_SliceOwns.bits18 (fun HT_ HW_ => ?_)
              replace LV := Aside0.mk (show pelotonlaw10_SliceOwns.Lv _ _ Ao ys co xs from ⟨BV.out, Kd.R_drew LV.out.2.1, LV.out.2.2⟩)
              clear BV
              revert LV hHeld
              generalize World.drew _ = wv
              intro hHeld LV
              refine take_ (i := 0) (N := some 96) (v := ?_) (a' := ?_) #[true, false, false, false, false, false, false, false, false, false, false] rfl rfl (take_ofW HT_.out HW_.out (by kernel_rfl)) (fun _ _ _ h => h) (Or.inl ⟨by rfl, ?_⟩) hHeld ?_ ?_
              rotate_left
              ·
                rintro w' ⟨s0, s1, s2⟩
                go_simp
                with_reducible rfl
              rotate_left
              ·
                simp only [Act.put, l_1, l_2, l_3, i64_w, i32_w]
                rfl
              refine pure_ (i := 1) (N := some 97) (v := ?_) (a' := ?_) #[true, true, false, false, false, false, false, false, false, false, false] rfl rfl (any_of HT_.out (by kernel_rfl)) (fun _ _ _ h => h) (Or.inl ⟨by rfl, ?_⟩) ?_ ?_
              rotate_left
              ·
                intro w'
                go_simp
                with_reducible rfl
              rotate_left
              ·
                simp only [Act.put, l_1, l_2, l_3, i64_w, i32_w]
                rfl
              refine pure_ (i := 2) (N := some 98) (v := ?_) (a' := ?_) #[true, true, true, false, false, false, false, false, false, false, false] rfl rfl (any_of HT_.out (by kernel_rfl)) (fun _ _ _ h => h) (Or.inl ⟨by rfl, ?_⟩) ?_ ?_
              rotate_left
              ·
                intro w'
                go_simp
                with_reducible rfl
              rotate_left
              ·
                simp only [Act.put, l_1, l_2, l_3, i64_w, i32_w]
                rfl
              refine take_ (i := 3) (N := some 99) (v := ?_) (a' := ?_) #[true, true, true, true, false, false, false, false, false, false, false] rfl rfl (take_ofW HT_.out HW_.out (by kernel_rfl)) (fun _ _ _ h => h) (Or.inl ⟨by rfl, ?_⟩) hHeld ?_ ?_
              rotate_left
              ·
                rintro w' ⟨s0, s1, s2⟩
                go_simp
                with_reducible rfl
              rotate_left
              ·
                simp only [Act.put, l_1, l_2, l_3, i64_w, i32_w]
                rfl
              refine join_ (σ := Nat) 2 #[true, true, true, true, true, true, true, true, true, false, false] (fun s_ => [(100, .tuple #[.agg #[.int .i64 (G.I u), .int .i64 (G.J u)], .bool true]), (95, .tuple #[.agg #[.int .i64 (G.I u), .int .i64 (G.J u)], .bool true]), (101, .agg #[.int .i64 (G.I u), .int .i64 (G.J u)]), (102, .bool true), (14, .pointer (some ⟨s_, 0, none⟩))]) (fun s_ W_ => (W_.cell? ⟨g8, 0, none⟩ = some (.int .i64 c1) ∧ W_.cell? ⟨g8, 1, none⟩ = some (.int .i64 c2) ∧ W_.cell? ⟨g, 0, none⟩ = some (.int .i64 u)) ∧ Below wv.heap.size wv W_ ∧ W_.heap[s_]? = some (.cells #[.int .i64 0, .int .i64 0] 29 (0, 0)) ∧ wv.heap.size ≤ s_) ?_ ?_
              rotate_left
              · intro hCont
                refine two_ (i := 4) (j := 8) (Ni := some 100) (Nj := some 14) #[true, true, true, true, true, false, false, false, false, false, false] #[true, true, true, true, false, false, false, false, true, false, false] rfl rfl rfl rfl (two_of HT_.out (by kernel_rfl)) (by decide) (by decide) (fun K hK => ?_) (fun K hK => ?_)
                ·
                  skip
                  refine goes_ Try.func19 (by kernel_rfl) rfl #[.agg #[.int .i64 c1, .int .i64 c2], .int .i64 u] (by rfl) rfl rfl (by (try simp only [l_4, l_5, l_6]); first | done | rfl | (simp only [l_7, l_8]; rfl)) ?_
                  refine (slice_Where.calls c1 c2 u _ _ _ _ EW.out).mono ?_
                  rintro e wc ⟨rfl, hb⟩
                  refine ⟨_, rfl, ?_⟩
                  refine hK.out _ _ (pelotonlaw10_SliceOwns.held18 SV.out KG.out HD.out (below_step LV.out.1 hb)) (fun hHeld => ?_)
                  clear hK K
                  refine norm_ (a' := ?_) ?_ ?_
                  rotate_left
                  ·
                    show Act.put _ (some 100) _ = _
                    simp only [Act.put, l_1, l_2, l_3, i64_w, i32_w]
                    rfl
                  refine pure_ (i := 5) (N := some 95) (v := ?_) (a' := ?_) #[true, true, true, true, true, true, false, false, false, false, false] rfl rfl (any_of HT_.out (by kernel_rfl)) (fun _ _ _ h => h) (Or.inl ⟨by rfl, ?_⟩) ?_ ?_
                  rotate_left
                  ·
                    intro w'
                    go_simp
                    with_reducible rfl
                  rotate_left
                  ·
                    simp only [Act.put, l_1, l_2, l_3, i64_w, i32_w]
                    rfl
                  refine pure_ (i := 6) (N := some 101) (v := ?_) (a' := ?_) #[true, true, true, true, true, true, true, false, false, false, false] rfl rfl (any_of HT_.out (by kernel_rfl)) (fun _ _ _ h => h) (Or.inl ⟨by rfl, ?_⟩) ?_ ?_
                  rotate_left
                  ·
                    intro w'
                    go_simp
                    with_reducible rfl
                  rotate_left
                  ·
                    simp only [Act.put, l_1, l_2, l_3, i64_w, i32_w]
                    rfl
                  refine pure_ (i := 7) (N := some 102) (v := ?_) (a' := ?_) #[true, true, true, true, true, true, true, true, false, false, false] rfl rfl (any_of HT_.out (by kernel_rfl)) (fun _ _ _ h => h) (Or.inl ⟨by rfl, ?_⟩) ?_ ?_
                  rotate_left
                  ·
                    intro w'
                    go_simp
                    with_reducible rfl
                  rotate_left
                  ·
                    simp only [Act.put, l_1, l_2, l_3, i64_w, i32_w]
                    rfl
                  refine one_ (i := 8) (N := some 14) #[true, true, true, true, true, true, true, true, true, false, false] rfl rfl (one_of HT_.out (by kernel_rfl)) (by decide) (fun K hK => ?_)
                  refine box_step ?hg (N := 14) ?hd (cs := #[.int .i64 0, .int .i64 0]) (t := 29) ?hr ?_; (case hd => rfl); (case hg => rfl); (case hr => first | (go_simp; done) | (go_simp; rfl))
                  intro g14 hg_ wb hbox hbb
                  refine hK.out _ _ (pelotonlaw10_SliceOwns.held18 SV.out KG.out HD.out (below_step LV.out.1 (below_step hb hbb))) (fun hHeld => ?_)
                  clear hK K
                  refine norm_ (a' := ?_) ?_ ?_
                  rotate_left
                  ·
                    show Act.put _ (some 14) _ = _
                    simp only [Act.put, l_1, l_2, l_3, i64_w, i32_w]
                    rfl
                  exact norm_ (by simp only [putAll, Act.put, l_1, l_2, l_3]) (hCont g14 _ ⟨hHeld, below_step hb hbb, hbox, by rw [hg_]; exact below_size hb⟩)
                ·
                  skip
                  refine box_step ?hg (N := 14) ?hd (cs := #[.int .i64 0, .int .i64 0]) (t := 29) ?hr ?_; (case hd => rfl); (case hg => rfl); (case hr => first | (go_simp; done) | (go_simp; rfl))
                  intro g14 hg_ wb hbox hbb
                  refine hK.out _ _ (pelotonlaw10_SliceOwns.held18 SV.out KG.out HD.out (below_step LV.out.1 hbb)) (fun hHeld => ?_)
                  clear hK K
                  refine norm_ (a' := ?_) ?_ ?_
                  rotate_left
                  ·
                    show Act.put _ (some 14) _ = _
                    simp only [Act.put, l_1, l_2, l_3, i64_w, i32_w]
                    rfl
                  refine one_ (i := 4) (N := some 100) #[true, true, true, true, true, false, false, false, true, false, false] rfl rfl (one_of HT_.out (by kernel_rfl)) (by decide) (fun K hK => ?_)
                  refine goes_ Try.func19 (by kernel_rfl) rfl #[.agg #[.int .i64 c1, .int .i64 c2], .int .i64 u] (by rfl) rfl rfl (by (try simp only [l_4, l_5, l_6]); first | done | rfl | (simp only [l_7, l_8]; rfl)) ?_
                  refine (slice_Where.calls c1 c2 u _ _ _ _ EW.out).mono ?_
                  rintro e wc ⟨rfl, hb⟩
                  refine ⟨_, rfl, ?_⟩
                  refine hK.out _ _ (pelotonlaw10_SliceOwns.held18 SV.out KG.out HD.out (below_step LV.out.1 (below_step hbb hb))) (fun hHeld => ?_)
                  clear hK K
                  refine norm_ (a' := ?_) ?_ ?_
                  rotate_left
                  ·
                    show Act.put _ (some 100) _ = _
                    simp only [Act.put, l_1, l_2, l_3, i64_w, i32_w]
                    rfl
                  refine pure_ (i := 5) (N := some 95) (v := ?_) (a' := ?_) #[true, true, true, true, true, true, false, false, true, false, false] rfl rfl (any_of HT_.out (by kernel_rfl)) (fun _ _ _ h => h) (Or.inl ⟨by rfl, ?_⟩) ?_ ?_
                  rotate_left
                  ·
                    intro w'
                    go_simp
                    with_reducible rfl
                  rotate_left
                  ·
                    simp only [Act.put, l_1, l_2, l_3, i64_w, i32_w]
                    rfl
                  refine pure_ (i := 6) (N := some 101) (v := ?_) (a' := ?_) #[true, true, true, true, true, true, true, false, true, false, false] rfl rfl (any_of HT_.out (by kernel_rfl)) (fun _ _ _ h => h) (Or.inl ⟨by rfl, ?_⟩) ?_ ?_
                  rotate_left
                  ·
                    intro w'
                    go_simp
                    with_reducible rfl
                  rotate_left
                  ·
                    simp only [Act.put, l_1, l_2, l_3, i64_w, i32_w]
                    rfl
                  refine pure_ (i := 7) (N := some 102) (v := ?_) (a' := ?_) #[true, true, true, true, true, true, true, true, true, false, false] rfl rfl (any_of HT_.out (by kernel_rfl)) (fun _ _ _ h => h) (Or.inl ⟨by rfl, ?_⟩) ?_ ?_
                  rotate_left
                  ·
                    intro w'
                    go_simp
                    with_reducible rfl
                  rotate_left
                  ·
                    simp only [Act.put, l_1, l_2, l_3, i64_w, i32_w]
                    rfl
                  exact norm_ (by simp only [putAll, Act.put, l_1, l_2, l_3]) (hCont g14 _ ⟨hHeld, below_step hbb hb, blk_below hbox hb, Nat.le_of_eq hg_.symm⟩)
              clear hHeld
              rintro g14 w9 ⟨hHeld, hbb, hbox, hge⟩
              refine norm_ (a' := ?_) ?_ ?_
              rotate_left
              ·
                simp only [putAll, Act.put, l_1, l_2, l_3]
                rfl
              have BX := Aside0.mk (slice_Owners.below2 (u := .int .i64 (G.I u)) (v := .int .i64 (G.J u)) hbb hge)
              have K14 := Aside0.mk (slice_Owners.put2 (u := .int .i64 (G.I u)) (v := .int .i64 (G.J u)) hbox)
              obtain ⟨b1, b2, b3, b4⟩ := slice_Owners.cell2 hbox
              clear hbb hbox hge
              refine one_ (i := 9) (N := none) #[true, true, true, true, true, true, true, true, true, true, false] rfl rfl (one_of HT_.out (by kernel_rfl)) (by decide) (fun K hK => ?_)
              refine skip_ (w1 := ?_) (by rfl) rfl ?_ ?_
              rotate_left
              ·
                go_simp
                rfl
              replace LV := Aside0.mk (LV.out.below BX.out)
              generalize hW_ : ((w9.setCell ⟨g14, 0, none⟩ (.int .i64 (G.I u))).setCell ⟨g14, 1, none⟩ (.int .i64 (G.J u))) = W9 at *
              refine hK.out _ _ (pelotonlaw10_SliceOwns.held18 SV.out KG.out HD.out LV.out.1) (fun hHeld => ?_)
              clear hK K
              refine pure_ (i := 10) (N := some 15) (v := ?_) (a' := ?_) #[true, true, true, true, true, true, true, true, true, true, true] rfl rfl (any_of HT_.out (by kernel_rfl)) (fun _ _ _ h => h) (Or.inl ⟨by rfl, ?_⟩) ?_ ?_
              rotate_left
              ·
                intro w'
                go_simp
                with_reducible rfl
              rotate_left
              ·
                simp only [Act.put, l_1, l_2, l_3, i64_w, i32_w]
                rfl
              refine done_ (done_of HT_.out (by kernel_rfl)) ?_
              clear hW_ BX b1 b2 b3 b4 hHeld HT_ HW_
              obtain ⟨x1, x2, x3, x4, x5, x6⟩ := slice_Owners.cell6 (SV.out.below LV.out.1).2.1; obtain ⟨y1, y2, _, _⟩ := slice_Owners.cell2 (SV.out.below LV.out.1).2.2.1
              obtain ⟨z1, z2, _, _⟩ := slice_Owners.cell2 K14.out
              go_upto_region 20 with (first | (go_at_call 11; (refine (slice_Layers.calls s1 s2 s3 s4 s5 s6 c1 c2 _ _ _ _ _ HSP.out.2.1).mono ?_); rintro e wa ⟨rfl, hb⟩; replace LV := Aside0.mk (LV.out.below hb); replace K14 := Aside0.mk (blk_below K14.out hb); clear hb) | ((with_reducible refine gate_dst (N := 16) rfl ?_); refine box_event ?hg (N := 16) ?hd (cs := #[.int .i64 0, .int .i64 0]) (t := 29) ?hr ?_; (case hd => rfl); (case hg => rfl); (case hr => first | (go_simp; done) | (go_simp; rfl)); intro g16 hg_ wb hbox hbb; have BX := Aside0.mk (slice_Owners.below2 (u := .int .i64 (G.X0 u)) (v := .int .i64 (G.X1 u)) hbb (Nat.le_of_eq hg_.symm)); have K16 := Aside0.mk (slice_Owners.put2 (u := .int .i64 (G.X0 u)) (v := .int .i64 (G.X1 u)) hbox); obtain ⟨b1, b2, b3, b4⟩ := slice_Owners.cell2 hbox; clear hg_ hbox hbb))
              replace LV := Aside0.mk (LV.out.below BX.out); replace K14 := Aside0.mk (blk_below K14.out BX.out)
              generalize hW_ : ((wb.setCell ⟨g16, 0, none⟩ (.int .i64 (G.X0 u))).setCell ⟨g16, 1, none⟩ (.int .i64 (G.X1 u))) = W16 at *
              clear hW_ BX b1 b2 b3 b4 x1 x2 x3 x4 x5 x6 y1 y2 z1 z2
              obtain ⟨x1, x2, x3, x4, x5, x6⟩ := slice_Owners.cell6 (SV.out.below LV.out.1).2.1; obtain ⟨y1, y2, _, _⟩ := slice_Owners.cell2 (SV.out.below LV.out.1).2.2.1
              obtain ⟨z1, z2, _, _⟩ := slice_Owners.cell2 K14.out
              go_upto_region 21 with (first | (go_at_call 12; (refine (slice_Heads.calls s1 s2 s3 s4 s5 s6 c1 c2 _ _ _ _ _ HSP.out.2.2).mono ?_); rintro e wa ⟨rfl, hb⟩; replace LV := Aside0.mk (LV.out.below hb); replace K16 := Aside0.mk (blk_below K16.out hb); clear hb) | ((with_reducible refine gate_dst (N := 18) rfl ?_); refine box_event ?hg (N := 18) ?hd (cs := #[.int .i64 0, .int .i64 0]) (t := 29) ?hr ?_; (case hd => rfl); (case hg => rfl); (case hr => first | (go_simp; done) | (go_simp; rfl)); intro g18 hg_ wb hbox hbb; have BX := Aside0.mk (slice_Owners.below2 (u := .int .i64 (G.Y0 u)) (v := .int .i64 (G.Y1 u)) hbb (Nat.le_of_eq hg_.symm)); have K18 := Aside0.mk (slice_Owners.put2 (u := .int .i64 (G.Y0 u)) (v := .int .i64 (G.Y1 u)) hbox); obtain ⟨b1, b2, b3, b4⟩ := slice_Owners.cell2 hbox; clear hg_ hbox hbb))
              replace LV := Aside0.mk (LV.out.below BX.out); replace K16 := Aside0.mk (blk_below K16.out BX.out)
              generalize hW_ : ((wb.setCell ⟨g18, 0, none⟩ (.int .i64 (G.Y0 u))).setCell ⟨g18, 1, none⟩ (.int .i64 (G.Y1 u))) = W18 at *
              clear hW_ BX b1 b2 b3 b4 x1 x2 x3 x4 x5 x6 y1 y2 z1 z2 K14
              obtain ⟨x1, x2, _, _⟩ := slice_Owners.cell2 K16.out; obtain ⟨y1, y2, _, _⟩ := slice_Owners.cell2 K18.out
              have z1 := (blk_cell (blk_below KG.out LV.out.1) 0).trans HD.out
              have r1 : decide (l < G.X0 u) = false := decide_eq_false (by obtain ⟨a1, a2, a3, a4⟩ := HI.out; omega)
              have r2 : decide (l ≥ G.X1 u) = false := decide_eq_false (by obtain ⟨a1, a2, a3, a4⟩ := HI.out; omega)
              have r3 : decide (G.X1 u ≤ l) = false := decide_eq_false (by obtain ⟨a1, a2, a3, a4⟩ := HI.out; omega)
              have r4 : decide (h < G.Y0 u) = false := decide_eq_false (by obtain ⟨a1, a2, a3, a4⟩ := HI.out; omega)
              have r5 : decide (h ≥ G.Y1 u) = false := decide_eq_false (by obtain ⟨a1, a2, a3, a4⟩ := HI.out; omega)
              have r6 : decide (G.Y1 u ≤ h) = false := decide_eq_false (by obtain ⟨a1, a2, a3, a4⟩ := HI.out; omega)
              have p5 : decide (0 ≤ u) = true := decide_eq_true HU.out.1
              have p6 : decide (u < (ys.length : Int)) = true := decide_eq_true HU.out.2.1
              have p9 : (0 ≤ u) = True := eq_true HU.out.1
              have p10 : (u < (ys.length : Int)) = True := eq_true HU.out.2.1
              have hn0 : 0 < xs.length := by have := LV.out.2.2; have := HU.out; omega
              obtain ⟨go, cg, eo, gb, gl, cl, hcl⟩ := Kd.R_form LV.out.2.1 hn0
              have eo' : Ao = some ⟨go, 0, none⟩ := by injection eo
              clear eo hcl
              subst eo'
              obtain ⟨hcl, hfz⟩ := Kd.R_celln 0 LV.out.2.1 u HU.out.1 HU.out.2.1
              have hbnd := HS.out.2.1 u HU.out.1 HU.out.2.2.1
              obtain ⟨x, hX⟩ : ∃ x, rd xs u = x := ⟨_, rfl⟩
              replace hcl := (show _ = some (Value.int .i64 (rd xs u)) from hcl); rw [hX] at hcl hbnd
              have hwx : IntKind.i64.wrap (x + 1) = x + 1 := by rw [i64_w]; have := HL.out; have := HH.out; have := HC.out.shape; unfold wrap64; omega
              have HX := Aside0.mk hX
              clear hX hbnd
              go_wp2
              go_roundg m2
              case measure => omega
              case rel =>
                have hp := HS.out.put HC.out.apart HU.out.1 HU.out.2.2.1 HI.out
                rw [HX.out] at hp
                exact ⟨h + 1, _, by first | rfl | rw [hw], by omega, ⟨by have := HH.out; omega⟩, ⟨LV.out.put u (x + 1) HU.out.1 HU.out.2.1⟩, ⟨hp⟩⟩

    · rw [if_neg hc] at h4; cases h4
/-- THE ONE PURE STATEMENT of pelotonlaw10_SliceOwns. -/
def pelotonlaw10_SliceOwns.Pure : Prop := ∀ (a0_0 : Int) (a0_1 : Int) (a0_2 : Int) (a0_3 : Int) (a0_4 : Int) (a0_5 : Int) (a1 : Int) (a2 : Int), ((Lit.int .i64 a0_0).wf = true ∧ (Lit.int .i64 a0_1).wf = true ∧ (Lit.int .i64 a0_2).wf = true ∧ (Lit.int .i64 a0_3).wf = true ∧ (Lit.int .i64 a0_4).wf = true ∧ (Lit.int .i64 a0_5).wf = true) → ((Lit.int .i64 a1).wf = true) → ((Lit.int .i64 a2).wf = true) → ∃ k, pelotonlaw10_SliceOwns.f k a0_0 a0_1 a0_2 a0_3 a0_4 a0_5 a1 a2 = some true
end Go.Proofs.Ytijkcjlkfjeedaa.QSliceOwns
