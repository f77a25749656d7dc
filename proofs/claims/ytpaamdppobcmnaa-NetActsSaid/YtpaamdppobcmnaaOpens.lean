/- How an argument of any kind that the print knows (numbers, truths, texts, slices, structs, short arrays) is opened: what its cells say, and that its numbers are of their kinds. No program in sight. -/
import Derived.Test.YtpaamdppobcmnaaWWords
import Derived.Deep.Slices
import Derived.OpenShut
import Derived.ChangeArms
import Derived.WideShapes
namespace Go.Proofs.Ytpaamdppobcmnaa.Opens
open Go.ChangeShapes Go.WideShapes Go.Deep Go.Proofs.YtpaamdppobcmnaaW.PrintWords

/-- Whatever reads as a datum of type t has cells of the kind d, of a value of which F holds. -/
structure Opens {α : Type} (P : Program) (t : TypeId) (d : Kd α) (F : α → Prop) : Prop where
  out : ∀ {H : Type} {enc : TypeId × Value → H} {w : World} {base : Nat} {spare : Nat → Bool} {held : Bool} {fuel : Nat} {cs : List Value} {x : DataW H × List MemPlace},
    DataW.trod enc P w base spare held fuel t cs = some x → ∃ y, d.K w y cs ∧ F y

/-- Cells that read, type by type, one behind the other. -/
def SegReads {H : Type} (enc : TypeId × Value → H) (P : Program) (w : World) (base : Nat) (spare : Nat → Bool) (held : Bool) (fuel : Nat) : List TypeId → List Value → Prop
  | [], cs => cs = []
  | t :: ts, cs => (∃ x, DataW.trod enc P w base spare held fuel t (cs.take (P.cellsOf t)) = some x) ∧ SegReads enc P w base spare held fuel ts (cs.drop (P.cellsOf t))

structure OpensSeg {α : Type} (P : Program) (ts : List TypeId) (d : Kd α) (F : α → Prop) : Prop where
  out : ∀ {H : Type} {enc : TypeId × Value → H} {w : World} {base : Nat} {spare : Nat → Bool} {held : Bool} {fuel : Nat} {cs : List Value},
    SegReads enc P w base spare held fuel ts cs → ∃ y, d.K w y cs ∧ F y

section
variable {P : Program} {t e : TypeId} {α β : Type} {d : Kd α} {F : α → Prop}

theorem opens_int {k : IntKind} (hu : P.underlying t = some (.int k)) : Opens P t (Kd.int k) (fun n => (Lit.int k n).wf = true) := ⟨fun h => by
  obtain ⟨n, rfl, _, hw⟩ := DataW.trod_int hu h
  exact ⟨n, rfl, hw⟩⟩
theorem opens_bool (hu : P.underlying t = some .bool) : Opens P t Kd.bool (fun _ => True) := ⟨fun h => by
  obtain ⟨b, rfl, _⟩ := DataW.trod_bool hu h
  exact ⟨b, rfl, trivial⟩⟩
theorem opens_string (hu : P.underlying t = some .string) : Opens P t Kd.string (fun s => s.size ≤ maxLen) := ⟨fun h => by
  obtain ⟨s, rfl, _, hw⟩ := DataW.trod_string hu h
  exact ⟨s, rfl, hw⟩⟩

theorem rows_chosen {Q : Nat → α → Prop} : ∀ n : Nat, (∀ i, i < n → ∃ y, Q i y) → ∃ l : List α, l.length = n ∧ ∀ j p, l[j]? = some p → Q j p
  | 0, _ => ⟨[], rfl, fun j p h => by simp at h⟩
  | n + 1, h => by
    obtain ⟨l, hl, hq⟩ := rows_chosen n (fun i hi => h i (by omega))
    obtain ⟨y, hy⟩ := h n (by omega)
    refine ⟨l ++ [y], by simp [hl], fun j p hj => ?_⟩
    by_cases hc : j < l.length
    · rw [List.getElem?_append_left hc] at hj
      exact hq j p hj
    · rw [List.getElem?_append_right (by omega)] at hj
      have hj0 : j - l.length = 0 := by
        have := (List.getElem?_eq_some_iff.1 hj).1
        simp at this; omega
      rw [hj0] at hj
      simp at hj
      subst hj
      obtain rfl : j = n := by omega
      exact hy

theorem opens_slice (hu : P.underlying t = some (.slice e)) (O : Opens P e d F) (hC : P.cellsOf e = d.sz) : Opens P t (Kd.slice e d) (fun l => l.length ≤ maxLen ∧ ∀ y ∈ l, F y) := ⟨fun {H enc w base spare held fuel cs x} h => by
  rcases open_slice hu h with ⟨rfl, _⟩ | ⟨a, len, cap, m, n, D, Pl, rfl, hb, hl, hm, hmm, hx, hi⟩
  · exact ⟨[], ⟨none, 0, rfl, by simp, ⟨rfl, by simp, fun h0 => by simp at h0⟩⟩, by simp, fun y hy => by simp at hy⟩
  · have hlm : len ≤ m := by rw [hmm]; split <;> omega
    have hmx : maxLen = 9223372036854775807 := rfl
    obtain ⟨l, hll, hq⟩ := rows_chosen (Q := fun i y => ∃ c, c.length = d.sz ∧ d.K w y c ∧ (∀ j u, c[j]? = some u → w.cell? (a.add (i * d.sz + j)) = some u) ∧ F y) len (fun i hil => by
      obtain ⟨cs', hc, ht⟩ := hi i (by omega)
      obtain ⟨y, hk, hf⟩ := O.out ht
      obtain ⟨_, hcl, hat⟩ := World.cells?_some hc
      rw [hC] at hcl hat
      refine ⟨y, cs', hcl, hk, fun j u hj => ?_, hf⟩
      have hjl : j < d.sz := by rw [← hcl]; exact (List.getElem?_eq_some_iff.1 hj).1
      rw [← Deep.add_add, hat j hjl]; exact hj)
    refine ⟨l, ⟨some a, cap, by rw [hll], by omega, ⟨rfl, by omega, fun _ => ⟨a, rfl, fun j p hj => ?_⟩⟩⟩, by show l.length ≤ maxLen; omega, fun y hy => ?_⟩
    · obtain ⟨c, h1, h2, h3, _⟩ := hq j p hj
      exact ⟨c, h1, h2, h3⟩
    · obtain ⟨j, hj⟩ := List.getElem?_of_mem hy
      obtain ⟨c, _, _, _, h4⟩ := hq j y hj
      exact h4⟩

theorem opensSeg_one (O : Opens P t d F) : OpensSeg P [t] d F := ⟨fun h => by
  obtain ⟨⟨x, hx⟩, h2⟩ := h
  have h3 := List.take_append_drop (P.cellsOf t) ‹List Value›
  have h2' := h2
  simp only [SegReads] at h2'
  rw [h2', List.append_nil] at h3
  rw [h3] at hx
  exact O.out hx⟩
theorem opensSeg_cons {ts : List TypeId} {d' : Kd β} {G : β → Prop} (O : Opens P t d F) (S : OpensSeg P ts d' G) : OpensSeg P (t :: ts) (Kd.pair d d') (fun p => F p.1 ∧ G p.2) := ⟨fun h => by
  obtain ⟨⟨x, hx⟩, h2⟩ := h
  obtain ⟨y, hy, hf⟩ := O.out hx
  obtain ⟨z, hz, hg⟩ := S.out h2
  exact ⟨(y, z), ⟨_, _, (List.take_append_drop _ _).symm, hy, hz⟩, hf, hg⟩⟩
theorem opens_iso (O : Opens P t d F) (f : β → α) (g : α → β) (hfg : ∀ a, f (g a) = a) : Opens P t (Kd.iso d f) (fun b => F (f b)) := ⟨fun h => by
  obtain ⟨y, hy, hf⟩ := O.out h
  refine ⟨g y, ?_, ?_⟩
  · show d.K _ (f (g y)) _
    rw [hfg]; exact hy
  · show F (f (g y))
    rw [hfg]; exact hf⟩

def offsOk (P : Program) : Nat → List Field → Bool
  | _, [] => true
  | o, f :: fs => (f.offset == o) && offsOk P (o + P.cellsOf f.type) fs
def cellsSum (P : Program) : List TypeId → Nat
  | [] => 0
  | t :: ts => P.cellsOf t + cellsSum P ts

theorem seg_of {H : Type} {enc : TypeId × Value → H} {w : World} {base : Nat} {spare : Nat → Bool} {held : Bool} {fuel : Nat} {cs : List Value} :
    ∀ (fs : List Field) (o : Nat), offsOk P o fs = true → cs.length = o + cellsSum P (fs.map (·.type)) →
      (∀ (i : Nat) (f : Field), fs[i]? = some f → ∃ x, DataW.trod enc P w base spare held fuel f.type ((cs.drop f.offset).take (P.cellsOf f.type)) = some x) →
      SegReads enc P w base spare held fuel (fs.map (·.type)) (cs.drop o)
  | [], o, _, hlen, _ => by simp only [List.map_nil, cellsSum] at hlen; exact List.drop_of_length_le (by omega)
  | f :: fs, o, ho, hlen, h => by
    simp only [offsOk, Bool.and_eq_true, beq_iff_eq] at ho
    simp only [List.map_cons, cellsSum] at hlen
    have h0 := h 0 f rfl
    rw [ho.1] at h0
    refine ⟨h0, ?_⟩
    rw [List.drop_drop]
    exact seg_of fs (o + P.cellsOf f.type) ho.2 (by omega) (fun i g hi => h (i + 1) g (by simpa using hi))

theorem opens_struct {fs : Array Field} {ts : List TypeId} (hu : P.underlying t = some (.struct fs)) (hts : fs.toList.map (·.type) = ts) (S : OpensSeg P ts d F) (hoff : offsOk P 0 fs.toList = true) (hsum : P.cellsOf t = cellsSum P ts) : Opens P t d F := ⟨fun h => by
  obtain ⟨xs, n, _, _, hlen, hxl, hat⟩ := DataW.trod_struct hu h
  have hs := seg_of (P := P) fs.toList 0 hoff (by rw [hts, hlen, hsum]; omega) (fun i f hi => by
    have hi' : fs[i]? = some f := by simpa using hi
    have h1 := hat i f hi'
    have hil : i < xs.length := by rw [hxl]; exact (Array.getElem?_eq_some_iff.1 hi').1
    rw [List.getElem?_eq_getElem hil] at h1
    exact ⟨_, h1⟩)
  rw [hts] at hs
  exact S.out hs⟩

theorem seg_rep {H : Type} {enc : TypeId × Value → H} {w : World} {base : Nat} {spare : Nat → Bool} {held : Bool} {fuel : Nat} {cs : List Value} (e : TypeId) :
    ∀ (n o : Nat), cs.length = (o + n) * P.cellsOf e → (∀ i, i < o + n → ∃ x, DataW.trod enc P w base spare held fuel e ((cs.drop (i * P.cellsOf e)).take (P.cellsOf e)) = some x) →
      SegReads enc P w base spare held fuel (List.replicate n e) (cs.drop (o * P.cellsOf e))
  | 0, o, hlen, _ => List.drop_of_length_le (by rw [hlen]; simp)
  | n + 1, o, hlen, h => by
    refine ⟨h o (by omega), ?_⟩
    rw [List.drop_drop]
    have := seg_rep e n (o + 1) (by rw [hlen]; congr 1; omega) (fun i hi => h i (by omega))
    rw [Nat.add_mul, Nat.one_mul] at this
    exact this
theorem opens_array {n : Nat} {ts : List TypeId} (hu : P.underlying t = some (.array n e)) (hts : List.replicate n e = ts) (S : OpensSeg P ts d F) (hsum : P.cellsOf t = n * P.cellsOf e) : Opens P t d F := ⟨fun h => by
  obtain ⟨xs, m, _, _, hlen, hxl, hat⟩ := DataW.trod_array hu h
  have hs := seg_rep (P := P) e n 0 (by rw [hlen, hsum]; simp) (fun i hi => by
    have hi' : i < n := by omega
    have h1 := hat i hi'
    rw [List.getElem?_eq_getElem (by rw [hxl]; exact hi')] at h1
    exact ⟨_, h1⟩)
  rw [hts] at hs
  simp only [Nat.zero_mul, List.drop_zero] at hs
  exact S.out hs⟩
theorem okWide_array {n : Nat} {r : Reach} {b0 : Nat} {v : Value} {w : World} (ht : P.underlying t = some (.array n e)) (h : Value.okWide P w r b0 t v) : ∃ cs, v = .agg cs ∧ cs.size = P.cellsOf t := by
  simp only [Value.okWide, ht] at h
  obtain ⟨cs, h1, h2, _⟩ := h
  exact ⟨cs, h1, h2⟩
theorem agg_cells {cs : Array Value} {l : List Value} (h : (Value.cells (.agg cs)).toList = l) : cs = l.toArray := by
  obtain ⟨cl⟩ := cs
  simp [Value.cells] at h
  rw [h]
end
end Go.Proofs.Ytpaamdppobcmnaa.Opens
