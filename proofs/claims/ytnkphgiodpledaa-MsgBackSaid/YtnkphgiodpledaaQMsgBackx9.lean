-- Written by a program of this session (a turned copy of the print) out of the translation. Lean checks it.
import Derived.Test.YtnkphgiodpledaaQMsgBackx0
import Derived.Test.YtnkphgiodpledaaQMsgBackx1
import Derived.Test.YtnkphgiodpledaaQMsgBackx2
import Derived.Test.YtnkphgiodpledaaQMsgBackx8
namespace Go.Proofs.Ytnkphgiodpledaa.QMsgBack
open Go.RowKit Go.Proofs.YtnkphgiodpledaaW.PrintWords Go.Proofs.YtnkphgiodpledaaW.PrintLast Go.Proofs.YtnkphgiodpledaaW.PrintMore
attribute [local go_sem] max2_int min2_int max_two min_two max_three min_three max_four min_four   -- for this text's walks alone
open Go.Proofs.YtnkphgiodpledaaW.PrintWords renaming below_alloc → b_a, pw_below_drewN → b_n, below_drew1 → b_d, below_set → b_s, blk_drewN → k_n, blk_drew → k_d, blk_alloc → k_a
open List renaming setIfInBounds_toArray → l_1, set_cons_zero → l_2, set_cons_succ → l_3, map_toArray → l_4, map_cons → l_5, map_nil → l_6, length_drop → l_7, length_take → l_8
set_option linter.unusedVariables false
set_option linter.unusedSimpArgs false

/-! ### msg_Parse: function 15, by hand -/
def rdr.cut (A : Option Addr) (c n : Nat) : Option Addr := if c = n then A else A.map (·.add n)
def shortP : List PanicEntry := [{ v := .iface 61 (.agg #[]), recovered := false, goexit := false }]
set_option maxHeartbeats 8000000 in
set_option maxRecDepth 100000 in
theorem rdr_take.ok (gr : Nat) (A : Option Addr) (len c : Nat) (n : Int) (w : World) (h1 : w.heap[gr]? = some (.cells #[.slice A len c] 65 (0, 0))) (hc : len ≤ c) (h0 : 0 ≤ n) (hn : n ≤ len) :
    Calls Try.prog 42 #[.pointer (some ⟨gr, 0, none⟩), .int .i64 n] w fun e w' => e = .returned (.slice A n.toNat c) ∧ w' = w.setCell ⟨gr, 0, none⟩ (.slice (rdr.cut A c n.toNat) (len - n.toNat) (c - n.toNat)) := by
  obtain ⟨i0, hi0, _, hsz, _⟩ := info_parts info5
  have hel : Try.prog.elem 29 = 5 := by simp [Program.elem, Try.underlying29]
  have hu : Try.prog.underlying 29 = some (.slice (Try.prog.elem 29)) := by rw [hel]; exact Try.underlying29
  have hcut1 := cut_to (P := Try.prog) 29 5 .i64 Try.underlying29 hi0 A len c n h0 hn hc
  have hcut2 : ∀ W : World, (Instr.slice 29 (.slice A len c) (some (.int .i64 n)) none none).run Try.prog W = .ok (.slice (rdr.cut A c n.toNat) (len - n.toNat) (c - n.toNat)) W := by
    intro W
    rw [run_slice_l W 29 A len c hu .i64 n h0 (by omega), hel]
    simp [sizeOf, typeInfo, hi0, hsz, sliced, Result.andThen, rdr.cut]
  have p1 : decide ((len : Int) < n) = false := decide_eq_false (by omega)
  have hk : w.cell? ⟨gr, 0, none⟩ = some (.slice A len c) := (blk_cell h1 0).trans rfl
  have hf : w.frozen? ⟨gr, 0, none⟩ = false := blk_frozen h1 0
  clear hel hu hi0 hsz h1
  go_enter Try.func42, Try.ntmps42
  go_wp2
  go_ret
  exact ⟨rfl, rfl⟩
set_option maxHeartbeats 8000000 in
set_option maxRecDepth 100000 in
theorem rdr_take.short (gr : Nat) (A : Option Addr) (len c : Nat) (n : Int) (w : World) (h1 : w.heap[gr]? = some (.cells #[.slice A len c] 65 (0, 0))) (hn : (len : Int) < n) :
    Calls Try.prog 42 #[.pointer (some ⟨gr, 0, none⟩), .int .i64 n] w fun e w' => e = .panicked shortP ∧ w' = w := by
  have p1 : decide ((len : Int) < n) = true := decide_eq_true hn
  have hk : w.cell? ⟨gr, 0, none⟩ = some (.slice A len c) := (blk_cell h1 0).trans rfl
  clear h1
  go_enter Try.func42, Try.ntmps42
  go_wp2
  exact ⟨rfl, rfl, rfl⟩
theorem F_far_ {α : Type} {d : Kd α} {w : World} {ok : Nat → Prop} {A : Option Addr} {n : Nat} {xs : List α} {g : Nat} (h : Kd.F d w ok A n xs) (hg : ¬ ok g) (v : Value) : Kd.F d (w.setCell ⟨g, 0, none⟩ v) ok A n xs :=
  Kd.F_far (p := ⟨g, 0, none⟩) h (fun k hk e => hg (by rw [← show k = g from e]; exact hk)) v
def rdr.step (x b : Int) : Int := Go.bits .or .i64 (wrap64 (x * 256)) (wrap64 b)
def rdr.num (l : List Int) : Nat → Int → Int → Int
  | 0, _, x => x
  | m + 1, i, x => rdr.num l m (i + 1) (rdr.step x (rd l i))
set_option maxHeartbeats 8000000 in
set_option maxRecDepth 100000 in
theorem rdr_number.ok (gr : Nat) (A : Option Addr) (c : Nat) (xs : List Int) (n : Int) (ok : Nat → Prop) (w : World) (h1 : w.heap[gr]? = some (.cells #[.slice A xs.length c] 65 (0, 0))) (hc : xs.length ≤ c) (hF : Kd.F (Kd.int .u8) w ok A xs.length xs) (hg : ¬ ok gr) (h0 : 0 ≤ n) (hn : n ≤ xs.length) :
    Calls Try.prog 40 #[.pointer (some ⟨gr, 0, none⟩), .int .i64 n] w fun e w' => e = .returned (.int .i64 (rdr.num (xs.take n.toNat) n.toNat 0 0)) ∧ w' = w.setCell ⟨gr, 0, none⟩ (.slice (rdr.cut A c n.toNat) (xs.length - n.toNat) (c - n.toNat)) := by
  have HT := Aside0.mk (rdr_take.ok gr A xs.length c n w h1 hc h0 hn)
  obtain ⟨W, hW⟩ : ∃ W, W = w.setCell ⟨gr, 0, none⟩ (.slice (rdr.cut A c n.toNat) (xs.length - n.toNat) (c - n.toNat)) := ⟨_, rfl⟩
  have HW := Aside0.mk hW
  have hC : Kd.C (Kd.int .u8) W A (xs.take n.toNat).length (xs.take n.toNat) := by rw [hW]; exact Kd.F_now (Kd.F_take (F_far_ hF hg _) (by omega))
  have HC := Aside0.mk hC
  obtain ⟨N, rfl⟩ : ∃ N : Nat, n = (N : Int) := ⟨n.toNat, by omega⟩
  obtain ⟨l, hl⟩ : ∃ l, l = xs.take N := ⟨_, rfl⟩
  have hll : l.length = N := by rw [hl, List.length_take]; omega
  rw [Int.toNat_natCast, ← hl] at HC
  have HL := Aside0.mk hll
  have HN := Aside0.mk (show N ≤ xs.length by omega)
  have HB := Aside0.mk (Kd.F_max hF)
  clear hC hW h1 hc hF hg h0 hn
  simp only [Int.toNat_natCast] at *
  rw [← hl]
  clear hl hll
  go_enter Try.func40, Try.ntmps40
  go_wp2_with (first | (go_at_call 42; (refine (HT.out).mono ?_); rintro e w1 ⟨rfl, hw⟩; rw [← HW.out] at hw; subst hw; clear HT))
  go_loopg [5, 12] N (fun m v5 v12 W' => ∃ x i : Int, v5 = .int .i64 x ∧ v12 = .int .i64 i ∧ 0 ≤ i ∧ Aside0 (i + m = N) ∧ Aside0 (rdr.num l m i x = rdr.num l N 0 0) ∧ Aside0 (W' = w1))
  case atStart => exact ⟨0, 0, rfl, rfl, by omega, ⟨by omega⟩, ⟨rfl⟩, ⟨rfl⟩⟩
  case round =>
    obtain ⟨x, i, rfl, rfl, hi0, HI, HX, HW2⟩ := hrel
    obtain rfl := HW2.out
    cases gk with
    | zero =>
      have q : decide (i < (N : Int)) = false := decide_eq_false (by have := HI.out; omega)
      go_wp2
      go_ret
      exact ⟨congrArg (fun z => Ending.returned (Value.int .i64 z)) HX.out, HW.out⟩
    | succ m =>
      have q : decide (i < (N : Int)) = true := decide_eq_true (by have := HI.out; omega)
      obtain ⟨ad, hA, hcell⟩ := Kd.at_int HC.out i hi0 (by have := HI.out; have := HL.out; omega)
      subst hA
      have hix : (i : Int) < (N : Int) := of_decide_eq_true q
      have hw : IntKind.i64.wrap (i + 1) = i + 1 := by rw [i64_w]; have := HI.out; have := HN.out; have := HB.out; unfold wrap64; omega
      go_wp2
      go_roundg m
      case measure => omega
      case rel => exact ⟨_, i + 1, rfl, by first | rfl | rw [hw], by omega, ⟨by have := HI.out; omega⟩, ⟨HX.out⟩, ⟨rfl⟩⟩
set_option maxHeartbeats 8000000 in
set_option maxRecDepth 100000 in
theorem rdr_number.short (gr : Nat) (A : Option Addr) (len c : Nat) (n : Int) (w : World) (h1 : w.heap[gr]? = some (.cells #[.slice A len c] 65 (0, 0))) (hn : (len : Int) < n) :
    Calls Try.prog 40 #[.pointer (some ⟨gr, 0, none⟩), .int .i64 n] w fun e w' => e = .panicked shortP ∧ w' = w := by
  have HT := Aside0.mk (rdr_take.short gr A len c n w h1 hn)
  clear h1 hn
  go_enter Try.func40, Try.ntmps40
  go_wp2_with (first | (go_at_call 42; (refine (HT.out).mono ?_); rintro e w1 ⟨rfl, rfl⟩; clear HT))
  exact ⟨rfl, rfl, rfl⟩
def rdr.upd (N : Int → Int) (i x : Int) : Int → Int := fun j => if j = i then x else N j
def rdr.cells (k : Int) (N : Int → Int) (v : Value) : Array Value := #[.int .i64 k, .int .i64 (N 0), .int .i64 (N 1), .int .i64 (N 2), .int .i64 (N 3), .int .i64 (N 4), .int .i64 (N 5), .int .i64 (N 6), v]
theorem rdr.cells_put (k : Int) (N : Int → Int) (v : Value) (i x : Int) (h0 : 0 ≤ i) (h1 : i < 7) : (rdr.cells k N v).setIfInBounds (i + 1).toNat (.int .i64 x) = rdr.cells k (rdr.upd N i x) v := by
  have hi : i = 0 ∨ i = 1 ∨ i = 2 ∨ i = 3 ∨ i = 4 ∨ i = 5 ∨ i = 6 := by omega
  rcases hi with rfl | rfl | rfl | rfl | rfl | rfl | rfl <;> simp [rdr.cells, rdr.upd]
theorem rdr.cells_list (k : Int) (N : Int → Int) (v v' : Value) : (rdr.cells k N v).setIfInBounds 8 v' = rdr.cells k N v' := by simp [rdr.cells]
theorem rdr.cells_at (k : Int) (N : Int → Int) (v : Value) (i : Int) (h0 : 0 ≤ i) (h1 : i < 7) : (rdr.cells k N v)[(i + 1).toNat]? = some (.int .i64 (N i)) := by
  have hi : i = 0 ∨ i = 1 ∨ i = 2 ∨ i = 3 ∨ i = 4 ∨ i = 5 ∨ i = 6 := by omega
  rcases hi with rfl | rfl | rfl | rfl | rfl | rfl | rfl <;> rfl
/-- numbers, then a list; none: too few bytes -/
def rdr.nums (b : Int) : Nat → Int → (Int → Int) → List Int → Option ((Int → Int) × List Int)
  | 0, _, N, xs => some (N, xs)
  | m + 1, i, N, xs => if msg_bit b i = 1 then (if 5 ≤ xs.length then rdr.nums b m (i + 1) (rdr.upd N i (rdr.num (xs.take 5) 5 0 0)) (xs.drop 5) else none) else rdr.nums b m (i + 1) N xs
def rdr.list : Nat → List Int → List Int → Option (List Int × List Int)
  | 0, acc, xs => some (acc, xs)
  | m + 1, acc, xs => if 4 ≤ xs.length then rdr.list m (acc ++ [wrap32 (rdr.num (xs.take 4) 4 0 0)]) (xs.drop 4) else none
def rdr.rest (l : Bool) (N : Int → Int) (xs : List Int) : Option ((Int → Int) × List Int × List Int) :=
  if l = true then (if 2 ≤ xs.length then (rdr.list (rdr.num (xs.take 2) 2 0 0).toNat [] (xs.drop 2)).bind (fun z => some (N, z.1, z.2)) else none) else some (N, [], xs)
def rdr.read (b : Int) (l : Bool) (N : Int → Int) (xs : List Int) : Option ((Int → Int) × List Int × List Int) :=
  (rdr.nums b 7 0 N xs).bind fun p => rdr.rest l p.1 p.2
def rdr.Kp (w W : World) (gr gm : Nat) : Prop := W.os = w.os ∧ W.tape = w.tape ∧ W.output = w.output ∧ w.heap.size ≤ W.heap.size ∧ ∀ k, k < w.heap.size → k ≠ gr → k ≠ gm → W.heap[k]? = w.heap[k]?
theorem rdr.Kp.refl (w : World) (gr gm : Nat) : rdr.Kp w w gr gm := ⟨rfl, rfl, rfl, Nat.le_refl _, fun _ _ _ _ => rfl⟩
theorem rdr.Kp.below {w W W' : World} {gr gm : Nat} (H : rdr.Kp w W gr gm) (hb : Below W.heap.size W W') : rdr.Kp w W' gr gm :=
  ⟨hb.os.trans H.1, hb.tape.trans H.2.1, hb.output.trans H.2.2.1, Nat.le_trans H.2.2.2.1 hb.size, fun k hk h1 h2 => (hb.block k (Nat.lt_of_lt_of_le hk H.2.2.2.1)).trans (H.2.2.2.2 k hk h1 h2)⟩
theorem rdr.Kp.set {w W : World} {gr gm : Nat} (H : rdr.Kp w W gr gm) {g j : Nat} (hg : g = gr ∨ g = gm) (v : Value) : rdr.Kp w (W.setCell ⟨g, j, none⟩ v) gr gm := by
  obtain ⟨h1, h2, h3, h4, h5⟩ := H
  refine ⟨h1, h2, h3, by rw [show (W.setCell ⟨g, j, none⟩ v).heap.size = W.heap.size from by simp]; exact h4, fun k hk n1 n2 => ?_⟩
  exact (Below.heap_setCell W ⟨g, j, none⟩ v k (by rcases hg with rfl | rfl <;> assumption)).trans (h5 k hk n1 n2)
theorem rdr.Kp.grown {w W W' : World} {gr gm : Nat} (H : rdr.Kp w W gr gm) {row : Option Nat} (hg : W.grownBy W' row) (hr : ∀ k, row = some k → w.heap.size ≤ k) : rdr.Kp w W' gr gm :=
  ⟨hg.os.trans H.1, hg.tape.trans H.2.1, hg.output.trans H.2.2.1, Nat.le_trans H.2.2.2.1 hg.size, fun k hk n1 n2 => (hg.block k (Nat.lt_of_lt_of_le hk H.2.2.2.1) (fun e => by have := hr k e.symm; omega)).trans (H.2.2.2.2 k hk n1 n2)⟩
theorem rdr.Kp.to_below {w0 w W : World} {gr gm : Nat} (H : rdr.Kp w W gr gm) (hb : Below w0.heap.size w0 w) (h1 : w0.heap.size ≤ gr) (h2 : w0.heap.size ≤ gm) : Below w0.heap.size w0 W :=
  ⟨H.1.trans hb.os, H.2.1.trans hb.tape, H.2.2.1.trans hb.output, Nat.le_trans hb.size H.2.2.2.1, fun k hk => (H.2.2.2.2 k (Nat.lt_of_lt_of_le hk hb.size) (by omega) (by omega)).trans (hb.block k hk)⟩
/-- the reader at a block, reading what is left -/
def rdr.At (W : World) (gr : Nat) (okB : Nat → Prop) (xs : List Int) : Prop := ∃ A c, W.heap[gr]? = some (.cells #[.slice A xs.length c] 65 (0, 0)) ∧ xs.length ≤ c ∧ Kd.F (Kd.int .u8) W okB A xs.length xs
theorem rdr.At.move {W W' : World} {gr : Nat} {okB : Nat → Prop} {xs : List Int} (H : rdr.At W gr okB xs) (h1 : W'.heap[gr]? = W.heap[gr]?) (h2 : ∀ k, okB k → k < W.heap.size → W'.heap[k]? = W.heap[k]?) : rdr.At W' gr okB xs := by
  obtain ⟨A, c, e1, e2, e3⟩ := H
  exact ⟨A, c, h1.trans e1, e2, Kd.F_step e3 h2⟩
theorem rdr.At.below {W W' : World} {gr : Nat} {okB : Nat → Prop} {xs : List Int} (H : rdr.At W gr okB xs) (hb : Below W.heap.size W W') : rdr.At W' gr okB xs := by
  have hlt : gr < W.heap.size := by obtain ⟨A, c, e1, _⟩ := H; exact blk_lt e1
  exact H.move (hb.block _ hlt) (fun k _ hk => hb.block k hk)
theorem rdr.other {w : World} {g h' : Nat} {o : Obj} (j : Nat) (v : Value) (hg : w.heap[h']? = some o) (hne : h' ≠ g) : (w.setCell ⟨g, j, none⟩ v).heap[h']? = some o := (Below.heap_setCell w ⟨g, j, none⟩ v h' hne).trans hg
def rdr.Sm (w W : World) (gr gm g4 : Nat) (okB : Nat → Prop) (b : Int) (l : Bool) (k : Int) (N : Int → Int) (v : Value) (ls : List Int) : Prop :=
  rdr.Kp w W gr gm ∧ W.heap[gm]? = some (.cells (rdr.cells k N v) 24 (0, 0)) ∧ Kd.R (Kd.int .i32) 21 W w.heap.size (fun _ => True) v ls ∧ (gr < w.heap.size ∧ gm < w.heap.size ∧ gr ≠ gm ∧ w.heap.size ≤ g4 ∧ ∀ k, okB k → k ≠ gr ∧ k ≠ gm ∧ k < w.heap.size) ∧ W.heap[g4]? = some (.cells #[.int .u8 b, .bool l] 46 (0, 0))
theorem rdr.Sm.below {w W W' : World} {gr gm g4 : Nat} {okB : Nat → Prop} {b : Int} {l : Bool} {k : Int} {N : Int → Int} {v : Value} {ls : List Int} (H : rdr.Sm w W gr gm g4 okB b l k N v ls) (hb : Below W.heap.size W W') : rdr.Sm w W' gr gm g4 okB b l k N v ls :=
  ⟨H.1.below hb, blk_below H.2.1 hb, Kd.R_below H.2.2.1 hb, H.2.2.2.1, blk_below H.2.2.2.2 hb⟩
/-- what take leaves -/
theorem rdr.At.took {W : World} {gr : Nat} {okB : Nat → Prop} {xs : List Int} {A : Option Addr} {c n : Nat} (h1 : W.heap[gr]? = some (.cells #[.slice A xs.length c] 65 (0, 0))) (h2 : xs.length ≤ c) (h3 : Kd.F (Kd.int .u8) W okB A xs.length xs) (hn : n ≤ xs.length) (hg : ¬ okB gr) :
    rdr.At (W.setCell ⟨gr, 0, none⟩ (.slice (rdr.cut A c n) (xs.length - n) (c - n))) gr okB (xs.drop n) := by
  have e : (xs.drop n).length = xs.length - n := List.length_drop
  refine ⟨rdr.cut A c n, c - n, ?_, by rw [e]; omega, ?_⟩
  · rw [e]
    exact blk_put h1 0 _ rfl
  · refine F_far_ (Kd.F_imp h3 fun W' hC => ?_) hg _
    have := Kd.C_drop (c := c) hC hn h2
    rw [show n * (Kd.int .u8).sz = n from Nat.mul_one n] at this
    exact this
theorem rdr.Sm.took {w W : World} {gr gm g4 : Nat} {okB : Nat → Prop} {b : Int} {l : Bool} {k : Int} {N : Int → Int} {v : Value} {ls : List Int} (H : rdr.Sm w W gr gm g4 okB b l k N v ls) (u : Value) (t : TypeId) (cs : Array Value) (ht : W.heap[gr]? = some (.cells cs t (0, 0))) (htt : t = 65) : rdr.Sm w (W.setCell ⟨gr, 0, none⟩ u) gr gm g4 okB b l k N v ls := by
  subst htt
  obtain ⟨h1, h2, h3, h4, h5⟩ := H
  exact ⟨h1.set (.inl rfl) _, rdr.other 0 u h2 (Ne.symm h4.2.2.1), Kd.R_set h3 ht (by decide) 0 u, h4, rdr.other 0 u h5 (by omega)⟩
theorem rdr.Sm.put {w W : World} {gr gm g4 : Nat} {okB : Nat → Prop} {b : Int} {l : Bool} {k : Int} {N : Int → Int} {v : Value} {ls : List Int} (H : rdr.Sm w W gr gm g4 okB b l k N v ls) (i x : Int) (h0 : 0 ≤ i) (hi : i < 7) : rdr.Sm w (W.setCell ⟨gm, (i + 1).toNat, none⟩ (.int .i64 x)) gr gm g4 okB b l k (rdr.upd N i x) v ls := by
  obtain ⟨h1, h2, h3, h4, h5⟩ := H
  exact ⟨h1.set (.inr rfl) _, blk_put h2 _ _ (rdr.cells_put k N v i x h0 hi), Kd.R_set h3 h2 (by decide) _ _, h4, rdr.other _ _ h5 (by omega)⟩
theorem rdr.At.put {W : World} {gr gm : Nat} {okB : Nat → Prop} {xs : List Int} (H : rdr.At W gr okB xs) (j : Nat) (u : Value) (h1 : gr ≠ gm) (h2 : ∀ k, okB k → k ≠ gm) : rdr.At (W.setCell ⟨gm, j, none⟩ u) gr okB xs :=
  H.move (Below.heap_setCell W ⟨gm, j, none⟩ u gr h1) (fun k hk _ => Below.heap_setCell W ⟨gm, j, none⟩ u k (h2 k hk))
theorem rdr.At.grown {w W W' : World} {gr : Nat} {okB : Nat → Prop} {xs : List Int} (H : rdr.At W gr okB xs) {row : Option Nat} (hg : W.grownBy W' row) (hr : ∀ k, row = some k → w.heap.size ≤ k) (h1 : gr < w.heap.size) (h2 : ∀ k, okB k → k < w.heap.size) (hs : w.heap.size ≤ W.heap.size) : rdr.At W' gr okB xs :=
  H.move (hg.block gr (by omega) (fun e => by have := hr _ e.symm; omega)) (fun k hk hlt => hg.block k hlt (fun e => by have := hr _ e.symm; have := h2 k hk; omega))
theorem rdr.Sm.grow {w W W' : World} {gr gm g4 : Nat} {okB : Nat → Prop} {b : Int} {l : Bool} {k : Int} {N : Int → Int} {v v' : Value} {ls ls' : List Int} (H : rdr.Sm w W gr gm g4 okB b l k N v ls) (hg : W.grownBy W' v.ownBlock) (ho : Kd.R (Kd.int .i32) 21 W' w.heap.size (fun _ => True) v' ls') :
    W'.heap[gm]? = some (.cells (rdr.cells k N v) 24 (0, 0)) ∧ (W'.heap[gm]? = some (.cells (rdr.cells k N v) 24 (0, 0)) → rdr.Sm w (W'.setCell ⟨gm, 8, none⟩ v') gr gm g4 okB b l k N v' ls') := by
  obtain ⟨h1, h2, h3, h4, h5⟩ := H
  refine ⟨blk_grown h2 hg (Kd.R_ne h3 h2 (by decide)), fun h2' => ?_⟩
  exact ⟨(h1.grown hg (Kd.R_base h3)).set (.inr rfl) _, blk_put h2' 8 v' (rdr.cells_list k N v v'), Kd.R_set ho h2' (by decide) 8 v', h4, rdr.other 8 v' (blk_grown h5 hg (Kd.R_ne h3 h5 (by decide))) (by omega)⟩
def rdr.Post (w : World) (gr gm : Nat) (okB : Nat → Prop) (k : Int) (r : Option ((Int → Int) × List Int × List Int)) (e : Ending) (w' : World) : Prop :=
  match r with
  | some (N', ls, xs') => e = .returned (.tuple #[]) ∧ ∃ v, rdr.Kp w w' gr gm ∧ rdr.At w' gr okB xs' ∧ w'.heap[gm]? = some (.cells (rdr.cells k N' v) 24 (0, 0)) ∧ Kd.R (Kd.int .i32) 21 w' w.heap.size (fun _ => True) v ls
  | none => e = .panicked shortP ∧ rdr.Kp w w' gr gm ∧ ∃ N' v, w'.heap[gm]? = some (.cells (rdr.cells k N' v) 24 (0, 0))
theorem rdr.Post.bad {w w' : World} {gr gm g4 : Nat} {okB : Nat → Prop} {b : Int} {l : Bool} {k : Int} {N : Int → Int} {v : Value} {ls : List Int} {r : Option ((Int → Int) × List Int × List Int)} (hr : none = r) (H : rdr.Sm w w' gr gm g4 okB b l k N v ls) : rdr.Post w gr gm okB k r (.panicked shortP) w' := by
  subst hr
  exact ⟨rfl, H.1, _, _, H.2.1⟩
theorem rdr.Post.good {w w' : World} {gr gm g4 : Nat} {okB : Nat → Prop} {b : Int} {l : Bool} {k : Int} {N : Int → Int} {v : Value} {ls xs : List Int} {r : Option ((Int → Int) × List Int × List Int)} (hr : some (N, ls, xs) = r) (H : rdr.Sm w w' gr gm g4 okB b l k N v ls) (HA : rdr.At w' gr okB xs) : rdr.Post w gr gm okB k r (.returned (.tuple #[])) w' := by
  subst hr
  exact ⟨rfl, v, H.1, HA, H.2.1, H.2.2.1⟩
theorem rdr.bor64 (a b i : Nat) (ha : 2 ^ i * a + b < 2 ^ 60) (hb : b < 2 ^ i) : Go.bits .or .i64 ((2 ^ i * a : Nat) : Int) (b : Int) = ((2 ^ i * a + b : Nat) : Int) := by
  have e : Go.bits .or .i64 ((2 ^ i * a : Nat) : Int) (b : Int) = IntKind.i64.wrap (((BitVec.ofInt 64 ((2 ^ i * a : Nat) : Int) ||| BitVec.ofInt 64 (b : Int)).toNat : Nat) : Int) := rfl
  have hx : 2 ^ i * a < 2 ^ 60 := by omega
  have h1 : (BitVec.ofInt 64 ((2 ^ i * a : Nat) : Int)).toNat = 2 ^ i * a := by rw [BitVec.toNat_ofInt]; omega
  have h2 : (BitVec.ofInt 64 (b : Int)).toNat = b := by rw [BitVec.toNat_ofInt]; omega
  rw [e, BitVec.toNat_or, h1, h2, ← Nat.two_pow_add_eq_or_of_lt hb, i64_w]
  unfold wrap64
  omega
theorem rdr.step_eq (x b : Int) (hx0 : 0 ≤ x) (hx : x < 2 ^ 50) (hb0 : 0 ≤ b) (hb : b ≤ 255) : rdr.step x b = x * 256 + b := by
  obtain ⟨x, rfl⟩ := Int.eq_ofNat_of_zero_le hx0
  obtain ⟨b, rfl⟩ := Int.eq_ofNat_of_zero_le hb0
  unfold rdr.step
  have e1 : wrap64 ((x : Int) * 256) = ((2 ^ 8 * x : Nat) : Int) := by unfold wrap64; omega
  have e2 : wrap64 (b : Int) = (b : Int) := by unfold wrap64; omega
  rw [e1, e2, rdr.bor64 x b 8 (by omega) (by omega)]
  omega
theorem rdr.two_le (xs : List Int) (hb : ∀ x ∈ xs, 0 ≤ x ∧ x ≤ 255) (hl : 2 ≤ xs.length) : 0 ≤ rdr.num (xs.take 2) 2 0 0 ∧ rdr.num (xs.take 2) 2 0 0 ≤ 65535 := by
  match xs, hl, hb with
  | a :: b :: r, _, hb =>
    have ha := hb a (by simp)
    have hb' := hb b (by simp)
    have e : rdr.num ((a :: b :: r).take 2) 2 0 0 = rdr.step (rdr.step 0 a) b := rfl
    rw [e, rdr.step_eq 0 a (by omega) (by omega) ha.1 ha.2, rdr.step_eq (0 * 256 + a) b (by omega) (by omega) hb'.1 hb'.2]
    omega
/-- a call that panics, in a region that draws -/
theorem callP_ {P : Program} {ops : Array Oper} {Q : Exit → Act → World → Prop} {oi : Oper} {N : Option Tmp} {a : Act} {w : World} {K : Act → World → Prop} (f : FuncId) (args : Array Value) (hw : Region.wanted oi (yielded ops a.tmps) = true) (hrun : (execOp a.eval oi).run P w = .ok (.enter f args) w)
    (h : Calls P f args w fun e w' => ∃ ch, e = .panicked ch ∧ Q (.panic ch) a w') : if Region.wanted oi (yielded ops a.tmps) = true then Oper.wp P oi a w K Q else K (a.put N undef) w := by
  rw [if_pos hw]
  unfold Oper.wp
  rw [hrun, Oper.upon_enter]
  refine h.mono fun e w'' hh => ?_
  obtain ⟨ch, rfl, hk⟩ := hh
  exact hk
def msg_read.T10 : Bool × List (List Nat × List Nat) := (true, [([], []), ([], []), ([1], [1]), ([2], [2]), ([3], [3]), ([], []), ([5], [5]), ([6], [6]), ([7], [7]), ([4, 8, 6], [4, 8]), ([0, 0, 1, 2, 3, 4, 5, 6, 7, 8, 9], [0]), ([10, 0, 1, 2, 3, 4, 5, 6, 7, 8, 9], [10]), ([11, 9, 9, 0, 1, 2, 3, 4, 5, 6, 7, 8, 9], [9, 11])])
def msg_read.B10 : List Nat := [0, 0, 2, 6, 14, 0, 32, 96, 224, 510, 1023, 2047, 4095]
theorem msg_read.tab10 : rtab .any (opsOf Try.f30 10) = msg_read.T10 := by kernel_rfl
theorem msg_read.bits10 : waitsOk msg_read.T10.2 msg_read.B10 = true := by kernel_rfl
set_option maxHeartbeats 8000000 in
set_option maxRecDepth 100000 in
theorem rdr_read.ok (gr gm : Nat) (okB : Nat → Prop) (b : Int) (l : Bool) (k : Int) (N0 : Int → Int) (xs0 : List Int) (rd : Option ((Int → Int) × List Int × List Int)) (w : World) (hgr : gr < w.heap.size) (hgm : gm < w.heap.size) (hne : gr ≠ gm) (hok : ∀ k, okB k → k ≠ gr ∧ k ≠ gm ∧ k < w.heap.size)
    (hm : w.heap[gm]? = some (.cells (rdr.cells k N0 (.slice none 0 0)) 24 (0, 0))) (hA : rdr.At w gr okB xs0) (hB : ∀ x ∈ xs0, 0 ≤ x ∧ x ≤ 255) (hrd : rdr.read b l N0 xs0 = rd) :
    Calls Try.prog 30 #[.pointer (some ⟨gr, 0, none⟩), .agg #[.int .u8 b, .bool l], .pointer (some ⟨gm, 0, none⟩)] w (rdr.Post w gr gm okB k rd) := by
  have hu24 := Try.underlying24
  have hu46 := Try.underlying46
  have hu50 := Try.underlying50
  have HRD := Aside0.mk hrd
  have HBY := Aside0.mk hB
  have HOK := Aside0.mk (show (¬ okB gr) ∧ ¬ okB gm from ⟨fun h => (hok _ h).1 rfl, fun h => (hok _ h).2.1 rfl⟩)
  have HF := Aside0.mk (show gr < w.heap.size ∧ gm < w.heap.size ∧ gr ≠ gm ∧ ∀ k, okB k → k ≠ gr ∧ k ≠ gm ∧ k < w.heap.size from ⟨hgr, hgm, hne, hok⟩)
  have HM := Aside0.mk hm
  have AT := Aside0.mk hA
  clear hrd hB hm hA hgr hgm hne hok
  go_enter Try.func30, Try.ntmps30
  go_upto_region 1 with (first | ((with_reducible refine gate_dst (N := 4) rfl ?_); refine box_event ?hg (N := 4) ?hd (cs := #[.int .u8 b, .bool l]) (t := 46) ?hr ?_; (case hd => rfl); (case hg => rfl); (case hr => first | (go_simp; done) | (go_simp; rfl)); intro g4 hg_ wb hbox hbb; have SM : Aside0 (rdr.Sm w wb gr gm g4 okB b l k N0 (.slice none 0 0) []) := ⟨(rdr.Kp.refl w gr gm).below hbb, blk_below HM.out hbb, Kd.R_nil _ _ _ _ _, ⟨HF.out.1, HF.out.2.1, HF.out.2.2.1, Nat.le_of_eq hg_.symm, HF.out.2.2.2⟩, hbox⟩; replace AT := Aside0.mk (AT.out.below hbb); clear hg_ hbox hbb))
  go_wp2_with (first | (go_at_call 24; (refine (msg_nums.good gm _).mono ?_); rintro e wn ⟨rfl, hb⟩; replace SM := Aside0.mk (SM.out.below hb); replace AT := Aside0.mk (AT.out.below hb); clear hb))
  clear HM
  go_loopg [10] 7 (fun m v10 W => ∃ (i : Int) (N : Int → Int) (xs : List Int), v10 = .int .i64 i ∧ 0 ≤ i ∧ Aside0 (i + m = 7) ∧ Aside0 ((rdr.nums b m i N xs).bind (fun p => rdr.rest l p.1 p.2) = rd) ∧ Aside0 (∀ x ∈ xs, 0 ≤ x ∧ x ≤ 255) ∧ Aside0 (rdr.Sm w W gr gm g4 okB b l k N (.slice none 0 0) []) ∧ Aside0 (rdr.At W gr okB xs))
  case atStart => exact ⟨0, N0, xs0, rfl, by omega, ⟨by omega⟩, HRD, HBY, SM, AT⟩
  case round =>
    clear HRD HBY SM AT
    obtain ⟨i, N, xs, rfl, hi0, HI, HRD, HBY, SM, AT⟩ := hrel
    obtain ⟨y0, y1, _, _⟩ := msg_of.cell2 SM.out.2.2.2.2
    cases gk with
    | zero =>
      have q : decide (i < 7) = false := decide_eq_false (by have := HI.out; omega)
      replace HRD := Aside0.mk (show rdr.rest l N xs = rd from HRD.out)
      cases l with
      | false =>
        go_wp2
        go_end0
        exact rdr.Post.good HRD.out SM.out AT.out
      | true =>
        by_cases hs : 2 ≤ xs.length
        · have h := HRD.out
          rw [rdr.rest, if_pos rfl, if_pos hs] at h
          obtain ⟨A, c, a1, a2, a3⟩ := AT.out
          have HN : Aside0 (Calls Try.prog 40 #[.pointer (some ⟨gr, 0, none⟩), .int .i64 2] wr fun e w' => e = .returned (.int .i64 (rdr.num (xs.take 2) 2 0 0)) ∧ w' = wr.setCell ⟨gr, 0, none⟩ (.slice (rdr.cut A c 2) (xs.length - 2) (c - 2))) := ⟨rdr_number.ok gr A c xs 2 okB wr a1 a2 a3 HOK.out.1 (by omega) (by omega)⟩
          obtain ⟨W1, hW1⟩ : ∃ W1, W1 = wr.setCell ⟨gr, 0, none⟩ (.slice (rdr.cut A c 2) (xs.length - 2) (c - 2)) := ⟨_, rfl⟩
          have SM1 : Aside0 (rdr.Sm w W1 gr gm g4 okB b true k N (.slice none 0 0) []) := ⟨by rw [hW1]; exact SM.out.took _ 65 _ a1 rfl⟩
          have AT1 : Aside0 (rdr.At W1 gr okB (xs.drop 2)) := ⟨by rw [hW1]; exact rdr.At.took a1 a2 a3 hs HOK.out.1⟩
          rw [← hW1] at HN
          obtain ⟨z0, z1⟩ := rdr.two_le xs HBY.out hs
          obtain ⟨n, hn⟩ : ∃ n, rdr.num (xs.take 2) 2 0 0 = n := ⟨_, rfl⟩
          rw [hn] at h HN z0 z1
          have HZ := Aside0.mk (And.intro z0 z1)
          have HL := Aside0.mk h
          have HB2 : Aside0 (∀ x ∈ xs.drop 2, 0 ≤ x ∧ x ≤ 255) := ⟨fun x hx => HBY.out x (List.mem_of_mem_drop hx)⟩
          clear h hn a1 a2 a3 hW1 SM AT HRD HBY hs z0 z1
          go_wp2_with (first | (go_at_call 40; (refine (HN.out).mono ?_); rintro e w1 ⟨rfl, hw1⟩; subst hw1; clear HN y0 y1))
          go_loopg [30] n.toNat (fun m v30 W => ∃ (j : Int) (ls : List Int) (v : Value) (xs : List Int), v30 = .int .i64 j ∧ 0 ≤ j ∧ Aside0 (m = (n - j).toNat) ∧ Aside0 ((ls.length : Int) ≤ j ∧ j ≤ 65536) ∧ Aside0 ((rdr.list m ls xs).bind (fun z => some (N, z.1, z.2)) = rd) ∧ Aside0 (∀ x ∈ xs, 0 ≤ x ∧ x ≤ 255) ∧ Aside0 (rdr.Sm w W gr gm g4 okB b true k N v ls) ∧ Aside0 (rdr.At W gr okB xs))
          case atStart => exact ⟨0, [], _, _, rfl, by omega, ⟨by omega⟩, ⟨by simp⟩, HL, HB2, SM1, AT1⟩
          case round =>
            clear HL HB2 SM1 AT1
            obtain ⟨j, ls, v, ys, rfl, hj0, HJ, HJ2, HRD, HBY, SM, AT⟩ := hrel
            cases gk with
            | zero =>
              have q : decide (j < n) = false := decide_eq_false (by have := HJ.out; omega)
              go_wp2
              go_end0
              exact rdr.Post.good HRD.out SM.out AT.out
            | succ m =>
              have q : decide (j < n) = true := decide_eq_true (by have := HJ.out; omega)
              go_upto_region 10 with (fail)
              refine start_ (n := 13) (S := fun W_ => W_.cell? ⟨gm, 8, none⟩ = some v) (ds := [12]) #[false, false, false, false, false, false, false, false, false, false, false, false, false] (by kernel_rfl) rfl rfl ((blk_cell (SM.out.below (below_drew (Below.refl _ _))).2.1 8).trans rfl) (fun hHeld => ?_); refine with_tabW msg_read.tab10 msg_read.bits10 (fun HT_ HW_ => ?_)
              replace AT := Aside0.mk (AT.out.below (below_drew (Below.refl _ _)))
              replace SM := Aside0.mk (SM.out.below (below_drew (Below.refl _ _)))
              revert AT SM hHeld
              generalize World.drew _ = wv
              intro hHeld AT SM
              refine pure_ (i := 0) (N := some 32) (v := ?_) (a' := ?_) #[true, false, false, false, false, false, false, false, false, false, false, false, false] rfl rfl (any_of HT_.out (by kernel_rfl)) (fun _ _ _ h => h) (Or.inl ⟨by rfl, ?_⟩) ?_ ?_
              rotate_left
              ·
                intro w'
                go_simp
                with_reducible rfl
              rotate_left
              ·
                simp only [Act.put, l_1, l_2, l_3, i64_w, i32_w]
                rfl
              refine pure_ (i := 1) (N := some 33) (v := ?_) (a' := ?_) #[true, true, false, false, false, false, false, false, false, false, false, false, false] rfl rfl (any_of HT_.out (by kernel_rfl)) (fun _ _ _ h => h) (Or.inl ⟨by rfl, ?_⟩) ?_ ?_
              rotate_left
              ·
                intro w'
                go_simp
                with_reducible rfl
              rotate_left
              ·
                simp only [Act.put, l_1, l_2, l_3, i64_w, i32_w]
                rfl
              refine pure_ (i := 2) (N := some 34) (v := ?_) (a' := ?_) #[true, true, true, false, false, false, false, false, false, false, false, false, false] rfl rfl (any_of HT_.out (by kernel_rfl)) (fun _ _ _ h => h) (Or.inl ⟨by rfl, ?_⟩) ?_ ?_
              rotate_left
              ·
                intro w'
                go_simp
                with_reducible rfl
              rotate_left
              ·
                simp only [Act.put, l_1, l_2, l_3, i64_w, i32_w]
                rfl
              refine pure_ (i := 3) (N := some 35) (v := ?_) (a' := ?_) #[true, true, true, true, false, false, false, false, false, false, false, false, false] rfl rfl (any_of HT_.out (by kernel_rfl)) (fun _ _ _ h => h) (Or.inl ⟨by rfl, ?_⟩) ?_ ?_
              rotate_left
              ·
                intro w'
                go_simp
                with_reducible rfl
              rotate_left
              ·
                simp only [Act.put, l_1, l_2, l_3, i64_w, i32_w]
                rfl
              refine take_ (i := 4) (N := some 36) (v := ?_) (a' := ?_) #[true, true, true, true, true, false, false, false, false, false, false, false, false] rfl rfl (take_ofW HT_.out HW_.out (by kernel_rfl)) (fun _ _ _ h => h) (Or.inl ⟨by rfl, ?_⟩) hHeld ?_ ?_
              rotate_left
              ·
                rintro w' s0
                go_simp
                with_reducible rfl
              rotate_left
              ·
                simp only [Act.put, l_1, l_2, l_3, i64_w, i32_w]
                rfl
              refine pure_ (i := 5) (N := some 37) (v := ?_) (a' := ?_) #[true, true, true, true, true, true, false, false, false, false, false, false, false] rfl rfl (any_of HT_.out (by kernel_rfl)) (fun _ _ _ h => h) (Or.inl ⟨by rfl, ?_⟩) ?_ ?_
              rotate_left
              ·
                intro w'
                go_simp
                with_reducible rfl
              rotate_left
              ·
                simp only [Act.put, l_1, l_2, l_3, i64_w, i32_w]
                rfl
              obtain ⟨A, c, a1, a2, a3⟩ := AT.out
              have hX := HRD.out
              rw [rdr.list] at hX
              by_cases hs : 4 ≤ ys.length
              ·
                rw [if_pos hs] at hX
                have HN : Aside0 (Calls Try.prog 40 #[.pointer (some ⟨gr, 0, none⟩), .int .i64 4] wv fun e w' => e = .returned (.int .i64 (rdr.num (ys.take 4) 4 0 0)) ∧ w' = wv.setCell ⟨gr, 0, none⟩ (.slice (rdr.cut A c 4) (ys.length - 4) (c - 4))) := ⟨rdr_number.ok gr A c ys 4 okB wv a1 a2 a3 HOK.out.1 (by omega) (by omega)⟩
                obtain ⟨W1, hW1⟩ : ∃ W1, W1 = wv.setCell ⟨gr, 0, none⟩ (.slice (rdr.cut A c 4) (ys.length - 4) (c - 4)) := ⟨_, rfl⟩
                have SM1 : Aside0 (rdr.Sm w W1 gr gm g4 okB b true k N v ls) := ⟨by rw [hW1]; exact SM.out.took _ 65 _ a1 rfl⟩
                have AT1 : Aside0 (rdr.At W1 gr okB (ys.drop 4)) := ⟨by rw [hW1]; exact rdr.At.took a1 a2 a3 hs HOK.out.1⟩
                rw [← hW1] at HN
                obtain ⟨z, hz⟩ : ∃ z, rdr.num (ys.take 4) 4 0 0 = z := ⟨_, rfl⟩
                rw [hz] at hX HN
                have HRD2 := Aside0.mk hX
                have HB2 : Aside0 (∀ x ∈ ys.drop 4, 0 ≤ x ∧ x ≤ 255) := ⟨fun x hx => HBY.out x (List.mem_of_mem_drop hx)⟩
                clear hz a1 a2 a3 hW1 SM AT HBY hs hX HRD hHeld
                refine one_ (i := 6) (N := some 38) #[true, true, true, true, true, true, true, false, false, false, false, false, false] rfl rfl (one_of HT_.out (by kernel_rfl)) (by decide) (fun K hK => ?_)
                refine call_ 40 #[.pointer (some ⟨gr, 0, none⟩), .int .i64 4] (by rfl) rfl ?_ ?_
                · go_simp
                refine (HN.out).mono ?_
                rintro e w1 ⟨rfl, hw1⟩
                subst hw1
                refine ⟨_, rfl, ?_⟩
                refine hK.out _ _ ((blk_cell SM1.out.2.1 8).trans rfl) (fun hHeld => ?_)
                clear hK K
                refine norm_ (a' := ?_) ?_ ?_
                rotate_left
                ·
                  show Act.put _ (some 38) _ = _
                  simp only [Act.put, l_1, l_2, l_3, i64_w, i32_w]
                  rfl
                clear HN
                refine pure_ (i := 7) (N := some 39) (v := ?_) (a' := ?_) #[true, true, true, true, true, true, true, true, false, false, false, false, false] rfl rfl (any_of HT_.out (by kernel_rfl)) (fun _ _ _ h => h) (Or.inl ⟨by rfl, ?_⟩) ?_ ?_
                rotate_left
                ·
                  intro w'
                  go_simp
                  with_reducible rfl
                rotate_left
                ·
                  simp only [Act.put, l_1, l_2, l_3, i64_w, i32_w]
                  rfl
                refine one_ (i := 8) (N := some 40) #[true, true, true, true, true, true, true, true, true, false, false, false, false] rfl rfl (one_of HT_.out (by kernel_rfl)) (by decide) (fun K hK => ?_)
                refine Kd.R_lit_step (Kd.int .i32) _ 21 ?hg (N := 40) ?hd (xs := ([wrap32 z] : List Int)) (inner := [.int .i32 (wrap32 z)]) (ok := fun _ => True) (okp := fun _ => True) ?hr ?hp (fun _ hk => hk) trivial (Below.refl _ _) (Nat.le_refl _) (by simp) ?_; (case hd => rfl); (case hg => rfl); (case hr => first | (go_simp; done) | (go_simp; rfl)); (case hp => exact (Reps.one (show Kd.M (Kd.int .i32) _ _ _ (wrap32 z) [.int .i32 (wrap32 z)] from rfl) (Reps.none _ _))); intro vl wl hol hbl hg_ hnew_; clear hg_ hnew_; have SM2 := Aside0.mk (SM1.out.below hbl); have AT2 := Aside0.mk (AT1.out.below hbl); have HL := Aside0.mk hol; clear hol hbl; obtain ⟨Al, cl, el⟩ := Kd.R_slice HL.out; subst el
                refine hK.out _ _ ((blk_cell SM2.out.2.1 8).trans rfl) (fun hHeld => ?_)
                clear hK K
                refine norm_ (a' := ?_) ?_ ?_
                rotate_left
                ·
                  show Act.put _ (some 40) _ = _
                  simp only [Act.put, l_1, l_2, l_3, i64_w, i32_w]
                  rfl
                refine one_ (i := 9) (N := some 41) #[true, true, true, true, true, true, true, true, true, true, false, false, false] rfl rfl (one_of HT_.out (by kernel_rfl)) (by decide) (fun K hK => ?_)
                refine Kd.R_append_rows_step (Kd.int .i32) (w0 := wl) w.heap.size (by rfl) (.tmp 36) (.tmp 40) 22 21 (.int .i32 0) 4 rfl Try.underlying22 info21 rfl (by decide) (by omega) v ls ([wrap32 z] : List Int) _ _ _ (fun _ => True) (fun _ => False) rfl rfl ?aO ?aR (fun _ _ h => h) (fun _ h => h.elim) ?aF ?aB ?aS ?aL ?_; (case aR => exact (Kd.R_reads' HL.out).2.2); (case aB => exact (Below.refl _ _)); (case aF => exact (fun _ _ => trivial)); (case aO => exact SM2.out.2.2.1); (case aS => exact SM2.out.1.2.2.2.1); (case aL => have := HJ2.out; (try simp only [List.length_cons, List.length_nil]); omega); intro vn wn ho hb hg hat; obtain ⟨Av, cv, ev⟩ := Kd.R_slice ho; subst ev; have SM3 := Aside0.mk (SM2.out.grow hg ho); have AT3 := Aside0.mk (AT2.out.grown hg (Kd.R_base SM2.out.2.2.1) SM2.out.2.2.2.1.1 (fun k hk => (SM2.out.2.2.2.1.2.2.2.2 k hk).2.2) SM2.out.1.2.2.2.1); clear ho hb hg hat HL SM1 AT1 SM2 AT2
                refine hK.out _ _ ((blk_cell SM3.out.1 8).trans rfl) (fun hHeld => ?_)
                clear hK K
                refine norm_ (a' := ?_) ?_ ?_
                rotate_left
                ·
                  show Act.put _ (some 41) _ = _
                  simp only [Act.put, l_1, l_2, l_3, i64_w, i32_w]
                  rfl
                refine pure_ (i := 10) (N := some 42) (v := ?_) (a' := ?_) #[true, true, true, true, true, true, true, true, true, true, true, false, false] rfl rfl (any_of HT_.out (by kernel_rfl)) (fun _ _ _ h => h) (Or.inl ⟨by rfl, ?_⟩) ?_ ?_
                rotate_left
                ·
                  intro w'
                  go_simp
                  with_reducible rfl
                rotate_left
                ·
                  simp only [Act.put, l_1, l_2, l_3, i64_w, i32_w]
                  rfl
                refine pure_ (i := 11) (N := some 43) (v := ?_) (a' := ?_) #[true, true, true, true, true, true, true, true, true, true, true, true, false] rfl rfl (any_of HT_.out (by kernel_rfl)) (fun _ _ _ h => h) (Or.inl ⟨by rfl, ?_⟩) ?_ ?_
                rotate_left
                ·
                  intro w'
                  go_simp
                  with_reducible rfl
                rotate_left
                ·
                  simp only [Act.put, l_1, l_2, l_3, i64_w, i32_w]
                  rfl
                have z1 : wn.cell? ⟨gm, 8, none⟩ = some v := (blk_cell SM3.out.1 8).trans rfl
                have z2 : wn.frozen? ⟨gm, 8, none⟩ = false := blk_frozen SM3.out.1 8
                have SM4 := Aside0.mk (SM3.out.2 SM3.out.1)
                refine last_ (i := 12) (N := none) #[true, true, true, true, true, true, true, true, true, true, true, true, true] rfl rfl (one_of HT_.out (by kernel_rfl)) (by decide) (fun K hK => ?_)
                refine skip_ (w1 := ?_) (by rfl) rfl ?_ ?_
                rotate_left
                ·
                  go_simp
                  rfl
                refine hK.out _ _ ?_
                clear hK K
                refine done_ (done_of HT_.out (by kernel_rfl)) ?_
                clear hHeld HT_ HW_ z1 z2
                have hw : IntKind.i64.wrap (j + 1) = j + 1 := by rw [i64_w]; have := HJ2.out; unfold wrap64; omega
                go_wp2
                go_roundg m
                case measure => omega
                case rel => exact ⟨j + 1, ls ++ ([wrap32 z] : List Int), .slice Av (ls.length + 1) cv, ys.drop 4, by first | rfl | rw [hw], by omega, ⟨by have := HJ.out; omega⟩, ⟨by rw [List.length_append]; simp only [List.length_cons, List.length_nil]; have := HJ2.out; have := HZ.out; have := HJ.out; omega⟩, HRD2, HB2, ⟨by have h_ := SM4.out; rw [show (ls ++ [wrap32 z]).length = ls.length + 1 from by simp] at h_; exact h_⟩, ⟨AT3.out.put _ _ HF.out.2.2.1 (fun k hk => (HF.out.2.2.2 k hk).2.1)⟩⟩
              ·
                rw [if_neg hs] at hX
                have HP := Aside0.mk (show none = rd from hX)
                have HN := Aside0.mk (rdr_number.short gr A ys.length c 4 wv a1 (by omega))
                clear a1 a2 a3 hX HRD hs
                refine one_ (i := 6) (N := some 38) #[true, true, true, true, true, true, true, false, false, false, false, false, false] rfl rfl (one_of HT_.out (by kernel_rfl)) (by decide) (fun K hK => ?_)
                refine callP_ 40 #[.pointer (some ⟨gr, 0, none⟩), .int .i64 4] (by rfl) ?_ ?_
                · go_simp
                · refine (HN.out).mono ?_
                  rintro e w1 ⟨rfl, rfl⟩
                  exact ⟨_, rfl, ⟨rfl, rdr.Post.bad HP.out SM.out⟩⟩
        · have h := HRD.out
          rw [rdr.rest, if_pos rfl, if_neg hs] at h
          obtain ⟨A, c, a1, a2, a3⟩ := AT.out
          have HN := Aside0.mk (rdr_number.short gr A xs.length c 2 wr a1 (by omega))
          have HP := Aside0.mk h
          clear h a1 a2 a3 hs HRD
          go_wp2_with (first | (go_at_call 40; (refine (HN.out).mono ?_); rintro e w1 ⟨rfl, rfl⟩; clear HN))
          exact ⟨rfl, rdr.Post.bad HP.out SM.out⟩
    | succ m =>
      have q : decide (i < 7) = true := decide_eq_true (by have := HI.out; omega)
      have HQ := Aside0.mk (of_decide_eq_true q)
      have hX := HRD.out
      unfold rdr.nums at hX
      have hix := msg_wrong.index gm i hi0 (of_decide_eq_true q)
      have hw : IntKind.i64.wrap (i + 1) = i + 1 := by rw [i64_w]; have := HI.out; unfold wrap64; omega
      obtain ⟨t, hbt⟩ : ∃ t, Go.bits .and .u8 (b / 2 ^ min i.toNat 8) 1 = t := ⟨_, rfl⟩
      rw [show msg_bit b i = t from hbt] at hX
      by_cases d4 : t = 1
      · have e4 : decide (t = 1) = true := decide_eq_true d4
        rw [if_pos d4] at hX
        subst d4
        by_cases hs : 5 ≤ xs.length
        · rw [if_pos hs] at hX
          replace HRD := Aside0.mk hX
          clear hX
          obtain ⟨A, c, a1, a2, a3⟩ := AT.out
          have HN : Aside0 (Calls Try.prog 40 #[.pointer (some ⟨gr, 0, none⟩), .int .i64 5] wr fun e w' => e = .returned (.int .i64 (rdr.num (xs.take 5) 5 0 0)) ∧ w' = wr.setCell ⟨gr, 0, none⟩ (.slice (rdr.cut A c 5) (xs.length - 5) (c - 5))) := ⟨rdr_number.ok gr A c xs 5 okB wr a1 a2 a3 HOK.out.1 (by omega) (by omega)⟩
          obtain ⟨W1, hW1⟩ : ∃ W1, W1 = wr.setCell ⟨gr, 0, none⟩ (.slice (rdr.cut A c 5) (xs.length - 5) (c - 5)) := ⟨_, rfl⟩
          have SM1 : Aside0 (rdr.Sm w W1 gr gm g4 okB b l k N (.slice none 0 0) []) := ⟨by rw [hW1]; exact SM.out.took _ 65 _ a1 rfl⟩
          have AT1 : Aside0 (rdr.At W1 gr okB (xs.drop 5)) := ⟨by rw [hW1]; exact rdr.At.took a1 a2 a3 hs HOK.out.1⟩
          rw [← hW1] at HN
          obtain ⟨n, hn⟩ : ∃ n, rdr.num (xs.take 5) 5 0 0 = n := ⟨_, rfl⟩
          rw [hn] at HRD HN
          have HB2 : Aside0 (∀ x ∈ xs.drop 5, 0 ≤ x ∧ x ≤ 255) := ⟨fun x hx => HBY.out x (List.mem_of_mem_drop hx)⟩
          clear hn a1 a2 a3 hW1 SM AT HBY hs
          go_wp2_with (first | (go_at_call 40; (refine (HN.out).mono ?_); rintro e w1 ⟨rfl, hw1⟩; subst hw1; clear HN y0 y1; have z1 : w1.cell? ⟨gm, (i + 1).toNat, none⟩ = some (.int .i64 (N i)) := (blk_cell SM1.out.2.1 _).trans (rdr.cells_at k N _ i hi0 HQ.out); have z2 : w1.frozen? ⟨gm, (i + 1).toNat, none⟩ = false := blk_frozen SM1.out.2.1 _))
          go_roundg m
          case measure => omega
          case rel => exact ⟨i + 1, rdr.upd N i n, xs.drop 5, by first | rfl | rw [hw], by omega, ⟨by have := HI.out; omega⟩, HRD, HB2, ⟨SM1.out.put i n hi0 HQ.out⟩, ⟨AT1.out.put _ _ HF.out.2.2.1 (fun k hk => (HF.out.2.2.2 k hk).2.1)⟩⟩
        · rw [if_neg hs] at hX
          obtain ⟨A, c, a1, a2, a3⟩ := AT.out
          have HN := Aside0.mk (rdr_number.short gr A xs.length c 5 wr a1 (by omega))
          have HP := Aside0.mk (show none = rd from hX)
          clear hX a1 a2 a3 hs HRD
          go_wp2_with (first | (go_at_call 40; (refine (HN.out).mono ?_); rintro e w1 ⟨rfl, rfl⟩; clear HN))
          exact ⟨rfl, rdr.Post.bad HP.out SM.out⟩
      · have e4 : decide (t = 1) = false := decide_eq_false d4
        have e4' : (t == 1) = false := beq_eq_false_iff_ne.2 d4
        rw [if_neg d4] at hX
        replace HRD := Aside0.mk hX
        clear hX d4
        go_wp2
        go_roundg m
        case measure => omega
        case rel => exact ⟨i + 1, N, xs, by first | rfl | rw [hw], by omega, ⟨by have := HI.out; omega⟩, HRD, HBY, SM, AT⟩
def zeros9 : Array Value := #[.int .i64 0, .int .i64 0, .int .i64 0, .int .i64 0, .int .i64 0, .int .i64 0, .int .i64 0, .int .i64 0, .slice none 0 0]
def msg_Parse.Door (w W : World) (gm ge : Nat) : Prop := W.os = w.os ∧ W.tape = w.tape ∧ W.output = w.output ∧ w.heap.size ≤ W.heap.size ∧ ∀ k, k < w.heap.size → k ≠ gm → k ≠ ge → W.heap[k]? = w.heap[k]?
theorem wpS_norm {P : Program} {Q : Exit → Act → List Frame → World → Prop} {a : Act} {cs : List Frame} {w : World} {c : Code} (a' : Act) (ha : a = a') (h : c.wp P (fun e a' w' => Q e a' cs w') a' w) : c.wpS P Q a cs w := by
  subst ha
  exact wpS_of_wp h
theorem Door_of {w W W' : World} {gm ge : Nat} (hW2 : ∀ k, k ≠ gm → W'.heap[k]? = W.heap[k]?) (hW3 : W'.heap.size = W.heap.size) (hW4 : ∀ w0 : World, w0.heap.size ≤ gm → Below w0.heap.size w0 W → Below w0.heap.size w0 W') (h1 : W.os = w.os) (h2 : W.tape = w.tape) (h3 : W.output = w.output) (h4 : w.heap.size ≤ W.heap.size) (h5 : ∀ k, k < w.heap.size → k ≠ gm → k ≠ ge → W.heap[k]? = w.heap[k]?) : msg_Parse.Door w W' gm ge := by
  have hE := hW4 { w with heap := #[] } (Nat.zero_le _) ⟨h1, h2, h3, Nat.zero_le _, fun _ h => absurd h (Nat.not_lt_zero _)⟩
  exact ⟨hE.os, hE.tape, hE.output, by rw [hW3]; exact h4, fun k hk n1 n2 => (hW2 k n1).trans (h5 k hk n1 n2)⟩
set_option maxHeartbeats 8000000 in
set_option maxRecDepth 100000 in
theorem msg_Parse.catch (gm ge : Nat) (cur : Array Value) (x : Int) (older : List PanicEntry) (w : World) (hm : w.heap[gm]? = some (.cells cur 24 (0, 0))) (hn : cur.size = 9) (he : w.heap[ge]? = some (.cells #[.int .i64 x] 30 (0, 0))) :
    CallsD Try.prog 29 #[.pointer (some ⟨gm, 0, none⟩), .pointer (some ⟨ge, 0, none⟩)] (.panicking ({ v := .iface 61 (.agg #[]), recovered := false, goexit := false } :: older)) w fun e u' w' =>
      e = .returned (.tuple #[]) ∧ u' = .panicking ({ v := .iface 61 (.agg #[]), recovered := true } :: older) ∧ w'.heap[gm]? = some (.cells zeros9 24 (0, 0)) ∧ w'.heap[ge]? = some (.cells #[.int .i64 150] 30 (0, 0)) ∧ msg_Parse.Door w w' gm ge := by
  refine callsD_of_wpS Try.func29 rfl fun c₀ cs hu => ?_
  apply wpS_seq
  apply wpS_region
  simp [wpOpsS, go_sem, recoverD, hu, Try.ntmps29, Exit.thenS]
  refine wpS_norm { tmps := #[.pointer (some ⟨gm, 0, none⟩), .pointer (some ⟨ge, 0, none⟩), .iface 61 (.agg #[]), undef, undef, .iface 61 (.agg #[]), undef, undef, undef, undef, undef, undef, undef, undef, undef, undef, undef], defers := [] } rfl ?_
  have HM := Aside0.mk hm
  have HE := Aside0.mk he
  clear hm he
  have hta : ∀ w, (Instr.typeAssert (.iface 61 (.agg #[])) 20 61 true).run Try.prog w = .ok (.tuple #[.agg #[], .bool true]) w := fun _ => by kernel_rfl
  have HN := Aside0.mk (show ge ≠ gm from fun e => by rw [e, HM.out] at HE; have := HE.out; injection this with h1; injection h1 with h2 h3; cases h3)
  go_wp2_with (first | ((with_reducible refine gate_store_ (T := 24) rfl ?_); refine stA_ rfl rfl rfl rfl rfl (blk_alloc HM.out _) hn (by kernel_rfl) (by simp [Value.oneCell']) ?_; intro W' hW1 hW2 hW3 hW4; have he2 : W'.heap[ge]? = some (.cells #[.int .i64 x] 30 (0, 0)) := (hW2 _ HN.out).trans (blk_alloc HE.out _); have z1 : W'.cell? ⟨ge, 0, none⟩ = some (.int .i64 x) := (blk_cell he2 0).trans rfl; have z2 : W'.frozen? ⟨ge, 0, none⟩ = false := blk_frozen he2 0; have HX := Aside0.mk (And.intro hW1 (And.intro he2 (show msg_Parse.Door w W' gm ge from Door_of hW2 hW3 hW4 rfl rfl rfl (by simp) (fun k hk _ _ => Below.heap_alloc w _ k hk)))); clear hW1 hW2 hW3 hW4 he2))
  obtain ⟨k1, k2, k3⟩ := HX.out
  exact ⟨rfl, _, rfl, _, results_none rfl _ _ _, rfl, rfl, (Below.heap_setCell _ _ _ _ (Ne.symm HN.out)).trans k1, blk_put k2 0 _ rfl, k3.1, k3.2.1, k3.2.2.1, by rw [show (W'.setCell ⟨ge, 0, none⟩ (.int .i64 150)).heap.size = W'.heap.size from by simp]; exact k3.2.2.2.1, fun k hk n1 n2 => (Below.heap_setCell W' ⟨ge, 0, none⟩ _ k n2).trans (k3.2.2.2.2 k hk n1 n2)⟩
theorem msg_Parse.idle (p q : Value) (w : World) :
    CallsD Try.prog 29 #[p, q] .returning w fun e u' w' => e = .returned (.tuple #[]) ∧ u' = .returning ∧ w' = w := by
  refine callsD_of_wpS Try.func29 rfl fun c₀ cs hu => ?_
  apply wpS_seq
  apply wpS_region
  simp [wpOpsS, go_sem, recoverD, hu, Try.ntmps29, Exit.thenS]
  refine wpS_norm { tmps := #[p, q, .nilIface, undef, undef, .nilIface, undef, undef, undef, undef, undef, undef, undef, undef, undef, undef, undef], defers := [] } rfl ?_
  go_wp2
  cases c₀
  refine ⟨rfl, .returning, ?_, _, results_none rfl _ _ _, rfl, rfl, rfl⟩
  simp_all
abbrev msg_Parse.T : Type := Int × Int × Int × Int × Int × Int × Int × Int × List Int × Int
def msg_Parse.bad (e : Int) : msg_Parse.T := (0, 0, 0, 0, 0, 0, 0, 0, [], e)
def msg_Parse.h (kind : Int) : Option ((Int → Int) × List Int × List Int) → Option msg_Parse.T
  | none => some (msg_Parse.bad 150)
  | some (N, ls, xs) => if (xs.length : Int) > 0 then some (msg_Parse.bad 150) else (msg_wrong.f kind (N 0) (N 1) (N 2) (N 3) (N 4) (N 5) (N 6) ls).bind fun t => if t = true then some (msg_Parse.bad 150) else some (kind, N 0, N 1, N 2, N 3, N 4, N 5, N 6, ls, 0)
def msg_Parse.g (kind : Int) (body : List Int) (e : Int) : Option msg_Parse.T :=
  if e = 0 then (if 0 ≤ kind ∧ kind ≤ 255 ∧ ∀ x ∈ body, 0 ≤ x ∧ x ≤ 255 then (if msg_of.ok kind = true then msg_Parse.h kind (rdr.read (msg_of.bits kind) (msg_of.lst kind) (fun _ => 0) body) else some (msg_Parse.bad 150)) else none) else some (msg_Parse.bad e)
def msg_Parse.f (k : Nat) (l0 : List Int) : Option msg_Parse.T := (frame_Parse.f k l0).bind fun p => msg_Parse.g p.1 p.2.1 p.2.2
theorem msg_Parse.mono : ∀ l0 k, LeO (msg_Parse.f k l0) (msg_Parse.f (k + 1) l0) := by
  intro l0 k
  unfold msg_Parse.f
  exact LeO.bind (frame_Parse.mono l0 k) (fun _ => LeO.refl _)
def msg_Parse.PS (w W : World) (gm ge : Nat) (cs : Array Value) (x : Int) : Prop := Below w.heap.size w W ∧ W.heap[gm]? = some (.cells cs 24 (0, 0)) ∧ W.heap[ge]? = some (.cells #[.int .i64 x] 30 (0, 0)) ∧ w.heap.size ≤ gm ∧ w.heap.size ≤ ge
theorem msg_Parse.PS.below {w W W' : World} {gm ge : Nat} {cs : Array Value} {x : Int} (H : msg_Parse.PS w W gm ge cs x) (hb : Below W.heap.size W W') : msg_Parse.PS w W' gm ge cs x :=
  ⟨below_step H.1 hb, blk_below H.2.1 hb, blk_below H.2.2.1 hb, H.2.2.2⟩
theorem msg_Parse.PS.ne {w W : World} {gm ge : Nat} {cs : Array Value} {x : Int} (H : msg_Parse.PS w W gm ge cs x) : gm ≠ ge := blk_ne H.2.1 H.2.2.1 (by decide)
theorem msg_Parse.PS.err {w W : World} {gm ge : Nat} {cs : Array Value} {x : Int} (H : msg_Parse.PS w W gm ge cs x) (y : Int) : msg_Parse.PS w (W.setCell ⟨ge, 0, none⟩ (.int .i64 y)) gm ge cs y :=
  ⟨below_set H.1 H.2.2.2.2, rdr.other 0 _ H.2.1 H.ne, blk_put H.2.2.1 0 _ rfl, H.2.2.2⟩
/-- a struct stored into its block, as an equation on the run -/
theorem stA_run {P : Program} {ev : Operand → Value} {o : Oper} {W : World} {T : TypeId} {p v : Operand} {g t : Nat} {cs cur : Array Value} (hop : o.op = .store T p v) (hp : ev p = .pointer (some ⟨g, 0, none⟩)) (hv : ev v = .agg cs)
    (hb : W.heap[g]? = some (.cells cur t (0, 0))) (hn : cur.size = cs.size) (hi : (P.info? T).map (·.size) = some cs.size) (h1 : cs.all (·.oneCell') = true) :
    ∃ W' : World, (execOp ev o).run P W = .ok .skip W' ∧ W'.heap[g]? = some (.cells cs t (0, 0)) ∧ (∀ k, k ≠ g → W'.heap[k]? = W.heap[k]?) ∧ W'.heap.size = W.heap.size ∧ (∀ w0 : World, w0.heap.size ≤ g → Below w0.heap.size w0 W → Below w0.heap.size w0 W') := by
  have hth : W.there g 0 cs.size := fun j hj => ⟨by
    rw [Nat.zero_add, blk_cell hb j, Array.getElem?_eq_getElem (by omega)]
    rfl, blk_frozen hb _⟩
  have hr := run_storeAt_mid (P := P) W g 0 T cs hth hi h1
  obtain ⟨cur', e1, e2, e3⟩ := setCells_row cs.toList 0 W cur hb (by simp; omega)
  have hc : cur' = cs := by
    apply Array.toList_inj.1
    rw [e3]
    simp [hn]
  subst hc
  refine ⟨W.setCells g 0 cur'.toList, ?_, e1, fun k hk => setCells_far hk _ _ _, (setCells_same g _ 0 W).2.2.2, fun w0 hg hB => setCells_below hg _ _ _ hB⟩
  unfold execOp
  simp only [hop, hp, hv, Sem.run_bind, hr, Result.andThen_ok]
  rfl
theorem stA_skip {P : Program} {ops : Array Oper} {Q : Exit → Act → World → Prop} {oi : Oper} {a : Act} {W : World} {K : Act → World → Prop} {T : TypeId} {p v : Operand} {g t : Nat} {cs cur : Array Value} (hw : Region.wanted oi (yielded ops a.tmps) = true) (hN : oi.dst = none) (hop : oi.op = .store T p v) (hp : a.eval p = .pointer (some ⟨g, 0, none⟩)) (hv : a.eval v = .agg cs)
    (hb : W.heap[g]? = some (.cells cur t (0, 0))) (hn : cur.size = cs.size) (hi : (P.info? T).map (·.size) = some cs.size) (h1 : cs.all (·.oneCell') = true)
    (h : ∀ W' : World, W'.heap[g]? = some (.cells cs t (0, 0)) → (∀ k, k ≠ g → W'.heap[k]? = W.heap[k]?) → W'.heap.size = W.heap.size → (∀ w0 : World, w0.heap.size ≤ g → Below w0.heap.size w0 W → Below w0.heap.size w0 W') → K a W') :
    if Region.wanted oi (yielded ops a.tmps) = true then Oper.wp P oi a W K Q else K (a.put none undef) W := by
  obtain ⟨W', r1, r2, r3, r4, r5⟩ := stA_run (P := P) (ev := a.eval) hop hp hv hb hn hi h1
  exact skip_ hw hN r1 (h W' r2 r3 r4 r5)
theorem msg_Parse.told (tmps : Array Value) (w : World) (gm ge : Nat) (cs : Array Value) (x : Int) (hp : tmps.getD 2 undef = .pointer (some ⟨gm, 0, none⟩)) (hp' : tmps.getD 3 undef = .pointer (some ⟨ge, 0, none⟩)) (hg : w.heap[gm]? = some (.cells cs 24 (0, 0))) (hn : cs.size = 9) (he : w.heap[ge]? = some (.cells #[.int .i64 x] 30 (0, 0))) :
    (results Try.f15 tmps).run Try.prog w = .ok (.tuple #[.agg cs, .int .i64 x]) w := by
  have h1 : tmps[2]?.getD undef = .pointer (some ⟨gm, 0, none⟩) := by simpa using hp
  have h2 : tmps[3]?.getD undef = .pointer (some ⟨ge, 0, none⟩) := by simpa using hp'
  have hk : w.cell? ⟨ge, 0, none⟩ = some (.int .i64 x) := (blk_cell he 0).trans rfl
  have h3 := run_loadVar_row w gm 24 24 cs (0, 0) _ hg Try.underlying24 rfl (by rw [hn]; kernel_rfl)
  have h4 : (loadVar 30 ⟨ge, 0, none⟩).run Try.prog w = .ok (.int .i64 x) w := by simp [go_sem, hk]
  simp [results, show Try.f15.results = #[.cell 2 24, .cell 3 30] from rfl, h1, h2, asAddr, h3, h4]
def msg_Parse.T3 : Bool × List (List Nat × List Nat) := (true, [([], []), ([], []), ([0, 0], [0]), ([1, 2, 0, 1, 2], [1])])
def msg_Parse.B3 : List Nat := [0, 0, 1, 7]
theorem msg_Parse.tab3 : rtab .any (opsOf Try.f15 3) = msg_Parse.T3 := by kernel_rfl
theorem msg_Parse.bits3 : waitsOk msg_Parse.T3.2 msg_Parse.B3 = true := by kernel_rfl
set_option maxHeartbeats 8000000 in
set_option maxRecDepth 100000 in
theorem msg_Parse.err (k : Nat) (A0 : Option Addr) (c0 : Nat) (l0 : List Int) (kind : Int) (body : List Int) (e : Int) (w : World) (hr0 : Kd.C (Kd.int .u8) w A0 l0.length l0) (hc0 : l0.length ≤ c0) (hp : frame_Parse.f k l0 = some (kind, body, e)) (he : e ≠ 0) :
    Calls Try.prog 15 #[.slice A0 l0.length c0] w fun e_ w' => e_ = .returned (.tuple #[.agg zeros9, .int .i64 e]) ∧ Below w.heap.size w w' := by
  have hu24 := Try.underlying24
  have HR := Aside0.mk hr0
  have HC := Aside0.mk hc0
  have HP := Aside0.mk hp
  have q1 : decide (e = 0) = false := decide_eq_false he
  have q2 : (e == 0) = false := beq_eq_false_iff_ne.2 he
  have q3 : (e != 0) = true := bne_iff_ne.2 he
  clear hr0 hc0 hp he
  go_enter_defers Try.func15, Try.ntmps15
  go_upto_region 1 with (first | ((with_reducible refine gate_dst (N := 2) rfl ?_); refine box_event ?hg (N := 2) ?hd (cs := #[.int .i64 0, .int .i64 0, .int .i64 0, .int .i64 0, .int .i64 0, .int .i64 0, .int .i64 0, .int .i64 0, .slice none 0 0]) (t := 24) ?hr ?_; (case hd => rfl); (case hg => rfl); (case hr => first | (go_simp; done) | (go_simp; rfl)); intro g2 hg_ wb2 hbox hbb; have HB := Aside0.mk hbb; have K2 := Aside0.mk hbox; have G2 := Aside0.mk (Nat.le_of_eq hg_.symm); clear hg_ hbox hbb) | ((with_reducible refine gate_dst (N := 3) rfl ?_); refine box_event ?hg (N := 3) ?hd (cs := #[.int .i64 0]) (t := 30) ?hr ?_; (case hd => rfl); (case hg => rfl); (case hr => first | (go_simp; done) | (go_simp; rfl)); intro g3 hg_ wb hbox hbb; have PS : Aside0 (msg_Parse.PS w wb g2 g3 zeros9 0) := ⟨below_step HB.out hbb, blk_below K2.out hbb, hbox, G2.out, by rw [hg_]; exact below_size HB.out⟩; clear HB K2 G2; clear hg_ hbox hbb))
  go_upto_region 3 with (first | (go_at_call 28; (refine (frame_Parse.calls k A0 c0 l0 kind body e _ (Kd.C_below HR.out PS.out.1) HC.out HP.out).mono ?_); rintro e_ w1 ⟨vb, rfl, ho, hb⟩; replace PS := Aside0.mk (PS.out.below hb); clear ho hb; have z1 : w1.cell? ⟨g3, 0, none⟩ = some (.int .i64 0) := (blk_cell PS.out.2.2.1 0).trans rfl; have z2 : w1.frozen? ⟨g3, 0, none⟩ = false := blk_frozen PS.out.2.2.1 0; replace PS := Aside0.mk (PS.out.err e)))
  clear z1 z2 q1 q2 q3
  revert PS
  generalize World.setCell _ _ _ = W1
  intro PS
  refine start_ (n := 4) (S := fun W_ => W_.cell? ⟨g3, 0, none⟩ = some (.int .i64 e)) (ds := [3]) #[false, false, false, false] (by kernel_rfl) rfl rfl ((blk_cell (PS.out.below (below_drew (Below.refl _ _))).2.2.1 0).trans rfl) (fun hHeld => ?_); refine with_tabW msg_Parse.tab3 msg_Parse.bits3 (fun HT_ HW_ => ?_)
  replace PS := Aside0.mk (PS.out.below (below_drew (Below.refl _ _)))
  revert PS hHeld
  generalize World.drew _ = wv
  intro hHeld PS
  refine two_ (i := 0) (j := 1) (Ni := some 17) (Nj := some 18) #[true, false, false, false] #[false, true, false, false] rfl rfl rfl rfl (two_of HT_.out (by kernel_rfl)) (by decide) (by decide) (fun K hK => ?_) (fun K hK => ?_)
  ·
    refine value_ (v := .agg #[.int .i64 0, .int .i64 0, .int .i64 0, .int .i64 0, .int .i64 0, .int .i64 0, .int .i64 0, .int .i64 0, .slice none 0 0]) (w1 := ?_) (by rfl) rfl ?_ ?_
    rotate_left
    ·
      first | (go_simp; done) | (go_simp; rfl)
    refine hK.out _ _ ((blk_cell PS.out.2.2.1 0).trans rfl) (fun hHeld => ?_)
    clear hK K
    refine norm_ (a' := ?_) ?_ ?_
    rotate_left
    ·
      show Act.put _ (some 17) _ = _
      simp only [Act.put, l_1, l_2, l_3, i64_w, i32_w]
      rfl
    refine two_ (i := 1) (j := 2) (Ni := some 18) (Nj := none) #[true, true, false, false] #[true, false, true, false] rfl rfl rfl rfl (two_of HT_.out (by kernel_rfl)) (by decide) (by decide) (fun K hK => ?_) (fun K hK => ?_)
    ·
      have z3 := (blk_cell PS.out.2.2.1 0).trans (rfl : (#[Value.int .i64 e] : Array Value)[0]? = some (.int .i64 e))
      refine value_ (v := .int .i64 e) (w1 := ?_) (by rfl) rfl ?_ ?_
      rotate_left
      ·
        first | (go_simp; done) | (go_simp; rfl)
      clear z3
      refine hK.out _ _ ((blk_cell PS.out.2.2.1 0).trans rfl) (fun hHeld => ?_)
      clear hK K
      refine norm_ (a' := ?_) ?_ ?_
      rotate_left
      ·
        show Act.put _ (some 18) _ = _
        simp only [Act.put, l_1, l_2, l_3, i64_w, i32_w]
        rfl
      refine one_ (i := 2) (N := none) #[true, true, true, false] rfl rfl (one_of HT_.out (by kernel_rfl)) (by decide) (fun K hK => ?_)
      refine stA_skip (g := g2) (cs := zeros9) (by rfl) rfl rfl rfl rfl PS.out.2.1 rfl (by kernel_rfl) (by simp [zeros9, Value.oneCell']) ?_
      intro W2 r2 r3 r4 r5
      replace PS := Aside0.mk (show msg_Parse.PS w W2 g2 g3 zeros9 e from ⟨r5 w PS.out.2.2.2.1 PS.out.1, r2, (r3 _ (Ne.symm PS.out.ne)).trans PS.out.2.2.1, PS.out.2.2.2⟩)
      clear r2 r3 r4 r5
      refine hK.out _ _ ((blk_cell PS.out.2.2.1 0).trans rfl) (fun hHeld => ?_)
      clear hK K
      refine last_ (i := 3) (N := none) #[true, true, true, true] rfl rfl (one_of HT_.out (by kernel_rfl)) (by decide) (fun K hK => ?_)
      have z1 := (blk_cell PS.out.2.2.1 0).trans (rfl : (#[Value.int .i64 e] : Array Value)[0]? = some (.int .i64 e))
      have z2 := blk_frozen PS.out.2.2.1 0
      replace PS := Aside0.mk (PS.out.err e)
      refine skip_ (w1 := ?_) (by rfl) rfl ?_ ?_
      rotate_left
      ·
        first | (go_simp; done) | (go_simp; rfl)
      clear z1 z2
      refine hK.out _ _ ?_
      clear hK K
      refine done_ (done_of HT_.out (by kernel_rfl)) ?_
      clear hHeld HT_ HW_
      go_wp2
      exact ⟨_, msg_Parse.told _ _ g2 g3 zeros9 e rfl rfl PS.out.2.1 rfl PS.out.2.2.1, rfl, PS.out.1⟩
    ·
      refine stA_skip (g := g2) (cs := zeros9) (by rfl) rfl rfl rfl rfl PS.out.2.1 rfl (by kernel_rfl) (by simp [zeros9, Value.oneCell']) ?_
      intro W2 r2 r3 r4 r5
      replace PS := Aside0.mk (show msg_Parse.PS w W2 g2 g3 zeros9 e from ⟨r5 w PS.out.2.2.2.1 PS.out.1, r2, (r3 _ (Ne.symm PS.out.ne)).trans PS.out.2.2.1, PS.out.2.2.2⟩)
      clear r2 r3 r4 r5
      refine hK.out _ _ ((blk_cell PS.out.2.2.1 0).trans rfl) (fun hHeld => ?_)
      clear hK K
      refine one_ (i := 1) (N := some 18) #[true, true, true, false] rfl rfl (one_of HT_.out (by kernel_rfl)) (by decide) (fun K hK => ?_)
      have z3 := (blk_cell PS.out.2.2.1 0).trans (rfl : (#[Value.int .i64 e] : Array Value)[0]? = some (.int .i64 e))
      refine value_ (v := .int .i64 e) (w1 := ?_) (by rfl) rfl ?_ ?_
      rotate_left
      ·
        first | (go_simp; done) | (go_simp; rfl)
      clear z3
      refine hK.out _ _ ((blk_cell PS.out.2.2.1 0).trans rfl) (fun hHeld => ?_)
      clear hK K
      refine norm_ (a' := ?_) ?_ ?_
      rotate_left
      ·
        show Act.put _ (some 18) _ = _
        simp only [Act.put, l_1, l_2, l_3, i64_w, i32_w]
        rfl
      refine last_ (i := 3) (N := none) #[true, true, true, true] rfl rfl (one_of HT_.out (by kernel_rfl)) (by decide) (fun K hK => ?_)
      have z1 := (blk_cell PS.out.2.2.1 0).trans (rfl : (#[Value.int .i64 e] : Array Value)[0]? = some (.int .i64 e))
      have z2 := blk_frozen PS.out.2.2.1 0
      replace PS := Aside0.mk (PS.out.err e)
      refine skip_ (w1 := ?_) (by rfl) rfl ?_ ?_
      rotate_left
      ·
        first | (go_simp; done) | (go_simp; rfl)
      clear z1 z2
      refine hK.out _ _ ?_
      clear hK K
      refine done_ (done_of HT_.out (by kernel_rfl)) ?_
      clear hHeld HT_ HW_
      go_wp2
      exact ⟨_, msg_Parse.told _ _ g2 g3 zeros9 e rfl rfl PS.out.2.1 rfl PS.out.2.2.1, rfl, PS.out.1⟩
  ·
    have z3 := (blk_cell PS.out.2.2.1 0).trans (rfl : (#[Value.int .i64 e] : Array Value)[0]? = some (.int .i64 e))
    refine value_ (v := .int .i64 e) (w1 := ?_) (by rfl) rfl ?_ ?_
    rotate_left
    ·
      first | (go_simp; done) | (go_simp; rfl)
    clear z3
    refine hK.out _ _ ((blk_cell PS.out.2.2.1 0).trans rfl) (fun hHeld => ?_)
    clear hK K
    refine norm_ (a' := ?_) ?_ ?_
    rotate_left
    ·
      show Act.put _ (some 18) _ = _
      simp only [Act.put, l_1, l_2, l_3, i64_w, i32_w]
      rfl
    refine one_ (i := 0) (N := some 17) #[true, true, false, false] rfl rfl (one_of HT_.out (by kernel_rfl)) (by decide) (fun K hK => ?_)
    refine value_ (v := .agg #[.int .i64 0, .int .i64 0, .int .i64 0, .int .i64 0, .int .i64 0, .int .i64 0, .int .i64 0, .int .i64 0, .slice none 0 0]) (w1 := ?_) (by rfl) rfl ?_ ?_
    rotate_left
    ·
      first | (go_simp; done) | (go_simp; rfl)
    refine hK.out _ _ ((blk_cell PS.out.2.2.1 0).trans rfl) (fun hHeld => ?_)
    clear hK K
    refine norm_ (a' := ?_) ?_ ?_
    rotate_left
    ·
      show Act.put _ (some 17) _ = _
      simp only [Act.put, l_1, l_2, l_3, i64_w, i32_w]
      rfl
    refine one_ (i := 2) (N := none) #[true, true, true, false] rfl rfl (one_of HT_.out (by kernel_rfl)) (by decide) (fun K hK => ?_)
    refine stA_skip (g := g2) (cs := zeros9) (by rfl) rfl rfl rfl rfl PS.out.2.1 rfl (by kernel_rfl) (by simp [zeros9, Value.oneCell']) ?_
    intro W2 r2 r3 r4 r5
    replace PS := Aside0.mk (show msg_Parse.PS w W2 g2 g3 zeros9 e from ⟨r5 w PS.out.2.2.2.1 PS.out.1, r2, (r3 _ (Ne.symm PS.out.ne)).trans PS.out.2.2.1, PS.out.2.2.2⟩)
    clear r2 r3 r4 r5
    refine hK.out _ _ ((blk_cell PS.out.2.2.1 0).trans rfl) (fun hHeld => ?_)
    clear hK K
    refine last_ (i := 3) (N := none) #[true, true, true, true] rfl rfl (one_of HT_.out (by kernel_rfl)) (by decide) (fun K hK => ?_)
    have z1 := (blk_cell PS.out.2.2.1 0).trans (rfl : (#[Value.int .i64 e] : Array Value)[0]? = some (.int .i64 e))
    have z2 := blk_frozen PS.out.2.2.1 0
    replace PS := Aside0.mk (PS.out.err e)
    refine skip_ (w1 := ?_) (by rfl) rfl ?_ ?_
    rotate_left
    ·
      first | (go_simp; done) | (go_simp; rfl)
    clear z1 z2
    refine hK.out _ _ ?_
    clear hK K
    refine done_ (done_of HT_.out (by kernel_rfl)) ?_
    clear hHeld HT_ HW_
    go_wp2
    exact ⟨_, msg_Parse.told _ _ g2 g3 zeros9 e rfl rfl PS.out.2.1 rfl PS.out.2.2.1, rfl, PS.out.1⟩
def msg_Parse.Post (w : World) (r : msg_Parse.T) (e : Ending) (w' : World) : Prop :=
  ∃ v : Value, e = .returned (.tuple #[.agg #[.int .i64 r.1, .int .i64 r.2.1, .int .i64 r.2.2.1, .int .i64 r.2.2.2.1, .int .i64 r.2.2.2.2.1, .int .i64 r.2.2.2.2.2.1, .int .i64 r.2.2.2.2.2.2.1, .int .i64 r.2.2.2.2.2.2.2.1, v], .int .i64 r.2.2.2.2.2.2.2.2.2]) ∧ Kd.R (Kd.int .i32) 21 w' w.heap.size (fun _ => True) v r.2.2.2.2.2.2.2.2.1 ∧ Below w.heap.size w w'
theorem msg_Parse.Post.bad {w w' : World} (e : Int) (hb : Below w.heap.size w w') : msg_Parse.Post w (msg_Parse.bad e) (.returned (.tuple #[.agg zeros9, .int .i64 e])) w' := ⟨_, rfl, Kd.R_nil _ _ _ _ _, hb⟩
theorem msg_Parse.PS.kind {w W : World} {gm ge : Nat} {x : Int} (H : msg_Parse.PS w W gm ge zeros9 x) (k : Int) : msg_Parse.PS w (W.setCell ⟨gm, 0, none⟩ (.int .i64 k)) gm ge (rdr.cells k (fun _ => 0) (.slice none 0 0)) x :=
  ⟨below_set H.1 H.2.2.2.1, blk_put H.2.1 0 _ rfl, rdr.other 0 _ H.2.2.1 (Ne.symm H.ne), H.2.2.2⟩
/-- behind a whole struct stored -/
theorem msg_Parse.PS.stored {w W W' : World} {gm ge : Nat} {cs cs' : Array Value} {x : Int} (H : msg_Parse.PS w W gm ge cs x) (r2 : W'.heap[gm]? = some (.cells cs' 24 (0, 0))) (r3 : ∀ k, k ≠ gm → W'.heap[k]? = W.heap[k]?) (r5 : ∀ w0 : World, w0.heap.size ≤ gm → Below w0.heap.size w0 W → Below w0.heap.size w0 W') : msg_Parse.PS w W' gm ge cs' x :=
  ⟨r5 w H.2.2.2.1 H.1, r2, (r3 _ (Ne.symm H.ne)).trans H.2.2.1, H.2.2.2⟩
/-- the last returns: the deferred call finds nothing to recover -/
theorem msg_Parse.door {w W : World} {gm ge : Nat} {cs : Array Value} {x : Int} {tmps : Array Value} {r : msg_Parse.T} (PS : msg_Parse.PS w W gm ge cs x) (hn : cs.size = 9) (h2 : tmps.getD 2 undef = .pointer (some ⟨gm, 0, none⟩)) (h3 : tmps.getD 3 undef = .pointer (some ⟨ge, 0, none⟩)) (hr : msg_Parse.Post w r (.returned (.tuple #[.agg cs, .int .i64 x])) W) :
    Leaves Try.prog Try.f15 tmps (msg_Parse.Post w r) [{ target := .fn (.func 29) #[.pointer (some ⟨gm, 0, none⟩), .pointer (some ⟨ge, 0, none⟩)], args := #[] }] .returning W := by
  refine leaves_cons (f := 29) (args := #[.pointer (some ⟨gm, 0, none⟩), .pointer (some ⟨ge, 0, none⟩)]) (by simp) (by simp [go_sem]) ?_
  refine (msg_Parse.idle _ _ _).mono ?_
  rintro e_ u' w'' ⟨rfl, rfl, rfl⟩
  exact ⟨_, msg_Parse.told _ _ gm ge cs x h2 h3 PS.2.1 hn PS.2.2.1, hr⟩
/-- a panic: it is recovered -/
theorem msg_Parse.caught {w W : World} {gm ge : Nat} {cs : Array Value} {x : Int} {tmps : Array Value} (PS : msg_Parse.PS w W gm ge cs x) (hn : cs.size = 9) (h2 : tmps.getD 2 undef = .pointer (some ⟨gm, 0, none⟩)) (h3 : tmps.getD 3 undef = .pointer (some ⟨ge, 0, none⟩)) :
    Leaves Try.prog Try.f15 tmps (msg_Parse.Post w (msg_Parse.bad 150)) [{ target := .fn (.func 29) #[.pointer (some ⟨gm, 0, none⟩), .pointer (some ⟨ge, 0, none⟩)], args := #[] }] (.panicking shortP) W := by
  refine leaves_cons (f := 29) (args := #[.pointer (some ⟨gm, 0, none⟩), .pointer (some ⟨ge, 0, none⟩)]) (by simp) (by simp [go_sem]) ?_
  refine (msg_Parse.catch gm ge cs x [] _ PS.2.1 hn PS.2.2.1).mono ?_
  rintro e_ u' w'' ⟨rfl, rfl, k1, k2, k3⟩
  refine ⟨_, msg_Parse.told _ _ gm ge zeros9 150 h2 h3 k1 rfl k2, msg_Parse.Post.bad 150 ?_⟩
  exact ⟨k3.1.trans PS.1.os, k3.2.1.trans PS.1.tape, k3.2.2.1.trans PS.1.output, Nat.le_trans PS.1.size k3.2.2.2.1, fun j hj => (k3.2.2.2.2 j (Nat.lt_of_lt_of_le hj PS.1.size) (by have := PS.2.2.2.1; omega) (by have := PS.2.2.2.2; omega)).trans (PS.1.block j hj)⟩
set_option maxHeartbeats 16000000 in
set_option maxRecDepth 100000 in
theorem msg_Parse.good (k : Nat) (A0 : Option Addr) (c0 : Nat) (l0 : List Int) (kind : Int) (body : List Int) (r : msg_Parse.T) (w : World) (hr0 : Kd.C (Kd.int .u8) w A0 l0.length l0) (hc0 : l0.length ≤ c0) (hp : frame_Parse.f k l0 = some (kind, body, 0)) (hk0 : 0 ≤ kind) (hk1 : kind ≤ 255) (hB : ∀ x ∈ body, 0 ≤ x ∧ x ≤ 255)
    (h : (if msg_of.ok kind = true then msg_Parse.h kind (rdr.read (msg_of.bits kind) (msg_of.lst kind) (fun _ => 0) body) else some (msg_Parse.bad 150)) = some r) :
    Calls Try.prog 15 #[.slice A0 l0.length c0] w (msg_Parse.Post w r) := by
  have hu24 := Try.underlying24
  have hu46 := Try.underlying46
  have hmf : ∀ (fn : Fn) (first cap : Array Value) (w : World), (Instr.makeFunc fn first cap).run Try.prog w = .ok (.func fn first cap) w := fun _ _ _ _ => rfl
  have HR := Aside0.mk hr0
  have HC := Aside0.mk hc0
  have HP := Aside0.mk hp
  have HB_ := Aside0.mk hB
  have HH := Aside0.mk h
  have HW := Aside0.mk (show (Lit.int .i64 kind).wf = true from by have hmin : IntKind.i64.min = -9223372036854775808 := rfl; have hmax : IntKind.i64.max = 9223372036854775807 := rfl; simp only [Lit.wf, Bool.and_eq_true, decide_eq_true_eq]; omega)
  have hkw : IntKind.i64.wrap kind = kind := by rw [i64_w]; unfold wrap64; omega
  clear hr0 hc0 hp hB h
  go_enter_defers Try.func15, Try.ntmps15
  go_upto_region 1 with (first | ((with_reducible refine gate_dst (N := 2) rfl ?_); refine box_event ?hg (N := 2) ?hd (cs := #[.int .i64 0, .int .i64 0, .int .i64 0, .int .i64 0, .int .i64 0, .int .i64 0, .int .i64 0, .int .i64 0, .slice none 0 0]) (t := 24) ?hr ?_; (case hd => rfl); (case hg => rfl); (case hr => first | (go_simp; done) | (go_simp; rfl)); intro g2 hg_ wb2 hbox hbb; have HB := Aside0.mk hbb; have K2 := Aside0.mk hbox; have G2 := Aside0.mk (Nat.le_of_eq hg_.symm); clear hg_ hbox hbb) | ((with_reducible refine gate_dst (N := 3) rfl ?_); refine box_event ?hg (N := 3) ?hd (cs := #[.int .i64 0]) (t := 30) ?hr ?_; (case hd => rfl); (case hg => rfl); (case hr => first | (go_simp; done) | (go_simp; rfl)); intro g3 hg_ wb hbox hbb; have PS : Aside0 (msg_Parse.PS w wb g2 g3 zeros9 0) := ⟨below_step HB.out hbb, blk_below K2.out hbb, hbox, G2.out, by rw [hg_]; exact below_size HB.out⟩; clear HB K2 G2; clear hg_ hbox hbb))
  go_upto_region 5 with (first | (go_at_call 28; (refine (frame_Parse.calls k A0 c0 l0 kind body 0 _ (Kd.C_below HR.out PS.out.1) HC.out HP.out).mono ?_); rintro e_ w1 ⟨vb, rfl, ho, hb⟩; have HO := Aside0.mk (Kd.R_lower ho (below_size PS.out.1)); replace PS := Aside0.mk (PS.out.below hb); clear ho hb; have z1 : w1.cell? ⟨g3, 0, none⟩ = some (.int .i64 0) := (blk_cell PS.out.2.2.1 0).trans rfl; have z2 : w1.frozen? ⟨g3, 0, none⟩ = false := blk_frozen PS.out.2.2.1 0; have T3 := PS.out.2.2.1; replace PS := Aside0.mk (PS.out.err 0); replace HO := Aside0.mk (Kd.R_set HO.out T3 (by decide) 0 (.int .i64 0)); clear T3))
  clear z1 z2
  revert PS HO
  generalize World.setCell _ _ _ = W1
  intro PS HO
  go_upto_region 6 with (first | (go_at_call 23; (refine (msg_of.good kind _ HW.out).mono ?_); rintro e_ wa ⟨rfl, hb⟩; replace PS := Aside0.mk (PS.out.below hb); replace HO := Aside0.mk (Kd.R_below HO.out hb); clear hb) | ((with_reducible refine gate_dst (N := 6) rfl ?_); refine box_event ?hg (N := 6) ?hd (cs := #[.int .u8 0, .bool false]) (t := 46) ?hr ?_; (case hd => rfl); (case hg => rfl); (case hr => first | (go_simp; done) | (go_simp; rfl)); intro g6 hg_ wb6 hbox hbb; have PH := Aside0.mk (And.intro (PS.out.below hbb) (And.intro (Kd.R_below HO.out hbb) hbox)); have G6 := Aside0.mk (show w.heap.size ≤ g6 from by rw [hg_]; exact below_size PS.out.1); clear PS HO; obtain ⟨b1, b2, b3, b4⟩ := msg_of.cell2 hbox; clear hg_ hbox hbb))
  have PH2 := Aside0.mk (show msg_Parse.PS w ((wb6.setCell ⟨g6, 0, none⟩ (.int .u8 (msg_of.bits kind))).setCell ⟨g6, 1, none⟩ (.bool (msg_of.lst kind))) g2 g3 zeros9 0 ∧ Kd.R (Kd.int .u8) 5 ((wb6.setCell ⟨g6, 0, none⟩ (.int .u8 (msg_of.bits kind))).setCell ⟨g6, 1, none⟩ (.bool (msg_of.lst kind))) w.heap.size (fun _ => True) vb body ∧ ((wb6.setCell ⟨g6, 0, none⟩ (.int .u8 (msg_of.bits kind))).setCell ⟨g6, 1, none⟩ (.bool (msg_of.lst kind))).heap[g6]? = some (.cells #[.int .u8 (msg_of.bits kind), .bool (msg_of.lst kind)] 46 (0, 0)) from by
    obtain ⟨h1, h2, h3⟩ := PH.out
    have n1 : g2 ≠ g6 := blk_ne h1.2.1 h3 (by decide)
    have n2 : g3 ≠ g6 := blk_ne h1.2.2.1 h3 (by decide)
    refine ⟨⟨msg_of.below2 h1.1 G6.out, msg_of.far2 n1 h1.2.1, msg_of.far2 n2 h1.2.2.1, h1.2.2.2⟩, ?_, msg_of.put2 h3⟩
    exact Kd.R_mono (Kd.R_far (p := ⟨g6, 1, none⟩) (Kd.R_far (p := ⟨g6, 0, none⟩) (Kd.R_types h2 h3 (by decide)) (fun _ hk => hk.2) _) (fun _ hk => hk.2) _) (fun _ _ => trivial))
  replace PH := PH2
  clear PH2 b1 b2 b3 b4
  revert PH
  generalize World.setCell _ _ _ = W2
  intro PH
  obtain ⟨Ab, cb, eb⟩ := Kd.R_slice PH.out.2.1
  subst eb
  go_upto_region 7 with (first | ((with_reducible refine gate_dst (N := 28) rfl ?_); refine box_event ?hg (N := 28) ?hd (cs := #[.slice Ab body.length cb]) (t := 65) ?hr ?_; (case hd => rfl); (case hg => rfl); (case hr => first | (go_simp; done) | (go_simp; rfl)); intro gr hg_ wbr hbox hbb; have PR := Aside0.mk (And.intro (PH.out.1.below hbb) (And.intro (Kd.R_below PH.out.2.1 hbb) (And.intro (blk_below PH.out.2.2 hbb) hbox))); have GR := Aside0.mk (show w.heap.size ≤ gr from by rw [hg_]; exact below_size PH.out.1.1); clear PH; clear hg_ hbox hbb))
  have z1 : wbr.cell? ⟨g2, 0, none⟩ = some (.int .i64 0) := (blk_cell PR.out.1.2.1 0).trans rfl
  have z2 : wbr.frozen? ⟨g2, 0, none⟩ = false := blk_frozen PR.out.1.2.1 0
  go_upto_region 8 with (fail)
  have T2 := PR.out.1.2.1
  replace PR := Aside0.mk (And.intro (PR.out.1.kind kind) (And.intro (Kd.R_set PR.out.2.1 T2 (by decide) 0 (.int .i64 kind)) (And.intro (rdr.other 0 (.int .i64 kind) PR.out.2.2.1 (Ne.symm (blk_ne T2 PR.out.2.2.1 (by decide)))) (rdr.other 0 (.int .i64 kind) PR.out.2.2.2 (Ne.symm (blk_ne T2 PR.out.2.2.2 (by decide)))))))
  clear T2 z1 z2
  revert PR
  generalize World.setCell _ _ _ = W3
  intro PR
  by_cases c1 : msg_of.ok kind = true
  · have h := HH.out
    rw [if_pos c1] at h
    obtain ⟨y0, y1, _, _⟩ := msg_of.cell2 PR.out.2.2.1
    obtain ⟨rd, hrd⟩ : ∃ rd, rdr.read (msg_of.bits kind) (msg_of.lst kind) (fun _ => 0) body = rd := ⟨_, rfl⟩
    rw [hrd] at h
    rw [c1]
    have N23 : g2 ≠ gr := blk_ne PR.out.1.2.1 PR.out.2.2.2 (by decide)
    have N33 : g3 ≠ gr := blk_ne PR.out.1.2.2.1 PR.out.2.2.2 (by decide)
    have hF : Kd.F (Kd.int .u8) W3 (fun k_ => some k_ = (Value.slice Ab body.length cb).ownBlock) Ab body.length body := Kd.R_F (Kd.R_tight rfl PR.out.2.1)
    have hle : body.length ≤ cb := (Kd.R_reads' PR.out.2.1).2.1
    have hlt : ∀ k_, (Value.slice Ab body.length cb).ownBlock = some k_ → k_ < W3.heap.size := Kd.R_lt PR.out.2.1
    have RD := Aside0.mk (rdr_read.ok gr g2 (fun k_ => some k_ = (Value.slice Ab body.length cb).ownBlock) (msg_of.bits kind) (msg_of.lst kind) kind (fun _ => 0) body rd W3 (blk_lt PR.out.2.2.2) (blk_lt PR.out.1.2.1) (Ne.symm N23) (fun k_ hk => ⟨fun e => Kd.R_ne PR.out.2.1 PR.out.2.2.2 (by decide) (by rw [← e]; exact hk), fun e => Kd.R_ne PR.out.2.1 PR.out.1.2.1 (by decide) (by rw [← e]; exact hk), hlt k_ hk.symm⟩) PR.out.1.2.1 ⟨Ab, cb, PR.out.2.2.2, hle, hF⟩ HB_.out hrd)
    have HS := Aside0.mk (And.intro N23 N33)
    have HH2 := Aside0.mk h
    clear N23 N33 hF hle hlt hrd h HH HB_
    cases rd with
    | none =>
      have hr : some (msg_Parse.bad 150) = some r := HH2.out
      obtain rfl := Option.some.inj hr
      clear hr HH2
      go_wp2_with (first | (go_at_call 30; (refine (RD.out).mono ?_); rintro e_ w4 hpost; obtain ⟨rfl, hkp, N', v', hm'⟩ := hpost; have PS := Aside0.mk (show msg_Parse.PS w w4 g2 g3 (rdr.cells kind N' v') 0 from ⟨hkp.to_below PR.out.1.1 GR.out PR.out.1.2.2.2.1, hm', (hkp.2.2.2.2 g3 (blk_lt PR.out.1.2.2.1) HS.out.2 (Ne.symm PR.out.1.ne)).trans PR.out.1.2.2.1, PR.out.1.2.2.2⟩); clear hkp hm' RD))
      exact msg_Parse.caught PS.out rfl rfl rfl
    | some q =>
      obtain ⟨N, ls, xs⟩ := q
      have HG := Aside0.mk (And.intro G6.out GR.out)
      go_upto_region 10 with (first | (go_at_call 30; (refine (RD.out).mono ?_); rintro e_ w4 hpost; obtain ⟨rfl, v', hkp, hAt, hm', hR'⟩ := hpost; have PS := Aside0.mk (show msg_Parse.PS w w4 g2 g3 (rdr.cells kind N v') 0 from ⟨hkp.to_below PR.out.1.1 GR.out PR.out.1.2.2.2.1, hm', (hkp.2.2.2.2 g3 (blk_lt PR.out.1.2.2.1) HS.out.2 (Ne.symm PR.out.1.ne)).trans PR.out.1.2.2.1, PR.out.1.2.2.2⟩); have HRL := Aside0.mk (Kd.R_lower hR' (below_size PR.out.1.1)); clear hkp hm' hR' RD; obtain ⟨Av, cv, ev⟩ := Kd.R_slice HRL.out; subst ev; obtain ⟨A', c', a1, a2, a3⟩ := hAt; have z5 : w4.cell? ⟨gr, 0, none⟩ = some (.slice A' xs.length c') := (blk_cell a1 0).trans rfl; clear a1 a2 a3; obtain ⟨x0, x1, x2, x3, x4, x5, x6, x7, x8⟩ := msg_Bytes.cells9 PS.out.2.1))
      clear y0 y1
      have hh := HH2.out
      clear HH2
      rw [msg_Parse.h] at hh
      by_cases c5 : (xs.length : Int) > 0
      · rw [if_pos c5] at hh
        obtain rfl := Option.some.inj hh
        clear hh
        have p1 : decide (0 < (xs.length : Int)) = true := decide_eq_true c5
        have p2 : (0 < xs.length) = True := eq_true (by omega)
        clear c5
        go_wp2_with (first | ((with_reducible refine gate_store_ (T := 24) rfl ?_); refine stA_ rfl rfl rfl rfl rfl PS.out.2.1 (by rfl) (by kernel_rfl) (by simp [Value.oneCell']) ?_; intro W' r2 r3 r4 r5; replace HRL := Aside0.mk (Kd.R_mono (ok' := fun _ => True) (Kd.R_step (Kd.R_types HRL.out PS.out.2.1 (by decide)) (fun k hk _ => r3 k hk.2)) (fun _ _ => trivial)); replace PS := Aside0.mk (PS.out.stored r2 r3 r5); clear r2 r3 r4 r5; have z1 : W'.cell? ⟨g3, 0, none⟩ = some (.int .i64 0) := (blk_cell PS.out.2.2.1 0).trans rfl; have z2 : W'.frozen? ⟨g3, 0, none⟩ = false := blk_frozen PS.out.2.2.1 0))
        exact msg_Parse.door (PS.out.err 150) (by rfl) rfl rfl (msg_Parse.Post.bad 150 (PS.out.err 150).1)
      · rw [if_neg c5] at hh
        obtain ⟨t, ht, hh2⟩ := Option.bind_eq_some_iff.1 hh
        have HWR := Aside0.mk ht
        have p1 : decide (0 < (xs.length : Int)) = false := decide_eq_false c5
        have p2 : (0 < xs.length) = False := eq_false (by omega)
        clear hh ht c5
        cases t with
        | true =>
          rw [if_pos rfl] at hh2
          obtain rfl := Option.some.inj hh2
          clear hh2
          go_wp2_with (first | (go_at_call 22; (refine (msg_wrong.calls kind (N 0) (N 1) (N 2) (N 3) (N 4) (N 5) (N 6) Av cv ls _ _ (Kd.R_reads' HRL.out).2.2 (Kd.R_reads' HRL.out).2.1 HWR.out).mono ?_); rintro e_ w5 ⟨rfl, hb⟩; replace PS := Aside0.mk (PS.out.below hb); replace HRL := Aside0.mk (Kd.R_below HRL.out hb); clear hb x0 x1 x2 x3 x4 x5 x6 x7 x8; obtain ⟨x0, x1, x2, x3, x4, x5, x6, x7, x8⟩ := msg_Bytes.cells9 PS.out.2.1) | ((with_reducible refine gate_store_ (T := 24) rfl ?_); refine stA_ rfl rfl rfl rfl rfl PS.out.2.1 (by rfl) (by kernel_rfl) (by simp [Value.oneCell']) ?_; intro W' r2 r3 r4 r5; replace HRL := Aside0.mk (Kd.R_mono (ok' := fun _ => True) (Kd.R_step (Kd.R_types HRL.out PS.out.2.1 (by decide)) (fun k hk _ => r3 k hk.2)) (fun _ _ => trivial)); replace PS := Aside0.mk (PS.out.stored r2 r3 r5); clear r2 r3 r4 r5; have z1 : W'.cell? ⟨g3, 0, none⟩ = some (.int .i64 0) := (blk_cell PS.out.2.2.1 0).trans rfl; have z2 : W'.frozen? ⟨g3, 0, none⟩ = false := blk_frozen PS.out.2.2.1 0))
          exact msg_Parse.door (PS.out.err 150) (by rfl) rfl rfl (msg_Parse.Post.bad 150 (PS.out.err 150).1)
        | false =>
          rw [if_neg (by simp)] at hh2
          obtain rfl := Option.some.inj hh2
          clear hh2
          go_wp2_with (first | (go_at_call 22; (refine (msg_wrong.calls kind (N 0) (N 1) (N 2) (N 3) (N 4) (N 5) (N 6) Av cv ls _ _ (Kd.R_reads' HRL.out).2.2 (Kd.R_reads' HRL.out).2.1 HWR.out).mono ?_); rintro e_ w5 ⟨rfl, hb⟩; replace PS := Aside0.mk (PS.out.below hb); replace HRL := Aside0.mk (Kd.R_below HRL.out hb); clear hb x0 x1 x2 x3 x4 x5 x6 x7 x8; obtain ⟨x0, x1, x2, x3, x4, x5, x6, x7, x8⟩ := msg_Bytes.cells9 PS.out.2.1) | ((with_reducible refine gate_store_ (T := 24) rfl ?_); refine stA_ rfl rfl rfl rfl rfl PS.out.2.1 (by rfl) (by kernel_rfl) (by simp [Value.oneCell']) ?_; intro W' r2 r3 r4 r5; replace HRL := Aside0.mk (Kd.R_mono (ok' := fun _ => True) (Kd.R_step (Kd.R_types HRL.out PS.out.2.1 (by decide)) (fun k hk _ => r3 k hk.2)) (fun _ _ => trivial)); replace PS := Aside0.mk (PS.out.stored r2 r3 r5); clear r2 r3 r4 r5; have z1 : W'.cell? ⟨g3, 0, none⟩ = some (.int .i64 0) := (blk_cell PS.out.2.2.1 0).trans rfl; have z2 : W'.frozen? ⟨g3, 0, none⟩ = false := blk_frozen PS.out.2.2.1 0))
          have T3 := PS.out.2.2.1
          exact msg_Parse.door (PS.out.err 0) (by rfl) rfl rfl ⟨_, rfl, Kd.R_set HRL.out T3 (by decide) 0 (.int .i64 0), (PS.out.err 0).1⟩
  · have h := HH.out
    rw [if_neg c1] at h
    obtain rfl := Option.some.inj h
    have c2 : msg_of.ok kind = false := by simpa using c1
    rw [c2]
    have PS := Aside0.mk PR.out.1
    clear h HH c1
    go_wp2_with (first | ((with_reducible refine gate_store_ (T := 24) rfl ?_); refine stA_ rfl rfl rfl rfl rfl PS.out.2.1 (by rfl) (by kernel_rfl) (by simp [Value.oneCell']) ?_; intro W' r2 r3 r4 r5; replace PS := Aside0.mk (PS.out.stored r2 r3 r5); clear r2 r3 r4 r5; have z1 : W'.cell? ⟨g3, 0, none⟩ = some (.int .i64 0) := (blk_cell PS.out.2.2.1 0).trans rfl; have z2 : W'.frozen? ⟨g3, 0, none⟩ = false := blk_frozen PS.out.2.2.1 0))
    exact msg_Parse.door (PS.out.err 150) (by rfl) rfl rfl (msg_Parse.Post.bad 150 (PS.out.err 150).1)
theorem msg_Parse.calls (k : Nat) (A0 : Option Addr) (c0 : Nat) (l0 : List Int) (r1 r2 r3 r4 r5 r6 r7 r8 : Int) (r9 : List Int) (r10 : Int) (w : World) (hr0 : Kd.C (Kd.int .u8) w A0 l0.length l0) (hc0 : l0.length ≤ c0) (h : msg_Parse.f k l0 = some (r1, r2, r3, r4, r5, r6, r7, r8, r9, r10)) :
    Calls Try.prog 15 #[.slice A0 l0.length c0] w fun e w' => ∃ v8_ : Value, e = .returned (.tuple #[.agg #[.int .i64 r1, .int .i64 r2, .int .i64 r3, .int .i64 r4, .int .i64 r5, .int .i64 r6, .int .i64 r7, .int .i64 r8, v8_], .int .i64 r10]) ∧ Kd.R (Kd.int .i32) 21 w' w.heap.size (fun _ => True) v8_ r9 ∧ Below w.heap.size w w' := by
  unfold msg_Parse.f at h
  obtain ⟨⟨kind, body, e⟩, hp, hg⟩ := Option.bind_eq_some_iff.1 h
  unfold msg_Parse.g at hg
  simp only at hg
  by_cases he : e = 0
  · subst he
    rw [if_pos rfl] at hg
    by_cases hk : 0 ≤ kind ∧ kind ≤ 255 ∧ ∀ x ∈ body, 0 ≤ x ∧ x ≤ 255
    · rw [if_pos hk] at hg
      exact msg_Parse.good k A0 c0 l0 kind body _ w hr0 hc0 hp hk.1 hk.2.1 hk.2.2 hg
    · rw [if_neg hk] at hg; cases hg
  · rw [if_neg he] at hg
    have hq := Option.some.inj hg
    unfold msg_Parse.bad at hq
    simp only [Prod.mk.injEq] at hq
    obtain ⟨rfl, rfl, rfl, rfl, rfl, rfl, rfl, rfl, rfl, rfl⟩ := hq
    refine (msg_Parse.err k A0 c0 l0 kind body e w hr0 hc0 hp he).mono ?_
    rintro e_ w' ⟨rfl, hb⟩
    exact msg_Parse.Post.bad e hb
end Go.Proofs.Ytnkphgiodpledaa.QMsgBack
