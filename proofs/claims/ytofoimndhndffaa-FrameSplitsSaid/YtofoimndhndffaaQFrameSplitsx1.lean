-- Written by a program of this session (a turned copy of the print) out of the translation. Lean checks it.
import Derived.Test.YtofoimndhndffaaQFrameSplitsx0
namespace Go.Proofs.Ytofoimndhndffaa.QFrameSplits
open Go.RowKit Go.Proofs.YtofoimndhndffaaW.PrintWords Go.Proofs.YtofoimndhndffaaW.PrintLast Go.Proofs.YtofoimndhndffaaW.PrintMore
attribute [local go_sem] max2_int min2_int max_two min_two max_three min_three max_four min_four   -- for this text's walks alone
open Go.Proofs.YtofoimndhndffaaW.PrintWords renaming below_alloc → b_a, pw_below_drewN → b_n, below_drew1 → b_d, below_set → b_s, blk_drewN → k_n, blk_drew → k_d, blk_alloc → k_a
open List renaming setIfInBounds_toArray → l_1, set_cons_zero → l_2, set_cons_succ → l_3, map_toArray → l_4, map_cons → l_5, map_nil → l_6, length_drop → l_7, length_take → l_8
set_option linter.unusedVariables false
set_option linter.unusedSimpArgs false

/-! ### frame_four: function 16 -/
def frame_four.f (l0 : List Int) (a1 : Int) : Option (List Int) := (some (([(a1 / 16777216) % 256, (a1 / 65536) % 256, (a1 / 256) % 256, (a1) % 256] : List Int) : List Int)).bind fun y101 => (if l0.length + y101.length < 140737488355328 then (some (l0 ++ y101)) else (none))
set_option maxHeartbeats 60000000 in
set_option maxRecDepth 100000 in
theorem frame_four.calls (P0_ : Nat → Prop) (u9000_ : Value) (l0 : List Int) (a1 : Int) (r : List Int) (w0 w : World) (hB : Below w0.heap.size w0 w) (ho0 : Kd.R (Kd.int .u8) 5 w w0.heap.size P0_ u9000_ l0) (h : frame_four.f l0 a1 = some r) :
  Calls Try.prog 16 #[u9000_, .int .u32 a1] w fun e w' => ∃ v0_ : Value, e = .returned (v0_) ∧ Kd.R (Kd.int .u8) 5 w' w0.heap.size (fun k_ => (P0_ k_ ∨ w.heap.size ≤ k_)) v0_ r ∧ Below w0.heap.size w0 w' ∧ Kept w w' (fun k_ => P0_ k_) := by
 have HO0 := Aside0.mk (show Kd.R (Kd.int .u8) 5 w w0.heap.size (fun k_ => (P0_ k_ ∨ w.heap.size ≤ k_)) u9000_ l0 from Kd.R_mono ho0 (fun k_ hk => (.inl hk)))
 have HK := Aside0.mk (Kept.refl w (fun k_ => P0_ k_))
 have HW0 := Aside0.mk hB.size
 have HB := Aside0.mk hB
 clear hB
 have H : ((some (([(a1 / 16777216) % 256, (a1 / 65536) % 256, (a1 / 256) % 256, (a1) % 256] : List Int) : List Int)).bind fun y101 => (if l0.length + y101.length < 140737488355328 then (some (l0 ++ y101)) else (none))) = some r := h
 clear h
 obtain ⟨y101, hy101⟩ : ∃ y_ : List Int, y_ = (([(a1 / 16777216) % 256, (a1 / 65536) % 256, (a1 / 256) % 256, (a1) % 256] : List Int)) := ⟨_, rfl⟩
 replace H : (if l0.length + y101.length < 140737488355328 then (some (l0 ++ y101)) else (none)) = some r := by first | (rw [hy101]; with_reducible exact H) | (have H2_ := (Option.bind_some _ _).symm.trans H; rw [hy101]; with_reducible exact H2_) | (have H2_ := (Option.bind_some _ _).symm.trans H; with_reducible exact H2_) | with_reducible exact H | (rw [hy101]; exact H) | exact H
 have Ny101 := Aside0.mk hy101
 clear hy101
 by_cases c3 : l0.length + y101.length < 140737488355328
 rotate_left
 ·
  rw [if_neg c3] at H
  exact absurd H (by simp)

 rw [if_pos c3] at H
 have LMc3 := Aside0.mk c3
 clear c3
 obtain ⟨y104, hy104⟩ : ∃ y_ : List Int, y_ = (l0 ++ y101) := ⟨_, rfl⟩
 replace H : (some y104) = some r := by first | (rw [hy104]; with_reducible exact H) | (have H2_ := (Option.bind_some _ _).symm.trans H; rw [hy104]; with_reducible exact H2_) | (have H2_ := (Option.bind_some _ _).symm.trans H; with_reducible exact H2_) | with_reducible exact H | (rw [hy104]; exact H) | exact H
 have Ny104 := Aside0.mk hy104
 clear hy104
 obtain rfl := Option.some.inj H
 go_enter Try.func16, Try.ntmps16
 go_wp2_with (first | ((with_reducible refine gate_dst (N := 17) rfl ?_); refine Kd.R_lit (Kd.int .u8) _ 5 ?hg (N := 17) ?hd (xs := ([(a1 / 16777216) % 256, (a1 / 65536) % 256, (a1 / 256) % 256, (a1) % 256] : List Int)) (inner := [.int .u8 ((a1 / 16777216) % 256), .int .u8 ((a1 / 65536) % 256), .int .u8 ((a1 / 256) % 256), .int .u8 ((a1) % 256)]) (ok := fun _ => True) (okp := fun _ => True) ?hr ?hp (fun _ hk => hk) trivial (Below.refl _ _) (Nat.le_refl _) (by simp) ?_; (case hd => rfl); (case hg => rfl); (case hr => first | (go_simp; done) | (go_simp; rfl)); (case hp => exact (Reps.one (show Kd.M (Kd.int .u8) _ _ _ ((a1 / 16777216) % 256) [.int .u8 ((a1 / 16777216) % 256)] from rfl) (Reps.one (show Kd.M (Kd.int .u8) _ _ _ ((a1 / 65536) % 256) [.int .u8 ((a1 / 65536) % 256)] from rfl) (Reps.one (show Kd.M (Kd.int .u8) _ _ _ ((a1 / 256) % 256) [.int .u8 ((a1 / 256) % 256)] from rfl) (Reps.one (show Kd.M (Kd.int .u8) _ _ _ ((a1) % 256) [.int .u8 ((a1) % 256)] from rfl) (Reps.none _ _)))))); intro v102 w4 ho5 hb hg_ hnew_; clear hg_ hnew_; (first | rw [← Ny101.out] at ho5 | (simp only [Int.reduceToNat] at ho5; rw [← Ny101.out] at ho5)); have HO103 := Aside0.mk (Kd.R_lower (Kd.R_new' (Kd.R_newM (M := fun k_ => (P0_ k_ ∨ w.heap.size ≤ k_)) ho5 (by first | exact HK.out.1 | exact (show Kept w _ (fun k_ => P0_ k_) from by repeat (first | (with_reducible first | exact HK.out | apply Kept.alloc | apply Kept.drewN | apply Kept.drew) | exact HK.out)).1) (fun k_ h_ => .inr h_)) (Kd.R_lt (tR_ HO0))) (below_size (bw_ HB))); replace HO0 := Aside0.mk (Kd.R_elder' (tR_ HO0) (Kd.R_base ho5) hb); replace HK := Aside0.mk (Kept.below (S := (fun k_ => P0_ k_)) (by repeat (first | (with_reducible first | exact HK.out | apply Kept.alloc | apply Kept.drewN | apply Kept.drew) | exact HK.out)) hb); replace HB := Aside0.mk (below_step (bw_ HB) hb); clear hb ho5; obtain ⟨Ao7, co7, eo7⟩ := Kd.R_slice HO103.out; subst eo7) | ((with_reducible refine gate_builtin (b := .append) (xs := #[.tmp 5, .tmp 17]) rfl ?_); at_builtin; refine Kd.R_append_rows (Kd.int .u8) (w0 := w0) w0.heap.size rfl (.tmp 5) (.tmp 17) 22 5 (.int .u8 0) 1 rfl Try.underlying22 info5 rfl (by decide) (by omega) u9000_ l0 y101 _ _ _ (fun k_ => (P0_ k_ ∨ w.heap.size ≤ k_) ∧ some k_ ≠ (.slice Ao7 y101.length co7 : Value).ownBlock) (fun _ => False) rfl rfl ?aO ?aR (fun _ _ h => h) (fun _ h => h.elim) ?aF ?aB ?aS ?aL ?_; (case aR => repeat (first | exact (Kd.R_reads' HO103.out).2.2 | (with_reducible refine Kd.C_alloc ?_ _) | (with_reducible refine Kd.C_drewN ?_ _) | (with_reducible refine Kd.C_drew ?_))); (case aB => exact (bw_ HB)); (case aF => exact (fun k_ hk => ⟨(.inr (Nat.le_trans (by first | exact HK.out.1 | exact (show Kept w _ (fun k_ => P0_ k_) from by repeat (first | (with_reducible first | exact HK.out | apply Kept.alloc | apply Kept.drewN | apply Kept.drew) | exact HK.out)).1) hk)), Kd.fresh' (Kd.R_lt (tR_ HO103)) k_ hk⟩)); (case aO => exact (tR_ HO0)); (case aS => exact (below_size (bw_ HB))); (case aL => have := LMc3.out; omega); intro v105 w6 ho hb hg hat; rw [← Ny104.out] at ho; have n0_ := Aside0.mk (Kd.R_after (ok := (fun k_ => (P0_ k_ ∨ w.heap.size ≤ k_))) (by (with_reducible repeat (first | apply Kd.R_alloc | apply Kd.R_drewN | apply Kd.R_drew)); exact Kd.R_mono HO103.out (fun _ hk => ⟨hk.1.1, hk.2⟩)) hg hat); have n1_ := Aside0.mk (hb); have n2_ := Aside0.mk (Kept.of_grown (S := (fun k_ => P0_ k_)) hg (by repeat (first | (with_reducible first | exact HK.out | apply Kept.alloc | apply Kept.drewN | apply Kept.drew) | exact HK.out)) (fun k_ e_ => (HO0.out.1 k_ e_).1)); have n3_ := Aside0.mk (ho); clear HO103; clear HB; clear HK; clear HO0; have HO103 := n0_; have HB := n1_; have HK := n2_; have HO106 := n3_; clear n0_ n1_ n2_ n3_; clear ho hb hg hat))
 go_ret
 exact ⟨_, by first | rfl | (simp [errW_none, errW_some] <;> rfl) | (simp [*, errW_none, errW_some] <;> rfl), by (with_reducible repeat (first | apply Kd.R_alloc | apply Kd.R_drewN | apply Kd.R_drew)); exact Kd.R_mono HO106.out (fun _ hk => hk.1), by repeat (first | (with_reducible first | exact HB.out | apply b_a | apply b_n | apply b_d) | exact HB.out), by repeat (first | (with_reducible first | exact HK.out | apply Kept.alloc | apply Kept.drewN | apply Kept.drew) | exact HK.out)⟩
/-! ### weight_Sum: function 17, by hand -/
def weight_Sum.tab : List Int := [0, 498536548, 997073096, 651767980, 1994146192, 1802195444, 1303535960, 1342533948, 3988292384, 4027552580, 3604390888, 3412177804, 2607071920, 2262029012, 2685067896, 3183342108]
def weight_Sum.h1 (s y : Int) : Int := Go.bits .xor .u32 (rd weight_Sum.tab (Go.bits .and .u32 (Go.bits .xor .u32 s y) 15)) (s / 16)
def weight_Sum.step (s x : Int) : Int := weight_Sum.h1 (weight_Sum.h1 s (IntKind.u32.wrap x)) ((IntKind.u32.wrap x) / 16)
def weight_Sum.piece (s : Int) (l : List Int) : Int := l.foldl weight_Sum.step s
def weight_Sum.rdp (xs : List (List Int)) (i : Int) : (List Int) := xs.getD i.toNat ([] : List Int)
theorem weight_Sum.at {w : World} {A : Option Addr} {n : Nat} {xs : List (List Int)} (h : Kd.C (Kd.slice 5 (Kd.int .u8)) w A n xs) (i : Int) (h0 : 0 ≤ i) (h1 : i < n) : ∃ ad A0 c0, A = some ad ∧ w.cell? (ad.add i.toNat) = some (.slice A0 (weight_Sum.rdp xs i).length c0) ∧ (weight_Sum.rdp xs i).length ≤ c0 ∧ (Kd.int .u8).C w A0 (weight_Sum.rdp xs i).length (weight_Sum.rdp xs i) := by
  obtain ⟨ad, c, e, _, hK, hc0⟩ := Kd.C_get h ([] : List Int) i h0 h1
  have hc : ∀ j u, c[j]? = some u → w.cell? (ad.add (i.toNat * 1 + j)) = some u := hc0
  obtain ⟨A0, c0, rfl, l0, g0⟩ := hK
  exact ⟨ad, A0, c0, e, by have hq := hc 0 _ rfl; rwa [Nat.mul_one, Nat.add_zero] at hq, l0, g0⟩
def weight_Sum.fit (l0 : List (List Int)) : Bool := decide (l0.length < 4611686018427387904) && l0.all (fun l => decide (l.length < 4611686018427387904))
def weight_Sum.f (l0 : List (List Int)) : Option (Int) := if weight_Sum.fit l0 = true then some (Go.bits .xor .u32 4294967295 (l0.foldl weight_Sum.piece 4294967295)) else none
theorem weight_Sum.next (l : List Int) (s : Int) (j : Int) (h0 : 0 ≤ j) (h1 : j < (l.length : Int)) : weight_Sum.piece s (l.drop j.toNat) = weight_Sum.piece (weight_Sum.step s (rd l j)) (l.drop (j + 1).toNat) := by
  have hj : j.toNat < l.length := by omega
  rw [show (j + 1).toNat = j.toNat + 1 by omega, List.drop_eq_getElem_cons hj]
  unfold weight_Sum.piece
  rw [List.foldl_cons]
  congr 2
  simp [rd, List.getD, hj]
theorem weight_Sum.nextL (l0 : List (List Int)) (s : Int) (i : Int) (h0 : 0 ≤ i) (h1 : i < (l0.length : Int)) : (l0.drop i.toNat).foldl weight_Sum.piece s = (l0.drop (i + 1).toNat).foldl weight_Sum.piece (weight_Sum.piece s (weight_Sum.rdp l0 i)) := by
  have hj : i.toNat < l0.length := by omega
  rw [show (i + 1).toNat = i.toNat + 1 by omega, List.drop_eq_getElem_cons hj, List.foldl_cons]
  congr 2
  simp [weight_Sum.rdp, List.getD, hj]
theorem weight_Sum.bound (l0 : List (List Int)) (i : Int) (h : weight_Sum.fit l0 = true) (h0 : 0 ≤ i) (h1 : i < (l0.length : Int)) : (weight_Sum.rdp l0 i).length < 4611686018427387904 := by
  unfold weight_Sum.fit at h
  rw [Bool.and_eq_true, List.all_eq_true] at h
  have hj : i.toNat < l0.length := by omega
  have e : weight_Sum.rdp l0 i = l0[i.toNat] := by simp [weight_Sum.rdp, List.getD, hj]
  rw [e]
  simpa using h.2 _ (List.getElem_mem hj)
theorem weight_Sum.wr (j : Int) (n : Int) (h0 : 0 ≤ j) (h1 : j < n) (h2 : n < 4611686018427387904) : wrap64 (j + 1) = j + 1 := by unfold wrap64; omega
theorem weight_Sum.ret {a b : Int} (h : a = b) : Ending.returned (.int .u32 a) = .returned (.int .u32 b) := by rw [h]
def weight_Sum.Inner (b : List Int) (z : Int) (v4 v18 : Value) : Prop := ∃ (s j : Int), v4 = .int .u32 s ∧ v18 = .int .i64 j ∧ 0 ≤ j ∧ j ≤ (b.length : Int) ∧ Aside0 (weight_Sum.piece s (b.drop j.toNat) = z)
theorem weight_Sum.info : (Try.prog.info? 55).map (·.size) = some 16 := by kernel_rfl
theorem weight_Sum.zero : ((Try.prog.info? 55).bind (·.zero)).map (·.cells.size) = some 16 := by kernel_rfl
theorem weight_Sum.store (w : World) : (storeCells ⟨w.heap.size, 0, none⟩ (List.map (Value.int .u32) weight_Sum.tab)).run Try.prog (w.alloc (.cells #[Value.int .u32 0, Value.int .u32 0, Value.int .u32 0, Value.int .u32 0, Value.int .u32 0, Value.int .u32 0, Value.int .u32 0, Value.int .u32 0, Value.int .u32 0, Value.int .u32 0, Value.int .u32 0, Value.int .u32 0, Value.int .u32 0, Value.int .u32 0, Value.int .u32 0, Value.int .u32 0] 55)) = .ok () (w.alloc (.cells (List.map (Value.int .u32) weight_Sum.tab).toArray 55)) :=
  run_storeCells_new w 55 _ (List.map (Value.int .u32) weight_Sum.tab).toArray weight_Sum.info rfl (by simp [Value.oneCell'])
theorem weight_Sum.cell (w : World) (m : Int) (h0 : 0 ≤ m) (h1 : m < 16) : (w.alloc (.cells (List.map (Value.int .u32) weight_Sum.tab).toArray 55)).cell? ⟨w.heap.size, m.toNat, none⟩ = some (.int .u32 (rd weight_Sum.tab m)) := by
  rw [cell_of_row _ _ _ _ _ _ (heap_alloc_last _ _)]
  have hl : m.toNat < weight_Sum.tab.length := by have : weight_Sum.tab.length = 16 := rfl; omega
  simp [rd, List.getD, hl]
theorem weight_Sum.and15 (x : Int) : 0 ≤ Go.bits .and .u32 x 15 ∧ Go.bits .and .u32 x 15 < 16 := by
  have e : bits .and .u32 x 15 = IntKind.u32.wrap (((BitVec.ofInt 32 x &&& BitVec.ofInt 32 15).toNat : Nat) : Int) := rfl
  have h : (BitVec.ofInt 32 x &&& BitVec.ofInt 32 15).toNat ≤ 15 := by rw [BitVec.toNat_and]; exact Nat.and_le_right
  have hw : ∀ y : Int, IntKind.u32.wrap y = y % 4294967296 := by intro y; simp [IntKind.wrap, IntKind.bits, IntKind.signed]
  rw [e, hw]; omega
set_option maxHeartbeats 60000000 in
set_option maxRecDepth 100000 in
theorem weight_Sum.calls (A0 : Option Addr) (c0 : Nat) (l0 : List (List Int)) (r : Int) (w : World) (hr0 : Kd.C (Kd.slice 5 (Kd.int .u8)) w A0 l0.length l0) (hc0 : l0.length ≤ c0) (h : weight_Sum.f l0 = some r) :
    Calls Try.prog 17 #[.slice A0 l0.length c0] w fun e w' => e = .returned (.int .u32 r) ∧ Below w.heap.size w w' := by
  have HR0 := Aside0.mk hr0
  have HC0 := Aside0.mk hc0
  clear hr0 hc0
  have HB := Aside0.mk (Below.refl w.heap.size w)
  unfold weight_Sum.f at h
  have hfit : weight_Sum.fit l0 = true := by
    by_cases hf : weight_Sum.fit l0 = true
    · exact hf
    · rw [if_neg hf] at h; cases h
  rw [if_pos hfit] at h
  have Hr := Aside0.mk (Option.some.inj h)
  clear h
  have HF := Aside0.mk hfit
  have HLEN : Aside0 ((l0.length : Int) < 4611686018427387904) := ⟨by
    unfold weight_Sum.fit at hfit
    rw [Bool.and_eq_true] at hfit
    have := of_decide_eq_true hfit.1
    omega⟩
  clear hfit
  go_enter Try.func17, Try.ntmps17
  have hst := weight_Sum.store w
  go_wp2_with (first | (refine wpList_buildFlatArr rfl 55 44 16 _ rfl .u32 weight_Sum.tab Try.underlying55 (by kernel_rfl) weight_Sum.zero (by kernel_rfl) ?_))
  clear hst
  obtain ⟨W1, hW1⟩ : ∃ W, W = w.alloc (.cells (List.map (Value.int .u32) weight_Sum.tab).toArray 55) := ⟨_, rfl⟩
  rw [← hW1]
  have HT : Aside0 (∀ m : Int, 0 ≤ m → m < 16 → W1.cell? ⟨w.heap.size, m.toNat, none⟩ = some (.int .u32 (rd weight_Sum.tab m))) := ⟨by rw [hW1]; exact weight_Sum.cell w⟩
  have HB1 : Aside0 (Below w.heap.size w W1) := ⟨by rw [hW1]; exact b_a HB.out _⟩
  clear hW1
  go_loop [4, 12] (fun v4 v12 => ∃ (s i : Int), v4 = .int .u32 s ∧ v12 = .int .i64 i ∧ 0 ≤ i ∧ i ≤ (l0.length : Int) ∧ Aside0 ((l0.drop i.toNat).foldl weight_Sum.piece s = l0.foldl weight_Sum.piece 4294967295)) (fun _ i => l0.length - (intOf i).toNat)
  case atStart => exact ⟨4294967295, 0, rfl, rfl, by omega, by omega, ⟨rfl⟩⟩
  case round =>
    obtain ⟨s, i, rfl, rfl, hi0, hi1, HS⟩ := hrel
    by_cases hlt : i < (l0.length : Int)
    · have q1 : decide (0 ≤ i) = true := decide_eq_true hi0
      have q2 : decide (i < (l0.length : Int)) = true := decide_eq_true hlt
      obtain ⟨ad, A', c', e', hx, hl, hin⟩ := weight_Sum.at HR0.out i hi0 hlt
      cases e'
      replace hx := (HB1.out.cell (World.block_lt_of_cell? w _ hx)).trans hx
      have HR1 := Aside0.mk hin
      have HC1 := Aside0.mk hl
      clear hin hl
      have HBL : Aside0 (((weight_Sum.rdp l0 i).length : Int) < 4611686018427387904) := ⟨by have := weight_Sum.bound l0 i HF.out hi0 hlt; omega⟩
      go_wp2
      go_loop [4, 18] (weight_Sum.Inner (weight_Sum.rdp l0 i) (weight_Sum.piece s (weight_Sum.rdp l0 i))) (fun _ j => (weight_Sum.rdp l0 i).length - (intOf j).toNat)
      case atStart => exact ⟨s, 0, rfl, rfl, by omega, by omega, ⟨rfl⟩⟩
      case round =>
        obtain ⟨t, j, rfl, rfl, hj0, hj1, HJ⟩ := hrel
        by_cases hjt : j < ((weight_Sum.rdp l0 i).length : Int)
        · have p1 : decide (0 ≤ j) = true := decide_eq_true hj0
          have p2 : decide (j < ((weight_Sum.rdp l0 i).length : Int)) = true := decide_eq_true hjt
          obtain ⟨ae, ee, hy⟩ := Kd.at_int HR1.out j hj0 hjt
          cases ee
          replace hy := (HB1.out.cell (World.block_lt_of_cell? w _ hy)).trans hy
          obtain ⟨x, hX⟩ : ∃ x, rd (weight_Sum.rdp l0 i) j = x := ⟨_, rfl⟩
          rw [hX] at hy
          have HX := Aside0.mk hX
          clear hX
          obtain ⟨y, hY⟩ : ∃ y, IntKind.u32.wrap x = y := ⟨_, rfl⟩
          obtain ⟨m, hM⟩ : ∃ m, Go.bits .and .u32 (Go.bits .xor .u32 t y) 15 = m := ⟨_, rfl⟩
          have m0 := (weight_Sum.and15 (Go.bits .xor .u32 t y)).1
          have m1 := (weight_Sum.and15 (Go.bits .xor .u32 t y)).2
          rw [hM] at m0 m1
          have hcm := HT.out m m0 m1
          obtain ⟨g, hG⟩ : ∃ g, Go.bits .xor .u32 (rd weight_Sum.tab m) (t / 16) = g := ⟨_, rfl⟩
          obtain ⟨m', hM'⟩ : ∃ m', Go.bits .and .u32 (Go.bits .xor .u32 g (y / 16)) 15 = m' := ⟨_, rfl⟩
          have m0' := (weight_Sum.and15 (Go.bits .xor .u32 g (y / 16))).1
          have m1' := (weight_Sum.and15 (Go.bits .xor .u32 g (y / 16))).2
          rw [hM'] at m0' m1'
          have hcm' := HT.out m' m0' m1'
          have HST : Aside0 (Go.bits .xor .u32 (rd weight_Sum.tab m') (g / 16) = weight_Sum.step t x) := ⟨by
            unfold weight_Sum.step weight_Sum.h1
            rw [hY, hM, hG, hM']⟩
          go_wp2
          have hw : wrap64 (j + 1) = j + 1 := weight_Sum.wr j _ hj0 hjt HBL.out
          go_round
          case rel => exact ⟨_, j + 1, by rw [HST.out], by rw [hw], by omega, by omega, ⟨by
            rw [← HJ.out, weight_Sum.next (weight_Sum.rdp l0 i) t j hj0 hjt, HX.out]⟩⟩
          case measure => rw [hw]; simp [intOf]; omega
        · have p2 : decide (j < ((weight_Sum.rdp l0 i).length : Int)) = false := decide_eq_false hjt
          have ht : t = weight_Sum.piece s (weight_Sum.rdp l0 i) := by
            have := HJ.out
            rw [List.drop_of_length_le (by omega)] at this
            exact this
          have HT2 := Aside0.mk ht
          clear ht
          go_wp2
          have hw : wrap64 (i + 1) = i + 1 := weight_Sum.wr i _ hi0 hlt HLEN.out
          go_round
          case rel => exact ⟨_, i + 1, rfl, by rw [hw], by omega, by omega, ⟨by
            rw [← HS.out, weight_Sum.nextL l0 s i hi0 hlt, HT2.out]⟩⟩
          case measure => rw [hw]; simp [intOf]; omega
    · have q2 : decide (i < (l0.length : Int)) = false := decide_eq_false hlt
      have hs : s = l0.foldl weight_Sum.piece 4294967295 := by
        have := HS.out
        rw [List.drop_of_length_le (by omega)] at this
        exact this
      have HS2 := Aside0.mk hs
      clear hs
      go_wp2
      go_ret
      exact ⟨weight_Sum.ret (by rw [HS2.out, ← Hr.out]; rfl), HB1.out⟩
/-! ### frame_Pack: function 9, by hand -/
def frame_Pack.f (a0 : Int) (l1 : List Int) : Option (List Int × Int) := if (l1.length : Int) > 1048576 then some ([], 140) else (frame_four.f [80, 76, 1, a0] ((l1.length : Int) % 4294967296)).bind fun b1 => (if b1.length + l1.length < 140737488355328 then ((weight_Sum.f [b1 ++ l1]).bind fun s => ((frame_four.f (b1 ++ l1) s).bind fun r => some (r, 0))) else none)
set_option maxHeartbeats 8000000 in
set_option maxRecDepth 100000 in
theorem frame_Pack.calls (a0 : Int) (A1 : Option Addr) (c1 : Nat) (l1 : List Int) (r1 : List Int) (r2 : Int) (w : World) (hr1 : Kd.C (Kd.int .u8) w A1 l1.length l1) (hc1 : l1.length ≤ c1) (h : frame_Pack.f a0 l1 = some (r1, r2)) :
    Calls Try.prog 9 #[.int .u8 a0, .slice A1 l1.length c1] w fun e w' => ∃ v0_ : Value, e = .returned (.tuple #[v0_, .int .i64 r2]) ∧ Kd.R (Kd.int .u8) 5 w' w.heap.size (fun _ => True) v0_ r1 ∧ Below w.heap.size w w' := by
  have HR1 := Aside0.mk hr1
  have HC1 := Aside0.mk hc1
  clear hr1 hc1
  have HB := Aside0.mk (Below.refl w.heap.size w)
  unfold frame_Pack.f at h
  by_cases c : (l1.length : Int) > 1048576
  · rw [if_pos c] at h
    simp only [Option.some.injEq, Prod.mk.injEq] at h
    obtain ⟨rfl, rfl⟩ := h
    have cb : decide (1048576 < (l1.length : Int)) = true := decide_eq_true c
    go_enter Try.func9, Try.ntmps9
    go_wp2
    go_ret2
    exact ⟨_, rfl, Kd.R_nil _ _ _ _ _, HB.out⟩
  · rw [if_neg c] at h
    have cb : decide (1048576 < (l1.length : Int)) = false := decide_eq_false c
    clear c
    obtain ⟨b1, h1, h⟩ := Option.bind_eq_some_iff.1 h
    have H1 := Aside0.mk h1
    clear h1
    by_cases c2 : b1.length + l1.length < 140737488355328
    · rw [if_pos c2] at h
      have HC2 := Aside0.mk c2
      clear c2
      obtain ⟨s, h2, h⟩ := Option.bind_eq_some_iff.1 h
      obtain ⟨r, h3, h⟩ := Option.bind_eq_some_iff.1 h
      simp only [Option.some.injEq, Prod.mk.injEq] at h
      obtain ⟨rfl, rfl⟩ := h
      obtain ⟨bl, hbl⟩ : ∃ bl, bl = b1 ++ l1 := ⟨_, rfl⟩
      rw [← hbl] at h2 h3
      have H2 := Aside0.mk h2
      have H3 := Aside0.mk h3
      have HBL := Aside0.mk hbl
      clear h2 h3 hbl
      go_enter Try.func9, Try.ntmps9
      go_wp2_with (first | ((with_reducible refine gate_dst (N := 11) rfl ?_); refine Kd.R_lit (Kd.int .u8) _ 5 ?hg (N := 11) ?hd (xs := ([80, 76, 1, a0] : List Int)) (inner := [.int .u8 80, .int .u8 76, .int .u8 1, .int .u8 a0]) (ok := fun _ => True) (okp := fun _ => True) ?hr ?hp (fun _ hk => hk) trivial (Below.refl _ _) (Nat.le_refl _) (by simp) ?_; (case hd => rfl); (case hg => rfl); (case hr => first | (go_simp; done) | (go_simp; rfl)); (case hp => exact (Reps.one (show Kd.M (Kd.int .u8) _ _ _ 80 [.int .u8 80] from rfl) (Reps.one (show Kd.M (Kd.int .u8) _ _ _ 76 [.int .u8 76] from rfl) (Reps.one (show Kd.M (Kd.int .u8) _ _ _ 1 [.int .u8 1] from rfl) (Reps.one (show Kd.M (Kd.int .u8) _ _ _ a0 [.int .u8 a0] from rfl) (Reps.none _ _)))))); intro v1 w1 ho hb hg_ hnew_; clear hg_ hnew_; have HO1 := Aside0.mk ho; have HB1 := Aside0.mk hb; clear ho hb) | (go_at_call 16; (with_reducible refine (frame_four.calls (fun _ => True) v1 [80, 76, 1, a0] ((l1.length : Int) % 4294967296) b1 w _ HB1.out HO1.out H1.out).mono ?_); rintro e w2 ⟨v2, rfl, ho, hb, _⟩; have HO2 := Aside0.mk (Kd.R_mono (ok' := fun _ => True) ho (fun _ _ => trivial)); have HB2 := Aside0.mk hb; clear ho hb) | ((with_reducible refine gate_builtin (b := .append) (xs := #[.tmp 15, .tmp 16]) rfl ?_); at_builtin; refine Kd.R_append_rows (Kd.int .u8) (w0 := w) w.heap.size rfl (.tmp 15) (.tmp 16) 22 5 (.int .u8 0) 1 rfl Try.underlying22 info5 rfl (by decide) (by omega) v2 b1 l1 _ _ _ (fun _ => True) (fun _ => False) rfl rfl ?aO ?aR (fun _ _ h => h) (fun _ h => h.elim) ?aF ?aB ?aS ?aL ?_; (case aR => exact Kd.C_below HR1.out HB2.out); (case aB => exact HB2.out); (case aF => exact fun _ _ => trivial); (case aO => exact HO2.out); (case aS => exact HB2.out.size); (case aL => have := HC2.out; omega); intro v3 w3 ho hb hg hat; rw [← HBL.out] at ho; have HO3 := Aside0.mk ho; have HB3 := Aside0.mk hb; clear ho hb hg hat; obtain ⟨A3, c3, e3⟩ := Kd.R_slice HO3.out; subst e3) | (go_at_call 17; refine (weight_Sum.calls (some ⟨w3.heap.size, 0, none⟩) 1 [bl] s _ ?hC ?hN H2.out).mono ?_; (case hN => exact Nat.le_refl _); (case hC => exact C_blkS (cs := [.slice A3 bl.length c3]) (ls := [bl]) (by simp) (top_alloc _ _ _ rfl) (one_at (Kd.R_reads' HO3.out).2.1 (Kd.C_below (Kd.R_reads' HO3.out).2.2 (b_a (Below.refl _ _) _)))); rintro e w5 ⟨rfl, hb⟩; have HO5 := Aside0.mk (Kd.R_below (Kd.R_alloc HO3.out _) hb); have HB5 := Aside0.mk (below_step (b_a HB3.out _) hb); clear hb) | (go_at_call 16; (with_reducible refine (frame_four.calls (fun _ => True) (.slice A3 bl.length c3) bl s r w _ HB5.out HO5.out H3.out).mono ?_); rintro e w6 ⟨v6, rfl, ho, hb, _⟩; have HO6 := Aside0.mk (Kd.R_mono (ok' := fun _ => True) ho (fun _ _ => trivial)); have HB6 := Aside0.mk hb; clear ho hb))
      go_ret2
      exact ⟨_, rfl, HO6.out, HB6.out⟩
    · rw [if_neg c2] at h; cases h
/-! ### frame_word: function 21 -/
def frame_word.f (l0 : List Int) : Option (Int) := if 0 < (l0.length : Int) then (if 1 < (l0.length : Int) then (if 2 < (l0.length : Int) then (if 3 < (l0.length : Int) then (some (Go.bits .or .u32 (Go.bits .or .u32 (Go.bits .or .u32 ((((rd l0 0) % 4294967296) * 16777216) % 4294967296) ((((rd l0 1) % 4294967296) * 65536) % 4294967296)) ((((rd l0 2) % 4294967296) * 256) % 4294967296)) ((rd l0 3) % 4294967296))) else (none)) else (none)) else (none)) else (none)
set_option maxHeartbeats 60000000 in
set_option maxRecDepth 100000 in
theorem frame_word.calls (A0 : Option Addr) (c0 : Nat) (l0 : List Int) (r : Int) (w : World) (hr0 : Kd.C (Kd.int .u8) w A0 l0.length l0) (hc0 : l0.length ≤ c0) (h : frame_word.f l0 = some r) :
  Calls Try.prog 21 #[.slice A0 l0.length c0] w fun e w' => e = .returned (.int .u32 r) ∧ Drawn0 w w' := by
 have HR0 := Aside0.mk hr0
 have HC0 := Aside0.mk hc0
 clear hr0 hc0
 have H : (if 0 < (l0.length : Int) then (if 1 < (l0.length : Int) then (if 2 < (l0.length : Int) then (if 3 < (l0.length : Int) then (some (Go.bits .or .u32 (Go.bits .or .u32 (Go.bits .or .u32 ((((rd l0 0) % 4294967296) * 16777216) % 4294967296) ((((rd l0 1) % 4294967296) * 65536) % 4294967296)) ((((rd l0 2) % 4294967296) * 256) % 4294967296)) ((rd l0 3) % 4294967296))) else (none)) else (none)) else (none)) else (none)) = some r := h
 clear h
 by_cases c2 : 0 < (l0.length : Int)
 rotate_left
 ·
  rw [if_neg c2] at H
  exact absurd H (by simp)

 rw [if_pos c2] at H
 have c2b0 : decide (0 < (l0.length : Int)) = true := decide_eq_true c2
 have c2b1 : decide (0 < l0.length) = true := decide_eq_true (by omega)
 clear c2
 by_cases c3 : 1 < (l0.length : Int)
 rotate_left
 ·
  rw [if_neg c3] at H
  exact absurd H (by simp)
 rw [if_pos c3] at H
 have c3b0 : decide (1 < (l0.length : Int)) = true := decide_eq_true c3
 have c3b1 : decide (1 < l0.length) = true := decide_eq_true (by omega)
 clear c3
 by_cases c4 : 2 < (l0.length : Int)
 rotate_left
 ·
  rw [if_neg c4] at H
  exact absurd H (by simp)
 rw [if_pos c4] at H
 have c4b0 : decide (2 < (l0.length : Int)) = true := decide_eq_true c4
 have c4b1 : decide (2 < l0.length) = true := decide_eq_true (by omega)
 clear c4
 by_cases c5 : 3 < (l0.length : Int)
 rotate_left
 ·
  rw [if_neg c5] at H
  exact absurd H (by simp)
 rw [if_pos c5] at H
 have c5b0 : decide (3 < (l0.length : Int)) = true := decide_eq_true c5
 have c5b1 : decide (3 < l0.length) = true := decide_eq_true (by omega)
 clear c5
 obtain rfl := Option.some.inj H
 have p107 : 0 ≤ (0 : Int) := (by omega)
 have q107 : 0 < (l0.length : Int) := of_decide_eq_true (by first | (with_reducible assumption) | assumption)
 obtain ⟨ad107, e107, hx107_0⟩ := Kd.at_int HR0.out 0 p107 q107
 cases e107
 have qi107 : (0 < l0.length) = True := eq_true (by omega)
 (try rw [show ((0 : Int)).toNat = 0 from rfl] at hx107_0)
 (try rw [Addr.add_zero'] at hx107_0)
 replace p107 := eq_true p107
 replace q107 := eq_true q107
 have p108 : 0 ≤ (1 : Int) := (by omega)
 have q108 : 1 < (l0.length : Int) := of_decide_eq_true (by first | (with_reducible assumption) | assumption)
 obtain ⟨ad108, e108, hx108_0⟩ := Kd.at_int HR0.out 1 p108 q108
 obtain rfl : ad107 = ad108 := (by injection e108)
 (try simp only [show (1 : Int).toNat = 1 from rfl, Nat.reduceMul, Nat.reduceEqDiff, Go.Addr.add, ↓reduceIte] at hx108_0)
 have qi108 : (1 < l0.length) = True := eq_true (by omega)
 (try rw [show ((1 : Int)).toNat = 1 from rfl] at hx108_0)
 replace p108 := eq_true p108
 replace q108 := eq_true q108
 have p109 : 0 ≤ (2 : Int) := (by omega)
 have q109 : 2 < (l0.length : Int) := of_decide_eq_true (by first | (with_reducible assumption) | assumption)
 obtain ⟨ad109, e109, hx109_0⟩ := Kd.at_int HR0.out 2 p109 q109
 obtain rfl : ad107 = ad109 := (by injection e109)
 (try simp only [show (2 : Int).toNat = 2 from rfl, Nat.reduceMul, Nat.reduceEqDiff, Go.Addr.add, ↓reduceIte] at hx109_0)
 have qi109 : (2 < l0.length) = True := eq_true (by omega)
 (try rw [show ((2 : Int)).toNat = 2 from rfl] at hx109_0)
 replace p109 := eq_true p109
 replace q109 := eq_true q109
 have p110 : 0 ≤ (3 : Int) := (by omega)
 have q110 : 3 < (l0.length : Int) := of_decide_eq_true (by first | (with_reducible assumption) | assumption)
 obtain ⟨ad110, e110, hx110_0⟩ := Kd.at_int HR0.out 3 p110 q110
 obtain rfl : ad107 = ad110 := (by injection e110)
 (try simp only [show (3 : Int).toNat = 3 from rfl, Nat.reduceMul, Nat.reduceEqDiff, Go.Addr.add, ↓reduceIte] at hx110_0)
 have qi110 : (3 < l0.length) = True := eq_true (by omega)
 (try rw [show ((3 : Int)).toNat = 3 from rfl] at hx110_0)
 replace p110 := eq_true p110
 replace q110 := eq_true q110
 go_enter Try.func21, Try.ntmps21
 go_wp2
 repeat (go_quiet (fail); try go_wp2)
 go_ret
 exact ⟨by first | rfl | (simp; done) | (simp [*]; done), by repeat (first | exact Drawn0.refl _ | apply Drawn0.step)⟩
/-! ### frame_size: function 20 -/
def frame_size.j0 : Nat → List Int → Bool → Option (Int × Int)
 | 0, _, _ => none
 | k + 1, x0, x9 => if x9 = true then (some (0, 71)) else (if 2 < (x0.length : Int) then (if (rd x0 2) = 1 then (if 4 ≤ (x0.length : Int) then ((frame_word.f (x0.drop 4)).bind fun t115 => (if t115 > 1048576 then (some (0, 140)) else (some (wrap64 (12 + (wrap64 (t115))), 0)))) else (none)) else (some (0, 141))) else (none))
def frame_size.f (k : Nat) (l0 : List Int) : Option (Int × Int) := if (l0.length : Int) < 12 then (some (0, 70)) else (if 0 < (l0.length : Int) then (if (rd l0 0) = 80 then (if 1 < (l0.length : Int) then (frame_size.j0 k l0 ((rd l0 1) != 76)) else (none)) else (frame_size.j0 k l0 true)) else (none))
theorem frame_size.mono_l : ∀ k, (∀ y0 y1, LeO (frame_size.j0 k y0 y1) (frame_size.j0 (k + 1) y0 y1))
 | 0 => fun _ _ r h => by simp [frame_size.j0] at h
 | k + 1 => by
  have ih0 := frame_size.mono_l k
  ·
   intro y0 y1
   unfold frame_size.j0
   repeat' first
   | (with_reducible exact ih0 _ _)
   | (with_reducible exact LeO.refl _)
   | (with_reducible exact LeO.none _)
   | (with_reducible refine LeO.ite ?_ ?_)
   | (with_reducible refine LeO.bind ?_ (fun _ => ?_))
   | exact ih0 _ _
   | exact LeO.none _
   | refine LeO.ite ?_ ?_
   | refine LeO.bind ?_ (fun _ => ?_)
theorem frame_size.mono : ∀ a0 k, LeO (frame_size.f k a0) (frame_size.f (k + 1) a0) := by
 intro a0 k
 have ih0 := frame_size.mono_l k
 unfold frame_size.f
 repeat' first
   | (with_reducible exact ih0 _ _)
   | (with_reducible exact LeO.refl _)
   | (with_reducible exact LeO.none _)
   | (with_reducible refine LeO.ite ?_ ?_)
   | (with_reducible refine LeO.bind ?_ (fun _ => ?_))
   | exact ih0 _ _
   | exact LeO.none _
   | refine LeO.ite ?_ ?_
   | refine LeO.bind ?_ (fun _ => ?_)
set_option maxHeartbeats 60000000 in
set_option maxRecDepth 100000 in
theorem frame_size.calls (k : Nat) (A0 : Option Addr) (c0 : Nat) (l0 : List Int) (r1 : Int) (r2 : Int) (w : World) (hr0 : Kd.C (Kd.int .u8) w A0 l0.length l0) (hc0 : l0.length ≤ c0) (h : frame_size.f k l0 = some (r1, r2)) :
  Calls Try.prog 20 #[.slice A0 l0.length c0] w fun e w' => e = .returned (.tuple #[.int .i64 r1, .int .i64 r2]) ∧ Drawn0 w w' := by
 have HR0 := Aside0.mk hr0
 have HC0 := Aside0.mk hc0
 clear hr0 hc0
 have H : (if (l0.length : Int) < 12 then (some (0, 70)) else (if 0 < (l0.length : Int) then (if (rd l0 0) = 80 then (if 1 < (l0.length : Int) then (frame_size.j0 k l0 ((rd l0 1) != 76)) else (none)) else (frame_size.j0 k l0 true)) else (none))) = some (r1, r2) := h
 clear h
 by_cases c2 : (l0.length : Int) < 12
 ·
  rw [if_pos c2] at H
  have c2b0 : decide ((l0.length : Int) < 12) = true := decide_eq_true c2
  have c2b1 : decide (l0.length < 12) = true := decide_eq_true (by omega)
  clear c2
  simp only [Option.some.injEq, Prod.mk.injEq] at H
  obtain ⟨rfl, rfl⟩ := H
  go_enter Try.func20, Try.ntmps20
  go_wp2
  go_ret2
  exact ⟨by first | rfl | (simp; done) | (simp [*]; done), by repeat (first | exact Drawn0.refl _ | apply Drawn0.step)⟩
 rw [if_neg c2] at H
 have c2b0 : decide ((l0.length : Int) < 12) = false := decide_eq_false c2
 have c2b1 : decide (l0.length < 12) = false := decide_eq_false (by omega)
 clear c2
 have HC3 := Aside0.mk H
 clear H
 go_enter Try.func20, Try.ntmps20
 go_upto_region 3 with (fail)
 go_cut [9] (fun v9 wc => ∃ (kq : Nat) (x9_2 : Bool), v9 = .bool x9_2 ∧ Aside0 (frame_size.j0 kq l0 x9_2 = some (r1, r2)) ∧ Aside0 (kq ≤ k) ∧ Drawn0 w wc)
 case first =>
  have H := HC3.out
  clear HC3
  by_cases c4 : 0 < (l0.length : Int)
  rotate_left
  ·
   rw [if_neg c4] at H
   exact absurd H (by simp)
  rw [if_pos c4] at H
  have c4b0 : decide (0 < (l0.length : Int)) = true := decide_eq_true c4
  have c4b1 : decide (0 < l0.length) = true := decide_eq_true (by omega)
  clear c4
  (first | rw [c4b0] | (simp only [i64_w, i32_w]; rw [c4b0]) | skip)
  by_cases c5 : (rd l0 0) = 80
  rotate_left
  ·
   rw [if_neg c5] at H
   have c5b0 : ((rd l0 0) == 80) = false := beq_eq_false_iff_ne.mpr c5
   have c5b1 : ((rd l0 0) != 80) = true := bne_iff_ne.mpr c5
   have H' := Aside0.mk H
   clear H
   have p111 : 0 ≤ (0 : Int) := (by omega)
   have q111 : 0 < (l0.length : Int) := of_decide_eq_true (by first | (with_reducible assumption) | assumption)
   obtain ⟨ad111, e111, hx111_0⟩ := Kd.at_int HR0.out 0 p111 q111
   cases e111
   have qi111 : (0 < l0.length) = True := eq_true (by omega)
   (try rw [show ((0 : Int)).toNat = 0 from rfl] at hx111_0)
   (try rw [Addr.add_zero'] at hx111_0)
   replace p111 := eq_true p111
   replace q111 := eq_true q111
   go_wp2
   go_meet
   case rel => exact ⟨_, (true), (by first | rfl | (simp; done) | (simp [*]; done)), H', ⟨by first | exact Nat.le_refl _ | omega⟩, by repeat (first | exact Drawn0.refl _ | apply Drawn0.step)⟩
  rw [if_pos c5] at H
  have c5b0 : ((rd l0 0) == 80) = true := beq_iff_eq.mpr c5
  have c5b1 : ((rd l0 0) != 80) = false := bne_eq_false_iff_eq.mpr c5
  clear c5
  by_cases c6 : 1 < (l0.length : Int)
  rotate_left
  ·
   rw [if_neg c6] at H
   exact absurd H (by simp)
  rw [if_pos c6] at H
  have c6b0 : decide (1 < (l0.length : Int)) = true := decide_eq_true c6
  have c6b1 : decide (1 < l0.length) = true := decide_eq_true (by omega)
  clear c6
  have H' := Aside0.mk H
  clear H
  have p111 : 0 ≤ (0 : Int) := (by omega)
  have q111 : 0 < (l0.length : Int) := of_decide_eq_true (by first | (with_reducible assumption) | assumption)
  obtain ⟨ad111, e111, hx111_0⟩ := Kd.at_int HR0.out 0 p111 q111
  cases e111
  have qi111 : (0 < l0.length) = True := eq_true (by omega)
  (try rw [show ((0 : Int)).toNat = 0 from rfl] at hx111_0)
  (try rw [Addr.add_zero'] at hx111_0)
  replace p111 := eq_true p111
  replace q111 := eq_true q111
  have p112 : 0 ≤ (1 : Int) := (by omega)
  have q112 : 1 < (l0.length : Int) := of_decide_eq_true (by first | (with_reducible assumption) | assumption)
  obtain ⟨ad112, e112, hx112_0⟩ := Kd.at_int HR0.out 1 p112 q112
  obtain rfl : ad111 = ad112 := (by injection e112)
  (try simp only [show (1 : Int).toNat = 1 from rfl, Nat.reduceMul, Nat.reduceEqDiff, Go.Addr.add, ↓reduceIte] at hx112_0)
  have qi112 : (1 < l0.length) = True := eq_true (by omega)
  (try rw [show ((1 : Int)).toNat = 1 from rfl] at hx112_0)
  replace p112 := eq_true p112
  replace q112 := eq_true q112
  go_wp2
  go_meet
  case rel => exact ⟨_, (((rd l0 1) != 76)), (by first | rfl | (simp; done) | (simp [*]; done)), H', ⟨by first | exact Nat.le_refl _ | omega⟩, by repeat (first | exact Drawn0.refl _ | apply Drawn0.step)⟩
 case rest => as_aux_lemma =>
  clear HC3
  try clear p1
  try clear q1
  try clear hx1
  try clear qi1
  try clear c2
  try clear c2b0
  try clear c2b1
  try clear p2
  try clear c4
  try clear c4b0
  try clear c4b1
  try clear c5
  try clear c5b0
  try clear c5b1
  try clear c6
  try clear c6b0
  try clear c6b1
  try clear hx111_0
  try clear hx112_0
  try clear p111
  try clear p112
  try clear q111
  try clear q112
  obtain ⟨kq, x9_2, rfl, HA, HJ2, ⟨mc2, rfl⟩⟩ := hcut
  cases kq with
  | zero => exact absurd HA.out (by simp [frame_size.j0])
  | succ kj2 =>
   have H := HA.out
   clear HA
   simp only [frame_size.j0] at H
   by_cases c7 : x9_2 = true
   ·
    subst c7
    have H1 : (some (0, 71)) = some (r1, r2) := by rw [if_pos rfl] at H; exact H
    clear H
    have H := H1
    clear H1
    simp only [Option.some.injEq, Prod.mk.injEq] at H
    obtain ⟨rfl, rfl⟩ := H
    go_wp2
    go_ret2
    exact ⟨by first | rfl | (simp; done) | (simp [*]; done), by repeat (first | exact Drawn0.refl _ | apply Drawn0.step)⟩
   replace c7 := Bool.eq_false_iff.mpr c7
   subst c7
   have H1 : (if 2 < (l0.length : Int) then (if (rd l0 2) = 1 then (if 4 ≤ (l0.length : Int) then ((frame_word.f (l0.drop 4)).bind fun t115 => (if t115 > 1048576 then (some (0, 140)) else (some (wrap64 (12 + (wrap64 (t115))), 0)))) else (none)) else (some (0, 141))) else (none)) = some (r1, r2) := by rw [if_neg (show ¬ (false = true) by decide)] at H; exact H
   clear H
   have H := H1
   clear H1
   by_cases c8 : 2 < (l0.length : Int)
   rotate_left
   ·
    rw [if_neg c8] at H
    exact absurd H (by simp)

   rw [if_pos c8] at H
   have c8b0 : decide (2 < (l0.length : Int)) = true := decide_eq_true c8
   have c8b1 : decide (2 < l0.length) = true := decide_eq_true (by omega)
   clear c8
   by_cases c9 : (rd l0 2) = 1
   rotate_left
   ·
    rw [if_neg c9] at H
    have c9b0 : ((rd l0 2) == 1) = false := beq_eq_false_iff_ne.mpr c9
    have c9b1 : ((rd l0 2) != 1) = true := bne_iff_ne.mpr c9
    simp only [Option.some.injEq, Prod.mk.injEq] at H
    obtain ⟨rfl, rfl⟩ := H
    have p113 : 0 ≤ (2 : Int) := (by omega)
    have q113 : 2 < (l0.length : Int) := of_decide_eq_true (by first | (with_reducible assumption) | assumption)
    obtain ⟨ad113, e113, hx113_0⟩ := Kd.at_int HR0.out 2 p113 q113
    cases e113
    (try simp only [show (2 : Int).toNat = 2 from rfl, Nat.reduceMul, Nat.reduceEqDiff, Go.Addr.add, ↓reduceIte] at hx113_0)
    have qi113 : (2 < l0.length) = True := eq_true (by omega)
    (try rw [show ((2 : Int)).toNat = 2 from rfl] at hx113_0)
    replace p113 := eq_true p113
    replace q113 := eq_true q113
    go_wp2
    go_ret2
    exact ⟨by first | rfl | (simp; done) | (simp [*]; done), by repeat (first | exact Drawn0.refl _ | apply Drawn0.step)⟩
   rw [if_pos c9] at H
   have c9b0 : ((rd l0 2) == 1) = true := beq_iff_eq.mpr c9
   have c9b1 : ((rd l0 2) != 1) = false := bne_eq_false_iff_eq.mpr c9
   clear c9
   by_cases c10 : 4 ≤ (l0.length : Int)
   rotate_left
   ·
    rw [if_neg c10] at H
    exact absurd H (by simp)
   rw [if_pos c10] at H
   have c10b0 := eq_true c10
   have c10b1 : decide (4 ≤ (l0.length : Int)) = true := decide_eq_true c10
   clear c10
   replace H := Option.bind_eq_some_iff.mp H
   obtain ⟨t115, A110, H⟩ := H
   replace H : (if t115 > 1048576 then (some (0, 140)) else (some (wrap64 (12 + (wrap64 (t115))), 0))) = some (r1, r2) := H
   have A11 := Aside0.mk A110
   clear A110
   by_cases c12 : t115 > 1048576
   ·
    rw [if_pos c12] at H
    have c12b0 : decide (1048576 < t115) = true := decide_eq_true c12
    clear c12
    simp only [Option.some.injEq, Prod.mk.injEq] at H
    obtain ⟨rfl, rfl⟩ := H
    have p113 : 0 ≤ (2 : Int) := (by omega)
    have q113 : 2 < (l0.length : Int) := of_decide_eq_true (by first | (with_reducible assumption) | assumption)
    obtain ⟨ad113, e113, hx113_0⟩ := Kd.at_int HR0.out 2 p113 q113
    cases e113
    (try simp only [show (2 : Int).toNat = 2 from rfl, Nat.reduceMul, Nat.reduceEqDiff, Go.Addr.add, ↓reduceIte] at hx113_0)
    have qi113 : (2 < l0.length) = True := eq_true (by omega)
    (try rw [show ((2 : Int)).toNat = 2 from rfl] at hx113_0)
    replace p113 := eq_true p113
    replace q113 := eq_true q113
    obtain ⟨i013, hi013, _, hsz13, _⟩ := info_parts info5
    obtain ⟨A13, hcut13, hA13, hC13⟩ := print_drop_of (P := Try.prog) (Value.int .u8) 0 22 5 .i64 Try.underlying22 hi013 hsz13 (some ad113) c0 l0 4 (by omega) (of_decide_eq_true (by first | (with_reducible assumption) | assumption)) HC0.out
    have HR114 := Aside0.mk (Kd.C_of_reads (h1 := fun _ => rfl) (hA13 _ (Kd.reads_of_C HR0.out)))
    have HC114 := Aside0.mk hC13
    clear hA13 hC13 hi013 hsz13
    go_wp2_with (first | ((with_reducible refine gate_callee (f := 21) rfl ?_); refine goesL_ (some 27) rfl rfl Try.func21 (by kernel_rfl) rfl #[.slice A13 (l0.drop 4).length (c0 - 4)] rfl (by (try simp only [l_4, l_5, l_6]); first | done | (rw [show (l0.drop 4).length = (l0.length - 4) from l_7] <;> rfl) | rfl | (simp only [l_7, l_8]; rfl)) ?_; (with_reducible refine (frame_word.calls _ _ (l0.drop 4) t115 _ ?side1 ?side2 A11.out).mono ?_); (case side1 => repeat (first | exact HR114.out | (with_reducible refine Kd.C_alloc ?_ _) | (with_reducible refine Kd.C_drewN ?_ _) | (with_reducible refine Kd.C_drew ?_))); (case side2 => exact HC114.out); rintro e w' ⟨rfl, ⟨nd, rfl⟩⟩; refine ⟨_, rfl, ?_⟩))
    go_ret2
    exact ⟨by first | rfl | (simp; done) | (simp [*]; done), by repeat (first | exact Drawn0.refl _ | apply Drawn0.step)⟩
   rw [if_neg c12] at H
   have c12b0 : decide (1048576 < t115) = false := decide_eq_false c12
   clear c12
   simp only [Option.some.injEq, Prod.mk.injEq] at H
   obtain ⟨rfl, rfl⟩ := H
   have p113 : 0 ≤ (2 : Int) := (by omega)
   have q113 : 2 < (l0.length : Int) := of_decide_eq_true (by first | (with_reducible assumption) | assumption)
   obtain ⟨ad113, e113, hx113_0⟩ := Kd.at_int HR0.out 2 p113 q113
   cases e113
   (try simp only [show (2 : Int).toNat = 2 from rfl, Nat.reduceMul, Nat.reduceEqDiff, Go.Addr.add, ↓reduceIte] at hx113_0)
   have qi113 : (2 < l0.length) = True := eq_true (by omega)
   (try rw [show ((2 : Int)).toNat = 2 from rfl] at hx113_0)
   replace p113 := eq_true p113
   replace q113 := eq_true q113
   obtain ⟨i014, hi014, _, hsz14, _⟩ := info_parts info5
   obtain ⟨A14, hcut14, hA14, hC14⟩ := print_drop_of (P := Try.prog) (Value.int .u8) 0 22 5 .i64 Try.underlying22 hi014 hsz14 (some ad113) c0 l0 4 (by omega) (of_decide_eq_true (by first | (with_reducible assumption) | assumption)) HC0.out
   have HR114 := Aside0.mk (Kd.C_of_reads (h1 := fun _ => rfl) (hA14 _ (Kd.reads_of_C HR0.out)))
   have HC114 := Aside0.mk hC14
   clear hA14 hC14 hi014 hsz14
   go_wp2_with (first | ((with_reducible refine gate_callee (f := 21) rfl ?_); refine goesL_ (some 27) rfl rfl Try.func21 (by kernel_rfl) rfl #[.slice A14 (l0.drop 4).length (c0 - 4)] rfl (by (try simp only [l_4, l_5, l_6]); first | done | (rw [show (l0.drop 4).length = (l0.length - 4) from l_7] <;> rfl) | rfl | (simp only [l_7, l_8]; rfl)) ?_; (with_reducible refine (frame_word.calls _ _ (l0.drop 4) t115 _ ?side1 ?side2 A11.out).mono ?_); (case side1 => repeat (first | exact HR114.out | (with_reducible refine Kd.C_alloc ?_ _) | (with_reducible refine Kd.C_drewN ?_ _) | (with_reducible refine Kd.C_drew ?_))); (case side2 => exact HC114.out); rintro e w' ⟨rfl, ⟨nd, rfl⟩⟩; refine ⟨_, rfl, ?_⟩))
   go_ret2
   exact ⟨by first | rfl | (simp; done) | (simp [*]; done), by repeat (first | exact Drawn0.refl _ | apply Drawn0.step)⟩
/-! ### bytes_Clone: function 22 -/
def bytes_Clone.f (l0 : List Int) : Option (List Int) := (some (([] : List Int) : List Int)).bind fun y116 => (if y116.length + l0.length < 140737488355328 then (some (y116 ++ l0)) else (none))
set_option maxHeartbeats 60000000 in
set_option maxRecDepth 100000 in
theorem bytes_Clone.calls_some (b0 : Addr) (c0 : Nat) (l0 : List Int) (r : List Int) (w : World) (hr0 : Kd.C (Kd.int .u8) w (some b0) l0.length l0) (hc0 : l0.length ≤ c0) (h : bytes_Clone.f l0 = some r) :
  Calls Try.prog 22 #[.slice (some b0) l0.length c0] w fun e w' => ∃ v0_ : Value, e = .returned (v0_) ∧ Kd.R (Kd.int .u8) 5 w' w.heap.size (fun _ => True) v0_ r ∧ Below w.heap.size w w' := by
 have hq_ : ∀ W : World, (binOp .eql 22 (.slice (some b0) l0.length c0) (.slice none 0 0)).run Try.prog W = .ok (.bool false) W := fun W => Go.Lib.run_eql_slice_nil W 22 5 (some b0) l0.length c0 0 0 Try.underlying22
 have HR0 := Aside0.mk hr0
 have HC0 := Aside0.mk hc0
 clear hr0 hc0
 have HB := Aside0.mk (Below.refl w.heap.size w)
 have H : ((some (([] : List Int) : List Int)).bind fun y116 => (if y116.length + l0.length < 140737488355328 then (some (y116 ++ l0)) else (none))) = some r := h
 clear h
 obtain ⟨y116, hy116⟩ : ∃ y_ : List Int, y_ = (([] : List Int)) := ⟨_, rfl⟩
 replace H : (if y116.length + l0.length < 140737488355328 then (some (y116 ++ l0)) else (none)) = some r := by first | (rw [hy116]; with_reducible exact H) | (have H2_ := (Option.bind_some _ _).symm.trans H; rw [hy116]; with_reducible exact H2_) | (have H2_ := (Option.bind_some _ _).symm.trans H; with_reducible exact H2_) | with_reducible exact H | (rw [hy116]; exact H) | exact H
 have Ny116 := Aside0.mk hy116
 clear hy116
 by_cases c2 : y116.length + l0.length < 140737488355328
 rotate_left
 ·
  rw [if_neg c2] at H
  exact absurd H (by simp)

 rw [if_pos c2] at H
 have LMc2 := Aside0.mk c2
 clear c2
 obtain ⟨y119, hy119⟩ : ∃ y_ : List Int, y_ = (y116 ++ l0) := ⟨_, rfl⟩
 replace H : (some y119) = some r := by first | (rw [hy119]; with_reducible exact H) | (have H2_ := (Option.bind_some _ _).symm.trans H; rw [hy119]; with_reducible exact H2_) | (have H2_ := (Option.bind_some _ _).symm.trans H; with_reducible exact H2_) | with_reducible exact H | (rw [hy119]; exact H) | exact H
 have Ny119 := Aside0.mk hy119
 clear hy119
 obtain rfl := Option.some.inj H
 go_enter Try.func22, Try.ntmps22
 go_wp2_with (first | ((with_reducible refine gate_dst (N := 5) rfl ?_); refine Kd.R_lit (Kd.int .u8) _ 5 ?hg (N := 5) ?hd (xs := ([] : List Int)) (inner := []) (ok := fun _ => True) (okp := fun _ => True) ?hr ?hp (fun _ hk => hk) trivial (Below.refl _ _) (Nat.le_refl _) (by simp) ?_; (case hd => rfl); (case hg => rfl); (case hr => first | (go_simp; done) | (go_simp; rfl)); (case hp => exact (Reps.none _ _)); intro v117 w3 ho4 hb hg_ hnew_; clear hg_ hnew_; (first | rw [← Ny116.out] at ho4 | (simp only [Int.reduceToNat] at ho4; rw [← Ny116.out] at ho4)); have HO118 := Aside0.mk (Kd.R_lower ho4 (below_size (bw_ HB))); replace HB := Aside0.mk (below_step (bw_ HB) hb); clear hb ho4) | ((with_reducible refine gate_builtin (b := .append) (xs := #[.tmp 5, .tmp 6]) rfl ?_); at_builtin; refine Kd.R_append_rows (Kd.int .u8) (w0 := w) w.heap.size rfl (.tmp 5) (.tmp 6) 22 5 (.int .u8 0) 1 rfl Try.underlying22 info5 rfl (by decide) (by omega) v117 y116 l0 _ _ _ (fun _ => True) (fun _ => False) rfl rfl ?aO ?aR (fun _ _ h => h) (fun _ h => h.elim) ?aF ?aB ?aS ?aL ?_; (case aR => repeat (first | exact (Kd.C_below HR0.out HB.out) | (with_reducible refine Kd.C_alloc ?_ _) | (with_reducible refine Kd.C_drewN ?_ _) | (with_reducible refine Kd.C_drew ?_))); (case aB => exact (bw_ HB)); (case aF => exact (fun _ _ => trivial)); (case aO => exact (tR_ HO118)); (case aS => exact (below_size (bw_ HB))); (case aL => have := LMc2.out; omega); intro v120 w5 ho hb hg hat; rw [← Ny119.out] at ho; have n0_ := Aside0.mk (hb); have n1_ := Aside0.mk (ho); clear HB; clear HO118; have HB := n0_; have HO121 := n1_; clear n0_ n1_; clear ho hb hg hat))
 go_ret
 exact ⟨_, by first | rfl | (simp [errW_none, errW_some] <;> rfl) | (simp [*, errW_none, errW_some] <;> rfl), by (with_reducible repeat (first | apply Kd.R_alloc | apply Kd.R_drewN | apply Kd.R_drew)); exact HO121.out, by repeat (first | (with_reducible first | exact HB.out | apply b_a | apply b_n | apply b_d) | exact HB.out)⟩
set_option maxHeartbeats 8000000 in
set_option maxRecDepth 100000 in
theorem bytes_Clone.calls (A0 : Option Addr) (c0 : Nat) (l0 : List Int) (r : List Int) (w : World) (hr0 : Kd.C (Kd.int .u8) w A0 l0.length l0) (hc0 : l0.length ≤ c0) (h : bytes_Clone.f l0 = some r) :
  Calls Try.prog 22 #[.slice A0 l0.length c0] w fun e w' => ∃ v0_ : Value, e = .returned (v0_) ∧ Kd.R (Kd.int .u8) 5 w' w.heap.size (fun _ => True) v0_ r ∧ Below w.heap.size w w' := by
 cases A0 with
 | some b0 => exact bytes_Clone.calls_some b0 c0 l0 r w hr0 hc0 h
 | none =>
  have hz : l0 = [] := by
   rcases Nat.eq_zero_or_pos l0.length with h0 | h0
   ·
    exact List.length_eq_zero_iff.1 h0
   ·
    obtain ⟨ad, e_, _⟩ := hr0.2.2 h0
    cases e_
  subst hz
  have hr_ : r = [] := by
   have h2 := h
   simp [bytes_Clone.f] at h2
   exact h2
  subst hr_
  clear h hr0
  have hq_ : ∀ (W : World) (m : Nat), (binOp .eql 22 (.slice none m c0) (.slice none 0 0)).run Try.prog W = .ok (.bool true) W := fun W m => Go.Lib.run_eql_slice_nil W 22 5 none m c0 0 0 Try.underlying22
  go_enter Try.func22, Try.ntmps22
  go_wp2
  go_ret
  exact ⟨.slice none 0 0, rfl, Kd.R_nil _ _ _ _ _, Below.refl _ _⟩

end Go.Proofs.Ytofoimndhndffaa.QFrameSplits
