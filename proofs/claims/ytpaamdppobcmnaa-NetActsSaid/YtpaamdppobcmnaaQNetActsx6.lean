-- Written by a program of this session (a turned copy of the print) out of the translation. Lean checks it.
import Derived.Test.YtpaamdppobcmnaaQNetActsx0
import Derived.Test.YtpaamdppobcmnaaQNetActsx1
import Derived.Test.YtpaamdppobcmnaaQNetActsx2
import Derived.Test.YtpaamdppobcmnaaQNetActsx5
namespace Go.Proofs.Ytpaamdppobcmnaa.QNetActs
open Go.RowKit Go.Proofs.YtpaamdppobcmnaaW.PrintWords Go.Proofs.YtpaamdppobcmnaaW.PrintLast Go.Proofs.YtpaamdppobcmnaaW.PrintMore
attribute [local go_sem] max2_int min2_int max_two min_two max_three min_three max_four min_four   -- for this text's walks alone
open Go.Proofs.YtpaamdppobcmnaaW.PrintWords renaming below_alloc → b_a, pw_below_drewN → b_n, below_drew1 → b_d, below_set → b_s, blk_drewN → k_n, blk_drew → k_d, blk_alloc → k_a
open List renaming setIfInBounds_toArray → l_1, set_cons_zero → l_2, set_cons_succ → l_3, map_toArray → l_4, map_cons → l_5, map_nil → l_6, length_drop → l_7, length_take → l_8
set_option linter.unusedVariables false
set_option linter.unusedSimpArgs false

/-! ### net_Net_Counts: function 17, by hand -/
set_option maxHeartbeats 8000000 in
set_option maxRecDepth 100000 in
theorem net_Net_Counts.good (room c0 c1 c2 c3 : Int) (L : List NP) (v : Value) (base g : Nat) (ok : Nat → Prop) (w : World) (hN : NetAt 52 31 5 w base g ok room L c0 c1 c2 c3 v) :
    Calls Try.prog 17 #[.pointer (some ⟨g, 0, none⟩)] w fun e w' => e = .returned (.agg #[.int .i64 c0, .int .i64 c1, .int .i64 c2, .int .i64 c3]) ∧ Below w.heap.size w w' := by
  have HS := Aside0.mk hN
  clear hN
  have hu43 := Try.underlying43
  go_enter Try.func17, Try.ntmps17
  go_wp2_with (first
    | ((with_reducible refine gate_dst (N := 2) rfl ?_); refine box_event ?hg (N := 2) ?hd (cs := #[.int .i64 0, .int .i64 0, .int .i64 0, .int .i64 0]) (t := 43) ?hr ?_; (case hd => rfl); (case hg => rfl); (case hr => first | (go_simp; done) | (go_simp; rfl)); intro g2 hg_ w2 hbox hbb; have HG := Aside0.mk hg_; have K2 := Aside0.mk hbox; have HB := Aside0.mk hbb; replace HS := Aside0.mk (HS.out.below hbb); obtain ⟨y0, y1, y2, y3, y4, y5, f0, f1, f2, f3, f4, f5⟩ := cells6 HS.out.2.2.1; clear hg_ hbox hbb f0 f1 f2 f3 f4 f5 y0 y1)
    | ((with_reducible refine gate_store_ rfl ?_); refine stU_ rfl rfl rfl rfl rfl K2.out rfl (by kernel_rfl) (by simp [Value.oneCell']) ?_; intro W7 hW1 hW2; replace HB := Aside0.mk (Upd.belowB HB.out HB.out.size hW2 (fun k hk => by have h5 : k = g2 := hk; have := HG.out; omega)); replace K2 := Aside0.mk hW1; clear hW1 hW2))
  refine bodyPost_ret (results_cell_row rfl _ _ g2 43 #[.int .i64 c0, .int .i64 c1, .int .i64 c2, .int .i64 c3] (0, 0) _ rfl K2.out Try.underlying43 rfl (by kernel_rfl)) rfl ?_
  exact ⟨rfl, HB.out⟩
/-! ### pelotonlaw17_NetActs: function 5, by hand -/
def pelotonlaw17_NetActs.T21 : Bool × List (List Nat × List Nat) := (true, [([], []), ([0], [0]), ([], []), ([2], [2]), ([3], [3]), ([4], [4]), ([5], [5]), ([1, 6], [1, 6]), ([7, 1], [7]), ([8], [8]), ([9, 8, 8], [8, 9]), ([8], [8]), ([10, 11, 8], [8, 10, 11]), ([8, 12], [8, 12]), ([13, 10], [13]), ([14], [14]), ([14], [14]), ([16, 14], [14, 16]), ([17, 14], [14, 17]), ([18, 14], [14, 18]), ([15, 19, 14], [14, 15, 19]), ([14, 20], [14, 20]), ([21, 14], [21]), ([22], [22]), ([23, 22, 22], [22, 23]), ([22], [22]), ([25, 22], [22, 25]), ([24, 26, 22], [22, 24, 26]), ([22], [22]), ([28, 22], [22, 28]), ([27, 29, 22], [22, 27, 29]), ([22], [22]), ([31, 22], [22, 31]), ([30, 32, 22], [22, 30, 32]), ([22], [22]), ([34, 22], [22, 34]), ([22], [22]), ([35, 36, 22], [22, 35, 36]), ([33, 37, 22], [22, 33, 37]), ([22, 38], [22, 38])])
def pelotonlaw17_NetActs.B21 : List Nat := [0, 1, 0, 4, 12, 28, 60, 127, 255, 511, 1023, 511, 4095, 8191, 16383, 32767, 32767, 98303, 229375, 491519, 1048575, 2097151, 4194303, 8388607, 16777215, 8388607, 41943039, 134217727, 8388607, 276824063, 1073741823, 8388607, 2155872255, 8589934591, 8388607, 17188257791, 8388607, 120267472895, 274877906943, 549755813887]
theorem pelotonlaw17_NetActs.tab21 : rtab .any (opsOf Try.f5 21) = pelotonlaw17_NetActs.T21 := by kernel_rfl
theorem pelotonlaw17_NetActs.bits21 : waitsOk pelotonlaw17_NetActs.T21.2 pelotonlaw17_NetActs.B21 = true := by kernel_rfl
structure S31 where
  f0 : Int
  f1 : Int
  f2 : List Int
def z31 : S31 := ⟨0, 0, []⟩
def k31 : Kd S31 := Kd.iso (Kd.pair (Kd.int .i64) (Kd.pair (Kd.int .i64) (Kd.slice 5 (Kd.int .u8)))) (fun x : S31 => (x.f0, x.f1, x.f2))
structure S47 where
  f0 : Int
  f1 : Int
  f2 : Int
  f3 : Int
  f4 : S31
def z47 : S47 := ⟨0, 0, 0, 0, z31⟩
def k47 : Kd S47 := Kd.iso (Kd.pair (Kd.int .i64) (Kd.pair (Kd.int .i64) (Kd.pair (Kd.int .i64) (Kd.pair (Kd.int .u8) k31)))) (fun x : S47 => (x.f0, x.f1, x.f2, x.f3, x.f4))
theorem k47_open {w : World} {x : S47} {cs : List Value} (h : k47.K w x cs) : ∃ A c, cs = [.int .i64 x.f0, .int .i64 x.f1, .int .i64 x.f2, .int .u8 x.f3, .int .i64 x.f4.f0, .int .i64 x.f4.f1, .slice A x.f4.f2.length c] ∧ x.f4.f2.length ≤ c ∧ (Kd.int .u8).C w A x.f4.f2.length x.f4.f2 := by
  obtain ⟨_, _, rfl, rfl, ⟨_, _, rfl, rfl, ⟨_, _, rfl, rfl, ⟨_, _, rfl, rfl, ⟨_, _, rfl, rfl, ⟨_, _, rfl, rfl, ⟨A8, c8, rfl, l8, g8⟩⟩⟩⟩⟩⟩⟩ := h
  exact ⟨A8, c8, rfl, l8, g8⟩
theorem row47 {w : World} {A : Option Addr} {n : Nat} {xs : List S47} (h : Kd.C k47 w A n xs) (i : Int) (h0 : 0 ≤ i) (h1 : i < n) : ∃ (ad : Addr) (Ab : Option Addr) (cb : Nat) (s : S47), A = some ad ∧ xs.getD i.toNat z47 = s ∧ s.f4.f2.length ≤ cb ∧ (Kd.int .u8).C w Ab s.f4.f2.length s.f4.f2 ∧ w.cell? (ad.add (i.toNat * 7)) = some (.int .i64 s.f0) ∧ w.cell? ⟨(ad.add (i.toNat * 7)).block, (ad.add (i.toNat * 7)).off + 1, none⟩ = some (.int .i64 s.f1) ∧ w.cell? ⟨(ad.add (i.toNat * 7)).block, (ad.add (i.toNat * 7)).off + 2, none⟩ = some (.int .i64 s.f2) ∧ w.cell? ⟨(ad.add (i.toNat * 7)).block, (ad.add (i.toNat * 7)).off + 3, none⟩ = some (.int .u8 s.f3) ∧ w.cell? ⟨(ad.add (i.toNat * 7)).block, (ad.add (i.toNat * 7)).off + 4, none⟩ = some (.int .i64 s.f4.f0) ∧ w.cell? ⟨(ad.add (i.toNat * 7)).block, (ad.add (i.toNat * 7)).off + 5, none⟩ = some (.int .i64 s.f4.f1) ∧ w.cell? ⟨(ad.add (i.toNat * 7)).block, (ad.add (i.toNat * 7)).off + 6, none⟩ = some (.slice Ab s.f4.f2.length cb) := by
  obtain ⟨ad, c, e, _, hK, hc0⟩ := Kd.C_get h z47 i h0 h1
  have hc : ∀ j u, c[j]? = some u → w.cell? (ad.add (i.toNat * 7 + j)) = some u := hc0
  obtain ⟨Ab, cb, rfl, l0, g0⟩ := k47_open hK
  exact ⟨ad, Ab, cb, _, e, rfl, l0, g0, hc 0 _ rfl, by rw [← add_field _ _ 1 (by omega)]; exact hc 1 _ rfl, by rw [← add_field _ _ 2 (by omega)]; exact hc 2 _ rfl, by rw [← add_field _ _ 3 (by omega)]; exact hc 3 _ rfl, by rw [← add_field _ _ 4 (by omega)]; exact hc 4 _ rfl, by rw [← add_field _ _ 5 (by omega)]; exact hc 5 _ rfl, by rw [← add_field _ _ 6 (by omega)]; exact hc 6 _ rfl⟩
/-- what holds between two acts -/
def Inv17 (room i d c0 c1 c2 c3 : Int) (L : List NP) : Prop :=
  0 ≤ i ∧ i ≤ 100 ∧ 0 ≤ d ∧ d ≤ i ∧ 0 ≤ c0 ∧ c0 ≤ i ∧ 0 ≤ c1 ∧ c1 ≤ i ∧ 0 ≤ c2 ∧ c2 ≤ i ∧ 0 ≤ c3 ∧ c3 ≤ i ∧ (L.length : Int) ≤ room ∧ (L.length : Int) + c1 + c2 + c3 = c0 + d ∧ ∀ q ∈ L, q.2.2.length ≤ 500
theorem mem17 {L : List NP} {i : Nat} (h : i < L.length) : L.getD i (0, 0, []) ∈ L := by
  rw [List.getD_eq_getElem?_getD, List.getElem?_eq_getElem h]
  exact List.getElem_mem _
theorem w17 {c : Int} (h0 : 0 ≤ c) (h1 : c ≤ 100) : wrap64 (c + 1) = c + 1 := by unfold wrap64; omega
section
variable {room i d c0 c1 c2 c3 : Int} {L : List NP}
theorem Inv17.same (h : Inv17 room i d c0 c1 c2 c3 L) (hi : i + 1 ≤ 100) : Inv17 room (i + 1) d c0 c1 c2 c3 L := by
  obtain ⟨a1, a2, a3, a4, a5, a6, a7, a8, a9, a10, a11, a12, a13, a14, a15⟩ := h
  exact ⟨by omega, hi, a3, by omega, a5, by omega, a7, by omega, a9, by omega, a11, by omega, a13, a14, a15⟩
theorem Inv17.er2 (h : Inv17 room i d c0 c1 c2 c3 L) (hi : i + 1 ≤ 100) {j : Nat} (hj : j < L.length) : Inv17 room (i + 1) d c0 c1 (wrap64 (c2 + 1)) c3 (L.eraseIdx j) := by
  obtain ⟨a1, a2, a3, a4, a5, a6, a7, a8, a9, a10, a11, a12, a13, a14, a15⟩ := h
  have hl : (L.eraseIdx j).length = L.length - 1 := List.length_eraseIdx_of_lt hj
  rw [w17 a9 (by omega)]
  exact ⟨by omega, hi, a3, by omega, a5, by omega, a7, by omega, by omega, by omega, a11, by omega, by omega, by omega, fun q hq => a15 q (List.mem_of_mem_eraseIdx hq)⟩
theorem Inv17.er3 (h : Inv17 room i d c0 c1 c2 c3 L) (hi : i + 1 ≤ 100) {j : Nat} (hj : j < L.length) : Inv17 room (i + 1) d c0 c1 c2 (wrap64 (c3 + 1)) (L.eraseIdx j) := by
  obtain ⟨a1, a2, a3, a4, a5, a6, a7, a8, a9, a10, a11, a12, a13, a14, a15⟩ := h
  have hl : (L.eraseIdx j).length = L.length - 1 := List.length_eraseIdx_of_lt hj
  rw [w17 a11 (by omega)]
  exact ⟨by omega, hi, a3, by omega, a5, by omega, a7, by omega, a9, by omega, by omega, by omega, by omega, by omega, fun q hq => a15 q (List.mem_of_mem_eraseIdx hq)⟩
theorem Inv17.dbl (h : Inv17 room i d c0 c1 c2 c3 L) (hi : i + 1 ≤ 100) {j : Nat} (hj : j < L.length) (hr : (L.length : Int) < room) : Inv17 room (i + 1) (d + 1) c0 c1 c2 c3 (L ++ [L.getD j (0, 0, [])]) := by
  obtain ⟨a1, a2, a3, a4, a5, a6, a7, a8, a9, a10, a11, a12, a13, a14, a15⟩ := h
  have hl : (L ++ [L.getD j (0, 0, [])]).length = L.length + 1 := by rw [List.length_append, List.length_singleton]
  refine ⟨by omega, hi, by omega, by omega, a5, by omega, a7, by omega, a9, by omega, a11, by omega, by omega, by omega, fun q hq => ?_⟩
  rcases List.mem_append.1 hq with hq | hq
  · exact a15 q hq
  · rw [List.mem_singleton.1 hq]; exact a15 _ (mem17 hj)
theorem Inv17.back (h : Inv17 room i d c0 c1 c2 c3 L) (hi : i + 1 ≤ 100) {j : Nat} (hj : j < L.length) : Inv17 room (i + 1) d c0 c1 c2 c3 (L.eraseIdx j ++ [L.getD j (0, 0, [])]) := by
  obtain ⟨a1, a2, a3, a4, a5, a6, a7, a8, a9, a10, a11, a12, a13, a14, a15⟩ := h
  have hl : (L.eraseIdx j ++ [L.getD j (0, 0, [])]).length = L.length := by rw [List.length_append, List.length_singleton, List.length_eraseIdx_of_lt hj]; omega
  refine ⟨by omega, hi, a3, by omega, a5, by omega, a7, by omega, a9, by omega, a11, by omega, by omega, by omega, fun q hq => ?_⟩
  rcases List.mem_append.1 hq with hq | hq
  · exact a15 q (List.mem_of_mem_eraseIdx hq)
  · rw [List.mem_singleton.1 hq]; exact a15 _ (mem17 hj)
theorem Inv17.spoil (h : Inv17 room i d c0 c1 c2 c3 L) (hi : i + 1 ≤ 100) {j : Nat} (hj : j < L.length) (b x : Int) : Inv17 room (i + 1) d c0 c1 c2 c3 (net_spoil L j b x) := by
  obtain ⟨a1, a2, a3, a4, a5, a6, a7, a8, a9, a10, a11, a12, a13, a14, a15⟩ := h
  have hl := net_spoil_len L j b x
  refine ⟨by omega, hi, a3, by omega, a5, by omega, a7, by omega, a9, by omega, a11, by omega, by omega, by omega, fun q hq => ?_⟩
  unfold net_spoil at hq
  split at hq
  · exact a15 q hq
  · rcases List.mem_or_eq_of_mem_set hq with hq | rfl
    · exact a15 q hq
    · show (List.set _ _ _).length ≤ 500
      rw [List.length_set]
      exact a15 _ (mem17 hj)
theorem Inv17.send (h : Inv17 room i d c0 c1 c2 c3 L) (hi : i + 1 ≤ 100) (p : NP) (hp : p.2.2.length ≤ 500) : Inv17 room (i + 1) d (net_send room [p] L c0 c1 0).2.1 (net_send room [p] L c0 c1 0).2.2.1 c2 c3 (net_send room [p] L c0 c1 0).1 := by
  obtain ⟨a1, a2, a3, a4, a5, a6, a7, a8, a9, a10, a11, a12, a13, a14, a15⟩ := h
  rw [net_send]
  simp only [net_send]
  split
  · show Inv17 room (i + 1) d (wrap64 (c0 + 1)) (wrap64 (c1 + 1)) c2 c3 L
    rw [w17 a5 (by omega), w17 a7 (by omega)]
    exact ⟨by omega, hi, a3, by omega, by omega, by omega, by omega, by omega, a9, by omega, a11, by omega, a13, by omega, a15⟩
  · show Inv17 room (i + 1) d (wrap64 (c0 + 1)) c1 c2 c3 (L ++ [p])
    have hl : (L ++ [p]).length = L.length + 1 := by rw [List.length_append, List.length_singleton]
    rw [w17 a5 (by omega)]
    refine ⟨by omega, hi, a3, by omega, by omega, by omega, a7, by omega, a9, by omega, a11, by omega, by omega, by omega, fun q hq => ?_⟩
    rcases List.mem_append.1 hq with hq | hq
    · exact a15 q hq
    · rw [List.mem_singleton.1 hq]; exact hp
end
theorem D2.old {w W : World} {g h : Nat} {free : Nat → Prop} {room n0 n1 n2 n3 r0 r1 r2 r3 : Int} {LN LR : List NP} (H : D2 w W g h free room LN n0 n1 n2 n3 LR r0 r1 r2 r3) : D2 w W g h (fun k => free k ∨ k < w.heap.size) room LN n0 n1 n2 n3 LR r0 r1 r2 r3 := by
  have hB := H.bel
  obtain ⟨h1, okr, vr, hn, h2, hs⟩ := H
  obtain ⟨l1, l2, ok, v, hln, l4⟩ := hs
  refine ⟨⟨h1.1, fun e => e.elim h1.2.1 (fun e => by omega), fun k hk => hk.elim (h1.2.2 k) (fun e => Nat.lt_of_lt_of_le e hB.size)⟩, okr, vr, hn, fun k hk => ⟨(h2 k hk).1, (h2 k hk).2.1, fun e => e.elim (h2 k hk).2.2 (fun e => by have := (h2 k hk).1; omega)⟩, l1, ⟨l2.1, ?_, ?_⟩, ok, v, hln, fun k hk => ⟨(l4 k hk).1, (l4 k hk).2.1, ?_⟩⟩
  · rintro ((e | e) | e)
    · exact l2.2.1 (Or.inl e)
    · have := l2.1; omega
    · exact l2.2.1 (Or.inr e)
  · rintro k ((e | e) | e)
    · exact l2.2.2 k (Or.inl e)
    · exact Nat.lt_of_lt_of_le e hB.size
    · exact l2.2.2 k (Or.inr e)
  · rintro ((e | e) | e)
    · exact (l4 k hk).2.2 (Or.inl e)
    · have := (l4 k hk).1; omega
    · exact (l4 k hk).2.2 (Or.inr e)
theorem D2.new {w W W' : World} {g h : Nat} {room : Int} {free : Nat → Prop} (H : LS w W g free room [] 0 0 0 0) (hf : ∀ k, free k → k < W.heap.size) (hb : Below W.heap.size W W') (hk : W'.heap[h]? = some (.cells #[.int .i64 room, .slice none 0 0, .int .i64 0, .int .i64 0, .int .i64 0, .int .i64 0] 45 (0, 0))) (hh : W.heap.size ≤ h) : D2 w W' g h free room [] 0 0 0 0 [] 0 0 0 0 := by
  have hw := H.1.size
  exact ⟨⟨Nat.le_trans hw hh, fun e => by have := hf h e; omega, fun k e => Nat.lt_of_lt_of_le (hf k e) hb.size⟩, fun _ => False, .slice none 0 0, ⟨Nat.le_trans hw hh, id, hk, Kd.S_nil _ _ _ _ _⟩, fun k e => e.elim, (H.below hb).less (fun k e => by
    rcases e with e | e | e
    · exact Or.inl e
    · exact e.elim
    · exact Or.inr (by rw [e]; exact ⟨hh, blk_lt hk⟩))⟩
theorem idx17 {k : Int} {n : Nat} (h0 : 0 ≤ k) (h1 : k < n) (h2 : (n : Int) ≤ 70000) : net_idx k n = k := by
  unfold net_idx
  rw [Int.tmod_eq_of_lt h0 h1, show wrap64 (k + n) = k + n from by unfold wrap64; omega, Int.tmod_eq_emod_of_nonneg (by omega), Int.add_emod_right, Int.emod_eq_of_lt h0 h1]
theorem does.all (kd at_ nn x fx tx : Int) (A : Option Addr) (c : Nat) (b : List Int) {i d : Int} {w W : World} {g h : Nat} {free : Nat → Prop} {room c0 c1 c2 c3 : Int} {L : List NP} (H : D2 w W g h free room L c0 c1 c2 c3 L c0 c1 c2 c3) (hB : Kd.F (Kd.int .u8) W free A b.length b) (hc : b.length ≤ c) (h5 : b.length ≤ 500) (hroom : room ≤ 65536) (hi : i + 1 ≤ 100) (hv : Inv17 room i d c0 c1 c2 c3 L) :
    Calls Try.prog 16 #[.pointer (some ⟨g, 0, none⟩), .pointer (some ⟨h, 0, none⟩), .agg #[.int .i64 kd, .int .i64 at_, .int .i64 nn, .int .u8 x, .int .i64 fx, .int .i64 tx, .slice A b.length c]] W fun e w' => e = .returned (.bool true) ∧ ∃ (fr : Nat → Prop) (L' : List NP) (d0 d1 d2 d3 : Int), D2 w w' g h fr room L' d0 d1 d2 d3 L' d0 d1 d2 d3 ∧ Inv17 room (i + 1) (if kd = 3 ∧ L.length < L'.length then d + 1 else d) d0 d1 d2 d3 L' := by
  have hl : (L.length : Int) ≤ 70000 := by have := hv.2.2.2.2.2.2.2.2.2.2.2.2.1; omega
  have hx : 0 < L.length → (net_idx at_ L.length).toNat < L.length := fun h0 => by
    obtain ⟨q0, q1⟩ := net_idx.bounds at_ L.length (by omega) (by omega)
    omega
  have hbl : 0 < L.length → (L.getD (net_idx at_ L.length).toNat (0, 0, [])).2.2.length < 140737488355328 := fun h0 => by
    have := hv.2.2.2.2.2.2.2.2.2.2.2.2.2.2 _ (mem17 (hx h0))
    omega
  by_cases e0 : kd = 0
  · subst e0
    refine (does.k0 at_ nn x fx tx A c b H hB hc (by omega) hroom _ rfl).mono ?_
    rintro e w' ⟨he, fr, hd⟩
    exact ⟨he, fr, _, _, _, _, _, hd, by rw [if_neg (by omega)]; exact hv.send hi _ h5⟩
  by_cases e6 : kd < 0 ∨ 6 < kd
  · refine (does.kx kd at_ nn x fx tx A c b.length H e6).mono ?_
    rintro e w' ⟨he, fr, hd⟩
    exact ⟨he, fr, _, _, _, _, _, hd, by rw [if_neg (by omega)]; exact hv.same hi⟩
  have hcase : kd = 1 ∨ kd = 2 ∨ kd = 3 ∨ kd = 4 ∨ kd = 5 ∨ kd = 6 := by omega
  by_cases h0 : 0 < L.length
  · rcases hcase with rfl | rfl | rfl | rfl | rfl | rfl
    · refine (does.k1s at_ nn x fx tx A c b.length H h0 hl).mono ?_
      rintro e w' ⟨he, fr, hd⟩
      exact ⟨he, fr, _, _, _, _, _, hd, by rw [if_neg (by omega)]; exact hv.er2 hi (hx h0)⟩
    · refine (does.k2s at_ nn x fx tx A c b.length H h0 hl).mono ?_
      rintro e w' ⟨he, fr, hd⟩
      exact ⟨he, fr, _, _, _, _, _, hd, by rw [if_neg (by omega)]; exact hv.er3 hi (hx h0)⟩
    · by_cases hr : (L.length : Int) < room
      · refine (does.k3s at_ nn x fx tx A c b.length H h0 hl hr hroom (hbl h0)).mono ?_
        rintro e w' ⟨he, fr, hd⟩
        exact ⟨he, fr, _, _, _, _, _, hd, by rw [if_pos ⟨rfl, by rw [List.length_append, List.length_singleton]; omega⟩]; exact hv.dbl hi (hx h0) hr⟩
      · refine (does.k3f at_ nn x fx tx A c b.length H h0 hl (by omega)).mono ?_
        rintro e w' ⟨he, fr, hd⟩
        exact ⟨he, fr, _, _, _, _, _, hd, by rw [if_neg (by omega)]; exact hv.same hi⟩
    · refine (does.k4s at_ nn x fx tx A c b.length H h0 hl).mono ?_
      rintro e w' ⟨he, fr, hd⟩
      exact ⟨he, fr, _, _, _, _, _, hd, by rw [if_neg (by omega)]; exact hv.back hi (hx h0)⟩
    · refine (does.k5s at_ nn x fx tx A c b.length H h0 hl (hbl h0)).mono ?_
      rintro e w' ⟨he, fr, hd⟩
      exact ⟨he, fr, _, _, _, _, _, hd, by rw [if_neg (by omega)]; exact hv.spoil hi (hx h0) _ _⟩
    · refine (does.k6s at_ nn x fx tx A c b.length H h0 hl (hbl h0)).mono ?_
      rintro e w' ⟨he, fr, hd⟩
      exact ⟨he, fr, _, _, _, _, _, hd, by rw [if_neg (by omega)]; exact hv.same hi⟩
  · obtain rfl : L = [] := List.length_eq_zero_iff.1 (by omega)
    rcases hcase with rfl | rfl | rfl | rfl | rfl | rfl
    · refine (does.k1n at_ nn x fx tx A c b.length H).mono ?_
      rintro e w' ⟨he, fr, hd⟩
      exact ⟨he, fr, _, _, _, _, _, hd, by rw [if_neg (by omega)]; exact hv.same hi⟩
    · refine (does.k2n at_ nn x fx tx A c b.length H).mono ?_
      rintro e w' ⟨he, fr, hd⟩
      exact ⟨he, fr, _, _, _, _, _, hd, by rw [if_neg (by omega)]; exact hv.same hi⟩
    · refine (does.k3n at_ nn x fx tx A c b.length H).mono ?_
      rintro e w' ⟨he, fr, hd⟩
      exact ⟨he, fr, _, _, _, _, _, hd, by rw [if_neg (by omega)]; exact hv.same hi⟩
    · refine (does.k4n at_ nn x fx tx A c b.length H).mono ?_
      rintro e w' ⟨he, fr, hd⟩
      exact ⟨he, fr, _, _, _, _, _, hd, by rw [if_neg (by omega)]; exact hv.same hi⟩
    · refine (does.k5n at_ nn x fx tx A c b.length H).mono ?_
      rintro e w' ⟨he, fr, hd⟩
      exact ⟨he, fr, _, _, _, _, _, hd, by rw [if_neg (by omega)]; exact hv.same hi⟩
    · refine (does.k6n at_ nn x fx tx A c b.length H).mono ?_
      rintro e w' ⟨he, fr, hd⟩
      exact ⟨he, fr, _, _, _, _, _, hd, by rw [if_neg (by omega)]; exact hv.same hi⟩
theorem F_old {w : World} {A : Option Addr} {l : List Int} (h : (Kd.int .u8).C w A l.length l) : Kd.F (Kd.int .u8) w (fun k => k < w.heap.size) A l.length l := fun W hW => C_F h W (fun k _ hlt => hW k hlt hlt)
theorem eq43 (a b c d : Int) (w : World) : (Op.equalIn 10000 43 (.agg #[.int .i64 a, .int .i64 b, .int .i64 c, .int .i64 d]) (.agg #[.int .i64 a, .int .i64 b, .int .i64 c, .int .i64 d])).run Try.prog w = .ok true w := by
  have u3 := Try.underlying3
  have a3 := Try.isAgg3
  have z3 := Try.sizeOf3
  rw [show (10000 : Nat) = 9999 + 1 from rfl, Op.equalIn]
  simp only [Sem.run_bind, run_underlying Try.underlying43, Result.andThen_ok]
  simp only [Std.Legacy.Range.forIn_eq_forIn_range', Std.Legacy.Range.size, Nat.sub_zero, Nat.add_sub_cancel, Nat.div_one, List.range'_succ, List.range'_zero, List.forIn_cons, List.forIn_nil]
  go_simp
def pelotonlaw17_NetActs.f (a0 : Int) (l1 : List S47) : Option Bool := some true
set_option maxHeartbeats 8000000 in
set_option maxRecDepth 100000 in
theorem pelotonlaw17_NetActs.calls (a0 : Int) (A1 : Option Addr) (c1 : Nat) (l1 : List S47) (r : Bool) (w : World) (hr1 : Kd.C k47 w A1 l1.length l1) (hc1 : l1.length ≤ c1) (h : pelotonlaw17_NetActs.f a0 l1 = some r) :
    Calls Try.prog 5 #[.int .i64 a0, .slice A1 l1.length c1] w fun e w' => e = .returned (.bool r) ∧ Below w.heap.size w w' := by
  obtain rfl := Option.some.inj h
  clear h
  have HR := Aside0.mk hr1
  have HC1 := Aside0.mk hc1
  clear hr1 hc1
  have hu31 := Try.underlying31
  have hu43 := Try.underlying43
  have HB := Aside0.mk (Below.refl w.heap.size w)
  by_cases cA : 100 < (l1.length : Int)
  · have q1 : decide (100 < (l1.length : Int)) = true := decide_eq_true cA
    clear cA
    go_enter Try.func5, Try.ntmps5
    go_wp2_with (first | (go_at_call 6; (with_reducible refine (pelotonlaw17_awake.good _).mono ?_); rintro e wa ⟨rfl, hb⟩; replace HB := Aside0.mk (below_step HB.out hb); clear hb))
    go_ret
    exact ⟨rfl, HB.out⟩
  have q1 : decide (100 < (l1.length : Int)) = false := decide_eq_false cA
  have HLN : Aside0 ((l1.length : Int) ≤ 100) := ⟨by omega⟩
  clear cA
  by_cases cB : a0 < 0 ∨ 65536 < a0
  · have HBAD := Aside0.mk cB
    have NEWQ : Aside0 (decide (a0 < 0) = true ∨ (decide (a0 < 0) = false ∧ decide (65536 < a0) = true)) := ⟨by
      by_cases c0 : a0 < 0
      · exact Or.inl (decide_eq_true c0)
      · exact Or.inr ⟨decide_eq_false c0, decide_eq_true (by omega)⟩⟩
    clear cB
    rcases NEWQ.out with q2 | ⟨q2, q3⟩
    · go_enter Try.func5, Try.ntmps5
      go_wp2_with (first
        | (go_at_call 6; (with_reducible refine (pelotonlaw17_awake.good _).mono ?_); rintro e wa ⟨rfl, hb⟩; replace HB := Aside0.mk (below_step HB.out hb); clear hb)
        | (go_at_call 7; (with_reducible refine (net_New.bad a0 _ HBAD.out).mono ?_); rintro e w1 ⟨rfl, rfl⟩))
      go_ret
      exact ⟨rfl, HB.out⟩
    · go_enter Try.func5, Try.ntmps5
      go_wp2_with (first
        | (go_at_call 6; (with_reducible refine (pelotonlaw17_awake.good _).mono ?_); rintro e wa ⟨rfl, hb⟩; replace HB := Aside0.mk (below_step HB.out hb); clear hb)
        | (go_at_call 7; (with_reducible refine (net_New.bad a0 _ HBAD.out).mono ?_); rintro e w1 ⟨rfl, rfl⟩))
      go_ret
      exact ⟨rfl, HB.out⟩
  have q2 : decide (a0 < 0) = false := decide_eq_false (by omega)
  have q3 : decide (65536 < a0) = false := decide_eq_false (by omega)
  have HROOM := Aside0.mk (show 0 ≤ a0 ∧ a0 ≤ 65536 by omega)
  clear cB
  go_enter Try.func5, Try.ntmps5
  go_upto_region 9 with (first
    | (go_at_call 6; (with_reducible refine (pelotonlaw17_awake.good _).mono ?_); rintro e wa ⟨rfl, hb⟩; replace HB := Aside0.mk (below_step HB.out hb); clear hb)
    | (go_at_call 7; (with_reducible refine (LS.new (w := w) (room := a0) HB.out HROOM.out.1 HROOM.out.2).mono ?_); rintro e w1 ⟨g, rfl, hn, hb⟩; have ST := Aside0.mk hn; have HFL := Aside0.mk (show ∀ k, k < wa.heap.size → k < w1.heap.size from fun k hk => Nat.lt_of_lt_of_le hk hb.size); clear hn hb HB)
    | ((with_reducible refine gate_dst (N := 48) rfl ?_); refine box_event ?hg (N := 48) ?hd (cs := #[.int .i64 a0, .slice none 0 0, .int .i64 0, .int .i64 0, .int .i64 0, .int .i64 0]) (t := 45) ?hr ?_; (case hd => rfl); (case hg => rfl); (case hr => first | (go_simp; done) | (go_simp; rfl)); intro h hg_ wb hbox hbb; have DT := Aside0.mk (D2.new ST.out HFL.out hbb hbox (by rw [hg_]; exact Nat.le_refl _)); clear hg_ hbox hbb))
  replace DT := Aside0.mk DT.out.old
  clear ST HFL
  go_wp2
  go_loopg [8, 9] l1.length (fun m v8 v9 W => ∃ (d i : Int) (fr : Nat → Prop) (L : List NP) (d0 d1 d2 d3 : Int), v8 = .int .i64 d ∧ v9 = .int .i64 i ∧ 0 ≤ i ∧ Aside0 (i + m = l1.length) ∧ Aside0 (D2 w W g h (fun k => fr k ∨ k < w.heap.size) a0 L d0 d1 d2 d3 L d0 d1 d2 d3) ∧ Aside0 (Inv17 a0 i d d0 d1 d2 d3 L))
  case atStart => exact ⟨0, 0, _, [], 0, 0, 0, 0, rfl, rfl, by omega, ⟨by omega⟩, DT, ⟨by have := HROOM.out; unfold Inv17; simp; omega⟩⟩
  case round =>
    clear DT
    obtain ⟨d, i, fr, L, d0, d1, d2, d3, rfl, rfl, hi0, HI, ST, IV⟩ := hrel
    cases gk with
    | zero =>
      have q4 : decide (i < (l1.length : Int)) = false := decide_eq_false (by have := HI.out; omega)
      go_wp2
      go_ret
      exact ⟨rfl, ST.out.bel⟩
    | succ m =>
      have hi1 : i < (l1.length : Int) := by have := HI.out; omega
      obtain ⟨ad, Ab, cb, s, hA, -, hlb, hC, Z0, Z1, Z2, Z3, Z4, Z5, Z6⟩ := row47 HR.out i hi0 hi1
      subst hA
      have HI1 : Aside0 (i + 1 ≤ 100) := ⟨by have := HLN.out; omega⟩
      have q4 : decide (i < (l1.length : Int)) = true := decide_eq_true hi1
      have q5 : decide (0 ≤ i) = true := decide_eq_true hi0
      have q6 : (0 ≤ i) = True := eq_true hi0
      have q7 : (i < (l1.length : Int)) = True := eq_true hi1
      have q9 : (0 ≤ i ∧ i < (l1.length : Int)) = True := eq_true ⟨hi0, hi1⟩
      have hw : IntKind.i64.wrap (i + 1) = i + 1 := by rw [i64_w]; have := HLN.out; unfold wrap64; omega
      have HLB := Aside0.mk hlb
      have HFB := Aside0.mk (F_old hC)
      have HZ0 := Aside0.mk Z0
      have HZ := Aside0.mk (And.intro Z1 (And.intro Z2 (And.intro Z3 (And.intro Z4 (And.intro Z5 Z6)))))
      have z6 := pw_cell_below ST.out.bel Z6
      clear Z0 Z1 Z2 Z3 Z4 Z5 Z6 hC hlb hi1
      by_cases c5 : 500 < (s.f4.f2.length : Int)
      · have q10 : decide (500 < (s.f4.f2.length : Int)) = true := decide_eq_true c5
        clear c5
        go_wp2
        go_ret
        exact ⟨rfl, ST.out.bel⟩
      have q10 : decide (500 < (s.f4.f2.length : Int)) = false := decide_eq_false c5
      have H500 : Aside0 (s.f4.f2.length ≤ 500) := ⟨by omega⟩
      clear c5
      obtain ⟨okr0, vr0, hnr⟩ := ST.out.rat
      obtain ⟨AL0, cL0, hv, -, -⟩ := hnr.slice_
      subst hv
      have y1 : wr.cell? ⟨h, 1, none⟩ = some (.slice AL0 L.length cL0) := hnr.cells.2.1
      clear hnr
      go_upto_region 16 with (fail)
      clear y1
      obtain ⟨n0, hn0⟩ : ∃ n0, L.length = n0 := ⟨_, rfl⟩
      rw [hn0]
      have HN0 := Aside0.mk hn0
      clear hn0
      have HW := Aside0.mk (show ∀ k, k < w.heap.size → (fr k ∨ k < w.heap.size) from fun k hk => Or.inr hk)
      have z0 := pw_cell_below ST.out.bel HZ0.out
      have z1 := pw_cell_below ST.out.bel HZ.out.1
      have z2 := pw_cell_below ST.out.bel HZ.out.2.1
      have z3 := pw_cell_below ST.out.bel HZ.out.2.2.1
      have z4 := pw_cell_below ST.out.bel HZ.out.2.2.2.1
      have z5 := pw_cell_below ST.out.bel HZ.out.2.2.2.2.1
      go_upto_region 18 with (first
        | (go_at_call 16; refine (does.all s.f0 s.f1 s.f2 s.f3 s.f4.f0 s.f4.f1 Ab cb s.f4.f2 ST.out (Kd.F_mono (Kd.F_below HFB.out ST.out.bel) HW.out) HLB.out H500.out HROOM.out.2 HI1.out IV.out).mono ?_; rintro e wd ⟨rfl, fr, L, d0, d1, d2, d3, hst, hiv⟩; rw [HN0.out] at hiv; clear ST HW IV z0 z1 z2 z3 z4 z5 z6; have ST := Aside0.mk hst.old; have IV := Aside0.mk hiv; clear hst hiv))
      obtain ⟨dd, hdd⟩ : ∃ dd, (if s.f0 = 3 ∧ n0 < L.length then d + 1 else d) = dd := ⟨_, rfl⟩
      rw [hdd] at IV
      have HDD := Aside0.mk hdd
      have hwd : IntKind.i64.wrap (d + 1) = wrap64 (d + 1) := by rw [i64_w]
      have HWD : Aside0 (s.f0 = 3 → n0 < L.length → wrap64 (d + 1) = dd) := ⟨fun e1 e2 => by rw [← hdd, if_pos ⟨e1, e2⟩]; have h5 := IV.out.2.2.1; have h6 := IV.out.2.2.2.1; have h7 := HI1.out; rw [← hdd, if_pos ⟨e1, e2⟩] at h5 h6; unfold wrap64; omega⟩
      clear hdd HN0
      obtain ⟨okr0, vr0, hnr⟩ := ST.out.rat
      obtain ⟨AL, cL, hv, -, -⟩ := hnr.slice_
      subst hv
      have y1 : wd.cell? ⟨h, 1, none⟩ = some (.slice AL L.length cL) := hnr.cells.2.1
      have z0 := pw_cell_below ST.out.bel HZ0.out
      clear hnr
      obtain ⟨bb, hbb⟩ : ∃ bb, decide (s.f0 = 3 ∧ n0 < L.length) = bb := ⟨_, rfl⟩
      have HBB := Aside0.mk hbb
      clear hbb
      go_cut [8, 90] (fun v8 v90 wc => wc = wd ∧ v8 = .int .i64 d ∧ v90 = .bool bb)
      case first =>
        by_cases c3 : s.f0 = 3
        · have r1 : decide (s.f0 = 3) = true := decide_eq_true c3
          have r2 : (s.f0 == 3) = true := beq_iff_eq.2 c3
          by_cases c4 : n0 < L.length
          · have r3 : decide ((n0 : Int) < (L.length : Int)) = true := decide_eq_true (by omega)
            have r4 : decide (n0 < L.length) = true := decide_eq_true c4
            have HC34 := Aside0.mk (show bb = true from by rw [← HBB.out]; exact decide_eq_true ⟨c3, c4⟩)
            clear c3 c4
            go_wp2
            go_meet
            case rel => exact ⟨rfl, rfl, by rw [HC34.out]⟩
          · have r3 : decide ((n0 : Int) < (L.length : Int)) = false := decide_eq_false (by omega)
            have r4 : decide (n0 < L.length) = false := decide_eq_false c4
            have HC34 := Aside0.mk (show bb = false from by rw [← HBB.out]; exact decide_eq_false (fun e => c4 e.2))
            clear c3 c4
            go_wp2
            go_meet
            case rel => exact ⟨rfl, rfl, by rw [HC34.out]⟩
        · have r1 : decide (s.f0 = 3) = false := decide_eq_false c3
          have r2 : (s.f0 == 3) = false := beq_eq_false_iff_ne.2 c3
          have HC34 := Aside0.mk (show bb = false from by rw [← HBB.out]; exact decide_eq_false (fun e => c3 e.1))
          clear c3
          go_wp2
          go_meet
          case rel => exact ⟨rfl, rfl, by rw [HC34.out]⟩
      case rest =>
      obtain ⟨rfl, rfl, rfl⟩ := hcut
      clear y1 z0
      go_upto_if 90 with (fail)
      go_cut [8] (fun v8 w3 => w3 = wc ∧ v8 = .int .i64 dd)
      case first =>
        cases bb with
        | true =>
          have HC34 := Aside0.mk (show wrap64 (d + 1) = dd from by have h5 := of_decide_eq_true HBB.out; exact HWD.out h5.1 h5.2)
          go_wp2
          go_meet
          case rel => exact ⟨rfl, by first | rw [hwd, HC34.out] | rw [HC34.out]⟩
        | false =>
          have HC34 := Aside0.mk (show d = dd from by have h5 := of_decide_eq_false HBB.out; rw [← HDD.out, if_neg h5])
          go_wp2
          go_meet
          case rel => exact ⟨rfl, by rw [HC34.out]⟩
      case rest =>
        obtain ⟨rfl, rfl⟩ := hcut
        clear hwd HWD HDD HBB
        go_upto_region 21 with (first
          | (go_at_call 17; obtain ⟨okn, vn, hn⟩ := ST.out.at_; refine (net_Net_Counts.good a0 d0 d1 d2 d3 L vn _ g okn _ hn).mono ?_; rintro e wt ⟨rfl, hb⟩; clear hn okn vn; obtain ⟨fr, hsub, hnew, hst⟩ := ST.out.on hb; replace ST := Aside0.mk hst; clear hsub hnew hst hb)
          | ((with_reducible refine gate_dst (N := 11) rfl ?_); refine box_event ?hg (N := 11) ?hd (cs := #[.int .i64 0, .int .i64 0, .int .i64 0, .int .i64 0]) (t := 43) ?hr ?_; (case hd => rfl); (case hg => rfl); (case hr => first | (go_simp; done) | (go_simp; rfl)); intro g11 hg_ wb hbox hbb; have hwg : w.heap.size ≤ g11 := (by rw [hg_]; exact ST.out.bel.size); obtain ⟨fr, hsub, hnew, hst⟩ := ST.out.on hbb; have HK11 := Aside0.mk (hnew g11 (by rw [hg_]; exact Nat.le_refl _) (blk_lt hbox)); clear hg_ hsub hnew; (with_reducible refine gate_store_ rfl ?_); refine stU_ rfl rfl rfl rfl rfl hbox rfl (by kernel_rfl) (by simp [Value.oneCell']) ?_; intro W7 hW1 hW2; clear hbox hbb; replace ST := Aside0.mk (hst.put hW2 HK11.out hwg); have K11 := Aside0.mk hW1; clear hst hwg hW1 hW2))
        obtain ⟨okr1, vr1, hnr⟩ := ST.out.rat
        obtain ⟨AL, cL, hv, -, -⟩ := hnr.slice_
        subst hv
        have HY1 := Aside0.mk (show W7.cell? ⟨h, 1, none⟩ = some (.slice AL L.length cL) from hnr.cells.2.1)
        have HC0 := Aside0.mk (show W7.cell? ⟨h, 2, none⟩ = some (.int .i64 d0) from hnr.cells.2.2.1)
        have HC1_ := Aside0.mk (show W7.cell? ⟨h, 3, none⟩ = some (.int .i64 d1) from hnr.cells.2.2.2.1)
        have HC2 := Aside0.mk (show W7.cell? ⟨h, 4, none⟩ = some (.int .i64 d2) from hnr.cells.2.2.2.2.1)
        have HC3 := Aside0.mk (show W7.cell? ⟨h, 5, none⟩ = some (.int .i64 d3) from hnr.cells.2.2.2.2.2.1)
        have HG0 := Aside0.mk (show W7.cell? ⟨g11, 0, none⟩ = some (.int .i64 d0) from (blk_cell K11.out 0).trans rfl)
        have HG1 := Aside0.mk (show W7.cell? ⟨g11, 1, none⟩ = some (.int .i64 d1) from (blk_cell K11.out 1).trans rfl)
        have HG2 := Aside0.mk (show W7.cell? ⟨g11, 2, none⟩ = some (.int .i64 d2) from (blk_cell K11.out 2).trans rfl)
        have HG3 := Aside0.mk (show W7.cell? ⟨g11, 3, none⟩ = some (.int .i64 d3) from (blk_cell K11.out 3).trans rfl)
        have HL7 : Aside0 ((L.length : Int) ≤ 70000) := ⟨by have := IV.out.2.2.2.2.2.2.2.2.2.2.2.2.1; have := HROOM.out; omega⟩
        have r5 : decide (a0 < (L.length : Int)) = false := decide_eq_false (by have := IV.out.2.2.2.2.2.2.2.2.2.2.2.2.1; omega)
        obtain ⟨b1, b2, b3, b4, b5, b6, b7, b8, b9, b10, b11, b12, b13, b14, -⟩ := IV.out
        have e1 : IntKind.i64.wrap ((L.length : Int) + d1) = (L.length : Int) + d1 := by rw [i64_w]; have := HL7.out; unfold wrap64; omega
        have e2 : IntKind.i64.wrap ((L.length : Int) + d1 + d2) = (L.length : Int) + d1 + d2 := by rw [i64_w]; have := HL7.out; unfold wrap64; omega
        have e3 : IntKind.i64.wrap ((L.length : Int) + d1 + d2 + d3) = d0 + dd := by rw [i64_w]; have := HL7.out; unfold wrap64; omega
        have e4 : IntKind.i64.wrap (d0 + dd) = d0 + dd := by rw [i64_w]; unfold wrap64; omega
        have eq4 := eq43 d0 d1 d2 d3
        clear hnr K11 HK11 b1 b2 b3 b4 b5 b6 b7 b8 b9 b10 b11 b12 b13 b14
        refine start_ (n := 40) (S := fun W_ => W_.cell? ⟨h, 1, none⟩ = some (.slice AL L.length cL) ∧ W_.cell? ⟨h, 2, none⟩ = some (.int .i64 d0) ∧ W_.cell? ⟨h, 3, none⟩ = some (.int .i64 d1) ∧ W_.cell? ⟨h, 4, none⟩ = some (.int .i64 d2) ∧ W_.cell? ⟨h, 5, none⟩ = some (.int .i64 d3) ∧ W_.cell? ⟨g11, 0, none⟩ = some (.int .i64 d0) ∧ W_.cell? ⟨g11, 1, none⟩ = some (.int .i64 d1) ∧ W_.cell? ⟨g11, 2, none⟩ = some (.int .i64 d2) ∧ W_.cell? ⟨g11, 3, none⟩ = some (.int .i64 d3)) (ds := []) #[false, false, false, false, false, false, false, false, false, false, false, false, false, false, false, false, false, false, false, false, false, false, false, false, false, false, false, false, false, false, false, false, false, false, false, false, false, false, false, false] (by kernel_rfl) rfl rfl ⟨pw_cell_below (below_drew (Below.refl _ _)) HY1.out, pw_cell_below (below_drew (Below.refl _ _)) HC0.out, pw_cell_below (below_drew (Below.refl _ _)) HC1_.out, pw_cell_below (below_drew (Below.refl _ _)) HC2.out, pw_cell_below (below_drew (Below.refl _ _)) HC3.out, pw_cell_below (below_drew (Below.refl _ _)) HG0.out, pw_cell_below (below_drew (Below.refl _ _)) HG1.out, pw_cell_below (below_drew (Below.refl _ _)) HG2.out, pw_cell_below (below_drew (Below.refl _ _)) HG3.out⟩ (fun hHeld => ?_); refine with_tabW pelotonlaw17_NetActs.tab21 pelotonlaw17_NetActs.bits21 (fun HT_ HW_ => ?_)
        replace ST := Aside0.mk ST.out.drw
        have hHeld := hHeld
        generalize W7.drew = wv at *
        refine pure_ (i := 0) (N := some 95) (v := ?_) (a' := ?_) #[true, false, false, false, false, false, false, false, false, false, false, false, false, false, false, false, false, false, false, false, false, false, false, false, false, false, false, false, false, false, false, false, false, false, false, false, false, false, false, false] rfl rfl (any_of HT_.out (by kernel_rfl)) (fun _ _ _ h => h) (Or.inl ⟨by rfl, ?_⟩) ?_ ?_
        rotate_left
        ·
          intro w'
          go_simp
          with_reducible rfl
        rotate_left
        ·
          simp only [Act.put, l_1, l_2, l_3, i64_w, i32_w]
          rfl
        refine pure_ (i := 2) (N := some 97) (v := ?_) (a' := ?_) #[true, false, true, false, false, false, false, false, false, false, false, false, false, false, false, false, false, false, false, false, false, false, false, false, false, false, false, false, false, false, false, false, false, false, false, false, false, false, false, false] rfl rfl (any_of HT_.out (by kernel_rfl)) (fun _ _ _ h => h) (Or.inl ⟨by rfl, ?_⟩) ?_ ?_
        rotate_left
        ·
          intro w'
          go_simp
          with_reducible rfl
        rotate_left
        ·
          simp only [Act.put, l_1, l_2, l_3, i64_w, i32_w]
          rfl
        refine pure_ (i := 3) (N := some 98) (v := ?_) (a' := ?_) #[true, false, true, true, false, false, false, false, false, false, false, false, false, false, false, false, false, false, false, false, false, false, false, false, false, false, false, false, false, false, false, false, false, false, false, false, false, false, false, false] rfl rfl (any_of HT_.out (by kernel_rfl)) (fun _ _ _ h => h) (Or.inl ⟨by rfl, ?_⟩) ?_ ?_
        rotate_left
        ·
          intro w'
          go_simp
          with_reducible rfl
        rotate_left
        ·
          simp only [Act.put, l_1, l_2, l_3, i64_w, i32_w]
          rfl
        refine pure_ (i := 4) (N := some 99) (v := ?_) (a' := ?_) #[true, false, true, true, true, false, false, false, false, false, false, false, false, false, false, false, false, false, false, false, false, false, false, false, false, false, false, false, false, false, false, false, false, false, false, false, false, false, false, false] rfl rfl (any_of HT_.out (by kernel_rfl)) (fun _ _ _ h => h) (Or.inl ⟨by rfl, ?_⟩) ?_ ?_
        rotate_left
        ·
          intro w'
          go_simp
          with_reducible rfl
        rotate_left
        ·
          simp only [Act.put, l_1, l_2, l_3, i64_w, i32_w]
          rfl
        refine take_ (i := 5) (N := some 100) (v := ?_) (a' := ?_) #[true, false, true, true, true, true, false, false, false, false, false, false, false, false, false, false, false, false, false, false, false, false, false, false, false, false, false, false, false, false, false, false, false, false, false, false, false, false, false, false] rfl rfl (take_ofW HT_.out HW_.out (by kernel_rfl)) (fun _ _ _ h => h) (Or.inl ⟨by rfl, ?_⟩) hHeld ?_ ?_
        rotate_left
        ·
          rintro w' ⟨s0, s1, s2, s3, s4, s5, s6, s7, s8⟩
          go_simp
          with_reducible rfl
        rotate_left
        ·
          simp only [Act.put, l_1, l_2, l_3, i64_w, i32_w]
          rfl
        refine pure_ (i := 6) (N := some 101) (v := ?_) (a' := ?_) #[true, false, true, true, true, true, true, false, false, false, false, false, false, false, false, false, false, false, false, false, false, false, false, false, false, false, false, false, false, false, false, false, false, false, false, false, false, false, false, false] rfl rfl (any_of HT_.out (by kernel_rfl)) (fun _ _ _ h => h) (Or.inl ⟨by rfl, ?_⟩) ?_ ?_
        rotate_left
        ·
          intro w'
          go_simp
          with_reducible rfl
        rotate_left
        ·
          simp only [Act.put, l_1, l_2, l_3, i64_w, i32_w]
          rfl
        refine one_ (i := 1) (N := some 96) #[true, true, true, true, true, true, true, false, false, false, false, false, false, false, false, false, false, false, false, false, false, false, false, false, false, false, false, false, false, false, false, false, false, false, false, false, false, false, false, false] rfl rfl (one_of HT_.out (by kernel_rfl)) (by decide) (fun K hK => ?_)
        refine call_ 11 #[.pointer (some ⟨g, 0, none⟩)] (by rfl) rfl ?_ ?_
        · go_simp
        refine (D2.len ST.out).mono ?_
        rintro e wl ⟨rfl, hwl⟩
        refine ⟨_, rfl, ?_⟩
        rw [← hwl]
        clear hwl
        refine hK.out _ _ hHeld (fun hHeld => ?_)
        clear hK K
        refine norm_ (a' := ?_) ?_ ?_
        rotate_left
        ·
          show Act.put _ (some 96) _ = _
          simp only [Act.put, l_1, l_2, l_3, i64_w, i32_w]
          rfl
        refine pure_ (i := 7) (N := some 102) (v := ?_) (a' := ?_) #[true, true, true, true, true, true, true, true, false, false, false, false, false, false, false, false, false, false, false, false, false, false, false, false, false, false, false, false, false, false, false, false, false, false, false, false, false, false, false, false] rfl rfl (any_of HT_.out (by kernel_rfl)) (fun _ _ _ h => h) (Or.inl ⟨by rfl, ?_⟩) ?_ ?_
        rotate_left
        ·
          intro w'
          go_simp
          with_reducible rfl
        rotate_left
        ·
          simp only [Act.put, l_1, l_2, l_3, i64_w, i32_w]
          rfl
        refine pure_ (i := 8) (N := some 103) (v := ?_) (a' := ?_) #[true, true, true, true, true, true, true, true, true, false, false, false, false, false, false, false, false, false, false, false, false, false, false, false, false, false, false, false, false, false, false, false, false, false, false, false, false, false, false, false] rfl rfl (any_of HT_.out (by kernel_rfl)) (fun _ _ _ h => h) (Or.inl ⟨by rfl, ?_⟩) ?_ ?_
        rotate_left
        ·
          intro w'
          go_simp
          with_reducible rfl
        rotate_left
        ·
          simp only [Act.put, l_1, l_2, l_3, i64_w, i32_w]
          rfl
        refine pure_ (i := 9) (N := some 104) (v := ?_) (a' := ?_) #[true, true, true, true, true, true, true, true, true, true, false, false, false, false, false, false, false, false, false, false, false, false, false, false, false, false, false, false, false, false, false, false, false, false, false, false, false, false, false, false] rfl rfl (any_of HT_.out (by kernel_rfl)) (fun _ _ _ h => h) (Or.inl ⟨by rfl, ?_⟩) ?_ ?_
        rotate_left
        ·
          intro w'
          go_simp
          with_reducible rfl
        rotate_left
        ·
          simp only [Act.put, l_1, l_2, l_3, i64_w, i32_w]
          rfl
        refine pure_ (i := 11) (N := some 106) (v := ?_) (a' := ?_) #[true, true, true, true, true, true, true, true, true, true, false, true, false, false, false, false, false, false, false, false, false, false, false, false, false, false, false, false, false, false, false, false, false, false, false, false, false, false, false, false] rfl rfl (any_of HT_.out (by kernel_rfl)) (fun _ _ _ h => h) (Or.inl ⟨by rfl, ?_⟩) ?_ ?_
        rotate_left
        ·
          intro w'
          go_simp
          with_reducible rfl
        rotate_left
        ·
          simp only [Act.put, l_1, l_2, l_3, i64_w, i32_w]
          rfl
        refine one_ (i := 10) (N := some 105) #[true, true, true, true, true, true, true, true, true, true, true, true, false, false, false, false, false, false, false, false, false, false, false, false, false, false, false, false, false, false, false, false, false, false, false, false, false, false, false, false] rfl rfl (one_of HT_.out (by kernel_rfl)) (by decide) (fun K hK => ?_)
        refine call_ 11 #[.pointer (some ⟨g, 0, none⟩)] (by rfl) rfl ?_ ?_
        · go_simp
        refine (D2.len ST.out).mono ?_
        rintro e wl ⟨rfl, hwl⟩
        refine ⟨_, rfl, ?_⟩
        rw [← hwl]
        clear hwl
        refine hK.out _ _ hHeld (fun hHeld => ?_)
        clear hK K
        refine norm_ (a' := ?_) ?_ ?_
        rotate_left
        ·
          show Act.put _ (some 105) _ = _
          simp only [Act.put, l_1, l_2, l_3, i64_w, i32_w]
          rfl
        refine pure_ (i := 12) (N := some 107) (v := ?_) (a' := ?_) #[true, true, true, true, true, true, true, true, true, true, true, true, true, false, false, false, false, false, false, false, false, false, false, false, false, false, false, false, false, false, false, false, false, false, false, false, false, false, false, false] rfl rfl (any_of HT_.out (by kernel_rfl)) (fun _ _ _ h => h) (Or.inl ⟨by rfl, ?_⟩) ?_ ?_
        rotate_left
        ·
          intro w'
          go_simp
          with_reducible rfl
        rotate_left
        ·
          simp only [Act.put, l_1, l_2, l_3, i64_w, i32_w]
          rfl
        refine pure_ (i := 13) (N := some 108) (v := ?_) (a' := ?_) #[true, true, true, true, true, true, true, true, true, true, true, true, true, true, false, false, false, false, false, false, false, false, false, false, false, false, false, false, false, false, false, false, false, false, false, false, false, false, false, false] rfl rfl (any_of HT_.out (by kernel_rfl)) (fun _ _ _ h => h) (Or.inl ⟨by rfl, ?_⟩) ?_ ?_
        rotate_left
        ·
          intro w'
          go_simp
          with_reducible rfl
        rotate_left
        ·
          simp only [Act.put, l_1, l_2, l_3, i64_w, i32_w]
          rfl
        refine pure_ (i := 14) (N := some 109) (v := ?_) (a' := ?_) #[true, true, true, true, true, true, true, true, true, true, true, true, true, true, true, false, false, false, false, false, false, false, false, false, false, false, false, false, false, false, false, false, false, false, false, false, false, false, false, false] rfl rfl (any_of HT_.out (by kernel_rfl)) (fun _ _ _ h => h) (Or.inl ⟨by rfl, ?_⟩) ?_ ?_
        rotate_left
        ·
          intro w'
          go_simp
          with_reducible rfl
        rotate_left
        ·
          simp only [Act.put, l_1, l_2, l_3, i64_w, i32_w]
          rfl
        refine take_ (i := 15) (N := some 110) (v := ?_) (a' := ?_) #[true, true, true, true, true, true, true, true, true, true, true, true, true, true, true, true, false, false, false, false, false, false, false, false, false, false, false, false, false, false, false, false, false, false, false, false, false, false, false, false] rfl rfl (take_ofW HT_.out HW_.out (by kernel_rfl)) (fun _ _ _ h => h) (Or.inl ⟨by rfl, ?_⟩) hHeld ?_ ?_
        rotate_left
        ·
          rintro w' ⟨s0, s1, s2, s3, s4, s5, s6, s7, s8⟩
          go_simp
          with_reducible rfl
        rotate_left
        ·
          simp only [Act.put, l_1, l_2, l_3, i64_w, i32_w]
          rfl
        refine pure_ (i := 16) (N := some 111) (v := ?_) (a' := ?_) #[true, true, true, true, true, true, true, true, true, true, true, true, true, true, true, true, true, false, false, false, false, false, false, false, false, false, false, false, false, false, false, false, false, false, false, false, false, false, false, false] rfl rfl (any_of HT_.out (by kernel_rfl)) (fun _ _ _ h => h) (Or.inl ⟨by rfl, ?_⟩) ?_ ?_
        rotate_left
        ·
          intro w'
          go_simp
          with_reducible rfl
        rotate_left
        ·
          simp only [Act.put, l_1, l_2, l_3, i64_w, i32_w]
          rfl
        refine pure_ (i := 17) (N := some 112) (v := ?_) (a' := ?_) #[true, true, true, true, true, true, true, true, true, true, true, true, true, true, true, true, true, true, false, false, false, false, false, false, false, false, false, false, false, false, false, false, false, false, false, false, false, false, false, false] rfl rfl (any_of HT_.out (by kernel_rfl)) (fun _ _ _ h => h) (Or.inl ⟨by rfl, ?_⟩) ?_ ?_
        rotate_left
        ·
          intro w'
          go_simp
          with_reducible rfl
        rotate_left
        ·
          simp only [Act.put, l_1, l_2, l_3, i64_w, i32_w]
          rfl
        refine pure_ (i := 18) (N := some 113) (v := ?_) (a' := ?_) #[true, true, true, true, true, true, true, true, true, true, true, true, true, true, true, true, true, true, true, false, false, false, false, false, false, false, false, false, false, false, false, false, false, false, false, false, false, false, false, false] rfl rfl (any_of HT_.out (by kernel_rfl)) (fun _ _ _ h => h) (Or.inl ⟨by rfl, ?_⟩) ?_ ?_
        rotate_left
        ·
          intro w'
          go_simp
          with_reducible rfl
        rotate_left
        ·
          simp only [Act.put, l_1, l_2, l_3, i64_w, i32_w]
          rfl
        refine take_ (i := 19) (N := some 114) (v := ?_) (a' := ?_) #[true, true, true, true, true, true, true, true, true, true, true, true, true, true, true, true, true, true, true, true, false, false, false, false, false, false, false, false, false, false, false, false, false, false, false, false, false, false, false, false] rfl rfl (take_ofW HT_.out HW_.out (by kernel_rfl)) (fun _ _ _ h => h) (Or.inl ⟨by rfl, ?_⟩) hHeld ?_ ?_
        rotate_left
        ·
          rintro w' ⟨s0, s1, s2, s3, s4, s5, s6, s7, s8⟩
          go_simp
          with_reducible rfl
        rotate_left
        ·
          simp only [Act.put, l_1, l_2, l_3, i64_w, i32_w]
          rfl
        refine pure_ (i := 20) (N := some 115) (v := ?_) (a' := ?_) #[true, true, true, true, true, true, true, true, true, true, true, true, true, true, true, true, true, true, true, true, true, false, false, false, false, false, false, false, false, false, false, false, false, false, false, false, false, false, false, false] rfl rfl (any_of HT_.out (by kernel_rfl)) (fun _ _ _ h => h) (Or.inl ⟨by rfl, ?_⟩) ?_ ?_
        rotate_left
        ·
          intro w'
          go_simp
          with_reducible rfl
        rotate_left
        ·
          simp only [Act.put, l_1, l_2, l_3, i64_w, i32_w]
          rfl
        refine pure_ (i := 21) (N := some 116) (v := ?_) (a' := ?_) #[true, true, true, true, true, true, true, true, true, true, true, true, true, true, true, true, true, true, true, true, true, true, false, false, false, false, false, false, false, false, false, false, false, false, false, false, false, false, false, false] rfl rfl (any_of HT_.out (by kernel_rfl)) (fun _ _ _ h => h) (Or.inl ⟨by rfl, ?_⟩) ?_ ?_
        rotate_left
        ·
          intro w'
          go_simp
          with_reducible rfl
        rotate_left
        ·
          simp only [Act.put, l_1, l_2, l_3, i64_w, i32_w]
          rfl
        refine pure_ (i := 22) (N := some 117) (v := ?_) (a' := ?_) #[true, true, true, true, true, true, true, true, true, true, true, true, true, true, true, true, true, true, true, true, true, true, true, false, false, false, false, false, false, false, false, false, false, false, false, false, false, false, false, false] rfl rfl (any_of HT_.out (by kernel_rfl)) (fun _ _ _ h => h) (Or.inl ⟨by rfl, ?_⟩) ?_ ?_
        rotate_left
        ·
          intro w'
          go_simp
          with_reducible rfl
        rotate_left
        ·
          simp only [Act.put, l_1, l_2, l_3, i64_w, i32_w]
          rfl
        refine pure_ (i := 23) (N := some 118) (v := ?_) (a' := ?_) #[true, true, true, true, true, true, true, true, true, true, true, true, true, true, true, true, true, true, true, true, true, true, true, true, false, false, false, false, false, false, false, false, false, false, false, false, false, false, false, false] rfl rfl (any_of HT_.out (by kernel_rfl)) (fun _ _ _ h => h) (Or.inl ⟨by rfl, ?_⟩) ?_ ?_
        rotate_left
        ·
          intro w'
          go_simp
          with_reducible rfl
        rotate_left
        ·
          simp only [Act.put, l_1, l_2, l_3, i64_w, i32_w]
          rfl
        refine pure_ (i := 25) (N := some 120) (v := ?_) (a' := ?_) #[true, true, true, true, true, true, true, true, true, true, true, true, true, true, true, true, true, true, true, true, true, true, true, true, false, true, false, false, false, false, false, false, false, false, false, false, false, false, false, false] rfl rfl (any_of HT_.out (by kernel_rfl)) (fun _ _ _ h => h) (Or.inl ⟨by rfl, ?_⟩) ?_ ?_
        rotate_left
        ·
          intro w'
          go_simp
          with_reducible rfl
        rotate_left
        ·
          simp only [Act.put, l_1, l_2, l_3, i64_w, i32_w]
          rfl
        refine take_ (i := 26) (N := some 121) (v := ?_) (a' := ?_) #[true, true, true, true, true, true, true, true, true, true, true, true, true, true, true, true, true, true, true, true, true, true, true, true, false, true, true, false, false, false, false, false, false, false, false, false, false, false, false, false] rfl rfl (take_ofW HT_.out HW_.out (by kernel_rfl)) (fun _ _ _ h => h) (Or.inl ⟨by rfl, ?_⟩) hHeld ?_ ?_
        rotate_left
        ·
          rintro w' ⟨s0, s1, s2, s3, s4, s5, s6, s7, s8⟩
          go_simp
          with_reducible rfl
        rotate_left
        ·
          simp only [Act.put, l_1, l_2, l_3, i64_w, i32_w]
          rfl
        refine pure_ (i := 28) (N := some 123) (v := ?_) (a' := ?_) #[true, true, true, true, true, true, true, true, true, true, true, true, true, true, true, true, true, true, true, true, true, true, true, true, false, true, true, false, true, false, false, false, false, false, false, false, false, false, false, false] rfl rfl (any_of HT_.out (by kernel_rfl)) (fun _ _ _ h => h) (Or.inl ⟨by rfl, ?_⟩) ?_ ?_
        rotate_left
        ·
          intro w'
          go_simp
          with_reducible rfl
        rotate_left
        ·
          simp only [Act.put, l_1, l_2, l_3, i64_w, i32_w]
          rfl
        refine take_ (i := 29) (N := some 124) (v := ?_) (a' := ?_) #[true, true, true, true, true, true, true, true, true, true, true, true, true, true, true, true, true, true, true, true, true, true, true, true, false, true, true, false, true, true, false, false, false, false, false, false, false, false, false, false] rfl rfl (take_ofW HT_.out HW_.out (by kernel_rfl)) (fun _ _ _ h => h) (Or.inl ⟨by rfl, ?_⟩) hHeld ?_ ?_
        rotate_left
        ·
          rintro w' ⟨s0, s1, s2, s3, s4, s5, s6, s7, s8⟩
          go_simp
          with_reducible rfl
        rotate_left
        ·
          simp only [Act.put, l_1, l_2, l_3, i64_w, i32_w]
          rfl
        refine pure_ (i := 31) (N := some 126) (v := ?_) (a' := ?_) #[true, true, true, true, true, true, true, true, true, true, true, true, true, true, true, true, true, true, true, true, true, true, true, true, false, true, true, false, true, true, false, true, false, false, false, false, false, false, false, false] rfl rfl (any_of HT_.out (by kernel_rfl)) (fun _ _ _ h => h) (Or.inl ⟨by rfl, ?_⟩) ?_ ?_
        rotate_left
        ·
          intro w'
          go_simp
          with_reducible rfl
        rotate_left
        ·
          simp only [Act.put, l_1, l_2, l_3, i64_w, i32_w]
          rfl
        refine take_ (i := 32) (N := some 127) (v := ?_) (a' := ?_) #[true, true, true, true, true, true, true, true, true, true, true, true, true, true, true, true, true, true, true, true, true, true, true, true, false, true, true, false, true, true, false, true, true, false, false, false, false, false, false, false] rfl rfl (take_ofW HT_.out HW_.out (by kernel_rfl)) (fun _ _ _ h => h) (Or.inl ⟨by rfl, ?_⟩) hHeld ?_ ?_
        rotate_left
        ·
          rintro w' ⟨s0, s1, s2, s3, s4, s5, s6, s7, s8⟩
          go_simp
          with_reducible rfl
        rotate_left
        ·
          simp only [Act.put, l_1, l_2, l_3, i64_w, i32_w]
          rfl
        refine pure_ (i := 34) (N := some 129) (v := ?_) (a' := ?_) #[true, true, true, true, true, true, true, true, true, true, true, true, true, true, true, true, true, true, true, true, true, true, true, true, false, true, true, false, true, true, false, true, true, false, true, false, false, false, false, false] rfl rfl (any_of HT_.out (by kernel_rfl)) (fun _ _ _ h => h) (Or.inl ⟨by rfl, ?_⟩) ?_ ?_
        rotate_left
        ·
          intro w'
          go_simp
          with_reducible rfl
        rotate_left
        ·
          simp only [Act.put, l_1, l_2, l_3, i64_w, i32_w]
          rfl
        refine take_ (i := 35) (N := some 130) (v := ?_) (a' := ?_) #[true, true, true, true, true, true, true, true, true, true, true, true, true, true, true, true, true, true, true, true, true, true, true, true, false, true, true, false, true, true, false, true, true, false, true, true, false, false, false, false] rfl rfl (take_ofW HT_.out HW_.out (by kernel_rfl)) (fun _ _ _ h => h) (Or.inl ⟨by rfl, ?_⟩) hHeld ?_ ?_
        rotate_left
        ·
          rintro w' ⟨s0, s1, s2, s3, s4, s5, s6, s7, s8⟩
          go_simp
          with_reducible rfl
        rotate_left
        ·
          simp only [Act.put, l_1, l_2, l_3, i64_w, i32_w]
          rfl
        refine pure_ (i := 36) (N := some 131) (v := ?_) (a' := ?_) #[true, true, true, true, true, true, true, true, true, true, true, true, true, true, true, true, true, true, true, true, true, true, true, true, false, true, true, false, true, true, false, true, true, false, true, true, true, false, false, false] rfl rfl (any_of HT_.out (by kernel_rfl)) (fun _ _ _ h => h) (Or.inl ⟨by rfl, ?_⟩) ?_ ?_
        rotate_left
        ·
          intro w'
          go_simp
          with_reducible rfl
        rotate_left
        ·
          simp only [Act.put, l_1, l_2, l_3, i64_w, i32_w]
          rfl
        refine pure_ (i := 37) (N := some 132) (v := ?_) (a' := ?_) #[true, true, true, true, true, true, true, true, true, true, true, true, true, true, true, true, true, true, true, true, true, true, true, true, false, true, true, false, true, true, false, true, true, false, true, true, true, true, false, false] rfl rfl (any_of HT_.out (by kernel_rfl)) (fun _ _ _ h => h) (Or.inl ⟨by rfl, ?_⟩) ?_ ?_
        rotate_left
        ·
          intro w'
          go_simp
          with_reducible rfl
        rotate_left
        ·
          simp only [Act.put, l_1, l_2, l_3, i64_w, i32_w]
          rfl
        refine one_ (i := 24) (N := some 119) #[true, true, true, true, true, true, true, true, true, true, true, true, true, true, true, true, true, true, true, true, true, true, true, true, true, true, true, false, true, true, false, true, true, false, true, true, true, true, false, false] rfl rfl (one_of HT_.out (by kernel_rfl)) (by decide) (fun K hK => ?_)
        refine call_ 11 #[.pointer (some ⟨g, 0, none⟩)] (by rfl) rfl ?_ ?_
        · go_simp
        refine (D2.len ST.out).mono ?_
        rintro e wl ⟨rfl, hwl⟩
        refine ⟨_, rfl, ?_⟩
        rw [← hwl]
        clear hwl
        refine hK.out _ _ hHeld (fun hHeld => ?_)
        clear hK K
        refine norm_ (a' := ?_) ?_ ?_
        rotate_left
        ·
          show Act.put _ (some 119) _ = _
          simp only [Act.put, l_1, l_2, l_3, i64_w, i32_w]
          rfl
        refine pure_ (i := 27) (N := some 122) (v := ?_) (a' := ?_) #[true, true, true, true, true, true, true, true, true, true, true, true, true, true, true, true, true, true, true, true, true, true, true, true, true, true, true, true, true, true, false, true, true, false, true, true, true, true, false, false] rfl rfl (any_of HT_.out (by kernel_rfl)) (fun _ _ _ h => h) (Or.inl ⟨by rfl, ?_⟩) ?_ ?_
        rotate_left
        ·
          intro w'
          go_simp
          with_reducible rfl
        rotate_left
        ·
          simp only [Act.put, l_1, l_2, l_3, i64_w, i32_w]
          rfl
        refine pure_ (i := 30) (N := some 125) (v := ?_) (a' := ?_) #[true, true, true, true, true, true, true, true, true, true, true, true, true, true, true, true, true, true, true, true, true, true, true, true, true, true, true, true, true, true, true, true, true, false, true, true, true, true, false, false] rfl rfl (any_of HT_.out (by kernel_rfl)) (fun _ _ _ h => h) (Or.inl ⟨by rfl, ?_⟩) ?_ ?_
        rotate_left
        ·
          intro w'
          go_simp
          with_reducible rfl
        rotate_left
        ·
          simp only [Act.put, l_1, l_2, l_3, i64_w, i32_w]
          rfl
        refine pure_ (i := 33) (N := some 128) (v := ?_) (a' := ?_) #[true, true, true, true, true, true, true, true, true, true, true, true, true, true, true, true, true, true, true, true, true, true, true, true, true, true, true, true, true, true, true, true, true, true, true, true, true, true, false, false] rfl rfl (any_of HT_.out (by kernel_rfl)) (fun _ _ _ h => h) (Or.inl ⟨by rfl, ?_⟩) ?_ ?_
        rotate_left
        ·
          intro w'
          go_simp
          with_reducible rfl
        rotate_left
        ·
          simp only [Act.put, l_1, l_2, l_3, i64_w, i32_w]
          rfl
        refine pure_ (i := 38) (N := some 133) (v := ?_) (a' := ?_) #[true, true, true, true, true, true, true, true, true, true, true, true, true, true, true, true, true, true, true, true, true, true, true, true, true, true, true, true, true, true, true, true, true, true, true, true, true, true, true, false] rfl rfl (any_of HT_.out (by kernel_rfl)) (fun _ _ _ h => h) (Or.inl ⟨by rfl, ?_⟩) ?_ ?_
        rotate_left
        ·
          intro w'
          go_simp
          with_reducible rfl
        rotate_left
        ·
          simp only [Act.put, l_1, l_2, l_3, i64_w, i32_w]
          rfl
        refine pure_ (i := 39) (N := some 134) (v := ?_) (a' := ?_) #[true, true, true, true, true, true, true, true, true, true, true, true, true, true, true, true, true, true, true, true, true, true, true, true, true, true, true, true, true, true, true, true, true, true, true, true, true, true, true, true] rfl rfl (any_of HT_.out (by kernel_rfl)) (fun _ _ _ h => h) (Or.inl ⟨by rfl, ?_⟩) ?_ ?_
        rotate_left
        ·
          intro w'
          go_simp
          with_reducible rfl
        rotate_left
        ·
          simp only [Act.put, l_1, l_2, l_3, i64_w, i32_w]
          rfl
        refine done_ (done_of HT_.out (by kernel_rfl)) ?_
        clear hHeld HT_ HW_
        clear eq4 e1 e2 e3 e4 r5 HY1 HC0 HC1_ HC2 HC3 HG0 HG1 HG2 HG3
        go_wp2
        go_loopg [12] L.length (fun m2 v12 W => ∃ (k : Int) (frk : Nat → Prop), v12 = .int .i64 k ∧ 0 ≤ k ∧ Aside0 (k + m2 = L.length) ∧ Aside0 (D2 w W g h frk a0 L d0 d1 d2 d3 L d0 d1 d2 d3))
        case atStart => exact ⟨0, _, rfl, by omega, ⟨by omega⟩, ST⟩
        case round =>
          clear ST
          obtain ⟨k, frk, rfl, hk0, HK, ST⟩ := hrel
          obtain ⟨okr2, vr2, hnr⟩ := ST.out.rat
          obtain ⟨AL, cL, hv, -, -⟩ := hnr.slice_
          subst hv
          have y1 : wr.cell? ⟨h, 1, none⟩ = some (.slice AL L.length cL) := hnr.cells.2.1
          clear hnr
          cases gk with
          | zero =>
            have q8 : decide (k < (L.length : Int)) = false := decide_eq_false (by have := HK.out; omega)
            go_wp2
            go_roundg m
            case measure => omega
            case rel => exact ⟨dd, i + 1, _, L, d0, d1, d2, d3, rfl, by first | rfl | rw [hw], by omega, ⟨by have := HI.out; omega⟩, ⟨ST.out.old⟩, IV⟩
          | succ m2 =>
              have HI0 : Aside0 (0 < L.length) := ⟨by have := HK.out; omega⟩
              have hk1 : k < (L.length : Int) := by have := HK.out; omega
              have HBI := Aside0.mk (And.intro hk0 hk1)
              have HIX : Aside0 ((net_idx k L.length).toNat = k.toNat) := ⟨by rw [idx17 hk0 hk1 HL7.out]⟩
              have q8 : decide (k < (L.length : Int)) = true := decide_eq_true hk1
              obtain ⟨p, hp⟩ : ∃ p, L.getD k.toNat (0, 0, []) = p := ⟨_, rfl⟩
              have HP := Aside0.mk hp
              have HBL : Aside0 (p.2.2.length < 140737488355328) := ⟨by have := IV.out.2.2.2.2.2.2.2.2.2.2.2.2.2.2 _ (mem17 (L := L) (i := k.toNat) (by omega)); rw [hp] at this; omega⟩
              have HSAME : Aside0 (pelotonref17_Same.f p.1 p.2.1 p.2.2 p.1 p.2.1 p.2.2 = some true) := ⟨by unfold pelotonref17_Same.f; simp⟩
              have v0 : decide (0 ≤ k) = true := decide_eq_true hk0
              have v2 : (0 ≤ k ∧ k < (L.length : Int)) = True := eq_true ⟨hk0, hk1⟩
              have v3 : (0 ≤ k) = True := eq_true hk0
              have v4 : (k < (L.length : Int)) = True := eq_true hk1
              have hwk : IntKind.i64.wrap (k + 1) = k + 1 := by rw [i64_w]; have := HL7.out; unfold wrap64; omega
              clear hp hk1
              go_upto_region 27 with (first
                | (go_at_call 12; refine (D2.look k ST.out HI0.out HL7.out k.toNat p HIX.out HP.out HBL.out).mono ?_; rintro e wt ⟨Ay, cy, rfl, hR, hb⟩; obtain ⟨fr, hsub, hnew, hst⟩ := ST.out.on hb; have HQ := Aside0.mk (Kd.R_lower hR ST.out.bel.size); have HQF := Aside0.mk (fun k hk => hnew k (Kd.R_base hR k hk) (Kd.R_lt hR k hk)); replace ST := Aside0.mk hst; clear hsub hnew hst hb hR y1)
                | ((with_reducible refine gate_dst (N := 13) rfl ?_); refine box_event ?hg (N := 13) ?hd (cs := #[.int .i64 0, .int .i64 0, .slice none 0 0]) (t := 31) ?hr ?_; (case hd => rfl); (case hg => rfl); (case hr => first | (go_simp; done) | (go_simp; rfl)); intro gp hg_ wb hbox hbb; have hwg : w.heap.size ≤ gp := (by rw [hg_]; exact ST.out.bel.size); have hq := R_fresh HQ.out hg_; obtain ⟨fr, hsub, hnew, hst⟩ := ST.out.on hbb; replace HQ := Aside0.mk (Kd.R_below HQ.out hbb); replace HQF := Aside0.mk (fun k hk => hsub k (HQF.out k hk)); have HKp := Aside0.mk (hnew gp (by rw [hg_]; exact Nat.le_refl _) (blk_lt hbox)); clear hg_ hsub hnew; (with_reducible refine gate_store_ rfl ?_); refine stU_ rfl rfl rfl rfl rfl hbox rfl (by kernel_rfl) (by simp [Value.oneCell']) ?_; intro W7 hW1 hW2; clear hbox hbb; replace ST := Aside0.mk (hst.put hW2 HKp.out hwg); have Kp := Aside0.mk hW1; replace HQ := Aside0.mk (R_off HQ.out hW2 hq); clear hst hwg hW1 hW2 hq))
              obtain ⟨okr, vr, hnr⟩ := ST.out.rat
              obtain ⟨hL, cap, hv, -, -, -⟩ := Kd.S_form hnr.2.2.2 HI0.out
              subst hv
              have HY1 := Aside0.mk (show W7.cell? ⟨h, 1, none⟩ = some (.slice (some ⟨hL, 0, none⟩) L.length cap) from hnr.cells.2.1)
              obtain ⟨cs, -, hM, hcc⟩ := Kd.S_get hnr.2.2.2 (0, 0, []) k HBI.out.1 HBI.out.2
              rw [HP.out] at hM
              obtain ⟨vb, rfl, hR⟩ := npk_inv hM
              obtain ⟨Ab, cb, rfl, hlb, hCb⟩ := Kd.R_reads hR
              have HZ0 := Aside0.mk (show W7.cell? ⟨hL, k.toNat * 3, none⟩ = some (.int .i64 p.1) from by have := hcc 0 _ rfl; rwa [add_plain] at this)
              have HZ1 := Aside0.mk (show W7.cell? ⟨hL, k.toNat * 3 + 1, none⟩ = some (.int .i64 p.2.1) from by have := hcc 1 _ rfl; rwa [add_plain] at this)
              have HZ2 := Aside0.mk (show W7.cell? ⟨hL, k.toNat * 3 + 2, none⟩ = some (.slice Ab p.2.2.length cb) from by have := hcc 2 _ rfl; rwa [add_plain] at this)
              have HCb := Aside0.mk hCb
              have HLb := Aside0.mk hlb
              clear hnr hM hcc hR hlb hCb
              have HCy := Aside0.mk (Kd.R_reads' HQ.out).2.2
              have HLy := Aside0.mk (Kd.R_reads' HQ.out).2.1
              obtain ⟨s0, s1, s2, -⟩ := cells3 Kp.out
              have y1 := HY1.out
              have t0 := HZ0.out
              have t1 := HZ1.out
              have t2 := HZ2.out
              clear HQ HQF Kp HKp HY1 HZ0 HZ1 HZ2
              go_still_tail 11, (by kernel_rfl)
              change wpList _ _ _ _ _ W7.drew
              go_wp2_with (first
                | (go_at_call 15; (refine (pelotonref17_Same.calls p.1 p.2.1 Ay cy p.2.2 p.1 p.2.1 Ab cb p.2.2 true _ (Kd.C_below HCy.out (below_drew (Below.refl _ _))) HLy.out (Kd.C_below HCb.out (below_drew (Below.refl _ _))) HLb.out HSAME.out).mono ?_); rintro e wm ⟨rfl, hb⟩; replace ST := Aside0.mk ST.out.drw; obtain ⟨frs, -, -, hst⟩ := ST.out.on hb; replace ST := Aside0.mk hst; clear hst hb))
              go_roundg m2
              case measure => omega
              case rel => exact ⟨k + 1, _, by first | rfl | rw [hwk], by omega, ⟨by have := HK.out; omega⟩, ST⟩
/-- THE ONE PURE STATEMENT of pelotonlaw17_NetActs. -/
def pelotonlaw17_NetActs.Pure : Prop := ∀ (a0 : Int) (l1 : List (S47)), ((Lit.int .i64 a0).wf = true) → (l1.length ≤ maxLen ∧ ∀ y0 ∈ l1, (Lit.int .i64 y0.f0).wf = true ∧ (Lit.int .i64 y0.f1).wf = true ∧ (Lit.int .i64 y0.f2).wf = true ∧ (Lit.int .u8 y0.f3).wf = true ∧ ((Lit.int .i64 y0.f4.f0).wf = true ∧ (Lit.int .i64 y0.f4.f1).wf = true ∧ y0.f4.f2.length ≤ maxLen ∧ ∀ y1 ∈ y0.f4.f2, (Lit.int .u8 y1).wf = true)) → pelotonlaw17_NetActs.f a0 l1 = some true
end Go.Proofs.Ytpaamdppobcmnaa.QNetActs
