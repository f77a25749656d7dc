-- Written by a program of this session (a turned copy of the print) out of the translation. Lean checks it.
import Derived.Test.YtpaamdppobcmnaaQNetActsx0
import Derived.Test.YtpaamdppobcmnaaQNetActsx1
import Derived.Test.YtpaamdppobcmnaaQNetActsx2
namespace Go.Proofs.Ytpaamdppobcmnaa.QNetActs
open Go.RowKit Go.Proofs.YtpaamdppobcmnaaW.PrintWords Go.Proofs.YtpaamdppobcmnaaW.PrintLast Go.Proofs.YtpaamdppobcmnaaW.PrintMore
attribute [local go_sem] max2_int min2_int max_two min_two max_three min_three max_four min_four   -- for this text's walks alone
open Go.Proofs.YtpaamdppobcmnaaW.PrintWords renaming below_alloc → b_a, pw_below_drewN → b_n, below_drew1 → b_d, below_set → b_s, blk_drewN → k_n, blk_drew → k_d, blk_alloc → k_a
open List renaming setIfInBounds_toArray → l_1, set_cons_zero → l_2, set_cons_succ → l_3, map_toArray → l_4, map_cons → l_5, map_nil → l_6, length_drop → l_7, length_take → l_8
set_option linter.unusedVariables false
set_option linter.unusedSimpArgs false

/-! ### net_Net_Double: function 14, by hand -/
def net_Double.T4 : Bool × List (List Nat × List Nat) := (true, [([], []), ([], []), ([1], [1]), ([2], [2]), ([3], [3]), ([], []), ([5], [5]), ([6], [6]), ([7], [7]), ([], []), ([8, 9], [8, 9]), ([10], [10]), ([11], [11]), ([12], [12]), ([4, 13, 12], [4, 13]), ([0, 0, 1, 2, 3, 4, 5, 6, 7, 8, 9, 10, 11, 12, 13, 14], [0]), ([15, 0, 1, 2, 3, 4, 5, 6, 7, 8, 9, 10, 11, 12, 13, 14], [15]), ([16, 14, 14, 0, 1, 2, 3, 4, 5, 6, 7, 8, 9, 10, 11, 12, 13, 14], [14, 16])])
def net_Double.B4 : List Nat := [0, 0, 2, 6, 14, 0, 32, 96, 224, 0, 992, 2016, 4064, 8160, 16382, 32767, 65535, 131071]
theorem net_Double.tab4 : rtab .any (opsOf Try.f14 4) = net_Double.T4 := by kernel_rfl
theorem net_Double.bits4 : waitsOk net_Double.T4.2 net_Double.B4 = true := by kernel_rfl
theorem NetAt.held1 {T E e base g : Nat} {ok : Nat → Prop} {w W : World} {room c0 c1 c2 c3 : Int} {L : List NP} {v : Value} (h : NetAt T E e w base g ok room L c0 c1 c2 c3 v) (hb : Below w.heap.size w W) : W.cell? ⟨g, 1, none⟩ = some v := (blk_cell (h.below hb).2.2.1 1).trans rfl
theorem NetAt.grown1 {base g : Nat} {okA ok1 : Nat → Prop} {w w1 : World} {room c0 c1 c2 c3 : Int} {L : List NP} {p : NP} {vL v1 : Value} (h : NetAt 52 31 5 w base g okA room L c0 c1 c2 c3 vL) (hS : Kd.S (npk 5) 31 w1 base ok1 v1 (L ++ [p])) (hg : w.grownBy w1 vL.ownBlock) (h1 : ¬ ok1 g) :
    w1.cell? ⟨g, 1, none⟩ = some vL ∧ w1.frozen? ⟨g, 1, none⟩ = false ∧ NetAt 52 31 5 (w1.setCell ⟨g, 1, none⟩ v1) base g ok1 room (L ++ [p]) c0 c1 c2 c3 v1 ∧ Upd (fun k => okA k ∨ k = g) w (w1.setCell ⟨g, 1, none⟩ v1) ∧ True := by
  have hown : ∀ k, vL.ownBlock = some k → okA k := by
    obtain ⟨f, h0, _⟩ := h.2.2.2
    exact h0
  have b1 : w1.heap[g]? = _ := (hg.block g (blk_lt h.2.2.1) (fun e => h.2.1 (hown g e.symm))).trans h.2.2.1
  exact ⟨(blk_cell b1 1).trans rfl, blk_frozen b1 1,
    ⟨h.1, h1, blk_put b1 1 v1 rfl, Kd.S_far (p := ⟨g, 1, none⟩) hS (fun k hk e => h1 (by have e' : k = g := e; rw [← e']; exact hk)) v1⟩,
    (Upd.of_grown hg (S := fun k => okA k ∨ k = g) (fun k e => Or.inl (hown k e))).trans (Upd.of_set g 1 v1 (S := fun k => okA k ∨ k = g) (Or.inr rfl)) (fun _ _ hk => hk), trivial⟩
def net_doubled (w : World) (base g : Nat) (ok : Nat → Prop) (room c0 c1 c2 c3 : Int) (L : List NP) (e : Ending) (w' : World) : Prop :=
  ∃ v', e = .returned (.bool true) ∧ NetAt 52 31 5 w' base g (fun k => ok k ∨ w.heap.size ≤ k) room L c0 c1 c2 c3 v' ∧ Upd (fun k => ok k ∨ k = g) w w'
set_option maxHeartbeats 8000000 in
set_option maxRecDepth 100000 in
theorem net_Net_Double.some0_ (a room c0 c1 c2 c3 : Int) (L : List NP) (v : Value) (base g : Nat) (ok : Nat → Prop) (w : World) (hlt_ : ∀ k, ok k → k < w.heap.size) (hN : NetAt 52 31 5 w base g ok room L c0 c1 c2 c3 v) (hbw : base ≤ w.heap.size) (h0 : 0 < L.length) (h1 : (L.length : Int) ≤ 4611686018427387904) (hr : (L.length : Int) < room) (hroom : room ≤ 65536) (p : NP) (hp : L.getD (net_idx a L.length).toNat (0, 0, []) = p) (hbl : p.2.2.length < 140737488355328) :
    Calls Try.prog 14 #[.pointer (some ⟨g, 0, none⟩), .int .i64 a] w (net_doubled w base g ok room c0 c1 c2 c3 (L ++ [p])) := by
  have HBW0 := Aside0.mk hbw
  have HLA := Aside0.mk hlt_
  have HGL := Aside0.mk (show g < w.heap.size from blk_lt hN.2.2.1)
  have HLEN : Aside0 ((L.length + 1) * 40 ≤ 140737488355328) := ⟨by omega⟩
  have q5 : decide (room ≤ (L.length : Int)) = false := decide_eq_false (by omega)
  clear hlt_ hbw hroom hr
  obtain ⟨hi0, hi1⟩ := net_idx.bounds a L.length (by omega) h1
  obtain ⟨h, cap, hv, hbh, hlt, _⟩ := Kd.S_form hN.2.2.2 h0
  subst hv
  have HOF := Aside0.mk (fun (W : World) (hN : NetAt 52 31 5 W base g ok room L c0 c1 c2 c3 (.slice (some ⟨h, 0, none⟩) L.length cap)) => net_Net_of.some_ a room c0 c1 c2 c3 L _ base g ok W hN h0 h1)
  generalize net_idx a L.length = i at *
  obtain ⟨cs, hcl, hM, hcc⟩ := Kd.S_get hN.2.2.2 (0, 0, []) i hi0 hi1
  rw [hp] at hM
  obtain ⟨vb, rfl, hR⟩ := npk_inv hM
  obtain ⟨Ab, cb, rfl, hlb, hCb⟩ := Kd.R_reads hR
  have z0 : w.cell? ⟨h, i.toNat * 3, none⟩ = some (.int .i64 p.1) := by have := hcc 0 _ rfl; rwa [add_plain] at this
  have z1 : w.cell? ⟨h, i.toNat * 3 + 1, none⟩ = some (.int .i64 p.2.1) := by have := hcc 1 _ rfl; rwa [add_plain] at this
  have z2 : w.cell? ⟨h, i.toNat * 3 + 2, none⟩ = some (.slice Ab p.2.2.length cb) := by have := hcc 2 _ rfl; rwa [add_plain] at this
  have HS := Aside0.mk hN
  have HCb := Aside0.mk hCb
  have HLb := Aside0.mk hlb
  have HF := Aside0.mk (net_own_f (x := p.1) (y := p.2.1) hbl)
  have q0 : decide (0 ≤ i) = true := decide_eq_true hi0
  have q1 : decide (i < (L.length : Int)) = true := decide_eq_true hi1
  have q2 : (0 ≤ i ∧ i < (L.length : Int)) = True := eq_true ⟨hi0, hi1⟩
  have q3 : (0 ≤ i) = True := eq_true hi0
  have q4 : (i < (L.length : Int)) = True := eq_true hi1
  clear hp hcl hM hcc hR hN hlt hbh h0 h1 hi0 hi1 hlb hCb hbl
  obtain ⟨y0, y1, y2, y3, y4, y5, f0, f1, f2, f3, f4, f5⟩ := cells6 HS.out.2.2.1
  clear y2 y3 y4 y5 f0 f1 f2 f3 f4 f5
  have hu31 := Try.underlying31
  go_enter Try.func14, Try.ntmps14
  go_upto_region 2 with (first
    | (go_at_call 20; (with_reducible refine (HOF.out _ HS.out).mono ?_); rintro e wn ⟨rfl, rfl⟩))
  go_quiet (fail)
  go_upto_region 4 with (fail)
  have hdn : Below w.heap.size w (w.drewN nq) := pw_below_drewN (Below.refl _ _) nq
  obtain ⟨okA, hA⟩ : ∃ okA : Nat → Prop, okA = ok := ⟨_, rfl⟩
  have PQ := Aside0.mk (show NetAt 52 31 5 (w.drewN nq) base g okA room L c0 c1 c2 c3 (.slice (some ⟨h, 0, none⟩) L.length cap) from by rw [hA]; exact HS.out.below hdn)
  have HB7 := Aside0.mk hdn
  replace HCb := Aside0.mk (Kd.C_below HCb.out hdn)
  replace z0 := pw_cell_below hdn z0
  replace z1 := pw_cell_below hdn z1
  replace z2 := pw_cell_below hdn z2
  have HSUB : Aside0 (∀ k, okA k → ok k) := ⟨fun k hk => by rw [← hA]; exact hk⟩
  rw [← hA] at HLA
  clear hdn hA HOF y0 y1
  generalize w.drewN nq = W7 at *
  refine start_ (n := 18) (S := fun W_ => W_.cell? ⟨g, 1, none⟩ = some (.slice (some ⟨h, 0, none⟩) L.length cap)) (ds := [17]) #[false, false, false, false, false, false, false, false, false, false, false, false, false, false, false, false, false, false] (by kernel_rfl) rfl rfl (PQ.out.held1 (below_drew (Below.refl _ _))) (fun hHeld => ?_); refine with_tabW net_Double.tab4 net_Double.bits4 (fun HT_ HW_ => ?_)
  replace PQ := Aside0.mk (PQ.out.below (below_drew (Below.refl _ _)))
  have HDR := Aside0.mk (below_drew (Below.refl W7.heap.size W7))
  have v0 := pw_cell_below HDR.out z0
  have v1 := pw_cell_below HDR.out z1
  have v2 := pw_cell_below HDR.out z2
  clear z0 z1 z2
  revert PQ hHeld HDR v0 v1 v2
  generalize W7.drew = wv
  intro hHeld PQ HDR z0 z1 z2
  refine pure_ (i := 0) (N := some 27) (v := ?_) (a' := ?_) #[true, false, false, false, false, false, false, false, false, false, false, false, false, false, false, false, false, false] rfl rfl (any_of HT_.out (by kernel_rfl)) (fun _ _ _ h => h) (Or.inl ⟨by rfl, ?_⟩) ?_ ?_
  rotate_left
  ·
    intro w'
    go_simp
    with_reducible rfl
  rotate_left
  ·
    simp only [Act.put, l_1, l_2, l_3, i64_w, i32_w]
    rfl
  refine pure_ (i := 1) (N := some 28) (v := ?_) (a' := ?_) #[true, true, false, false, false, false, false, false, false, false, false, false, false, false, false, false, false, false] rfl rfl (any_of HT_.out (by kernel_rfl)) (fun _ _ _ h => h) (Or.inl ⟨by rfl, ?_⟩) ?_ ?_
  rotate_left
  ·
    intro w'
    go_simp
    with_reducible rfl
  rotate_left
  ·
    simp only [Act.put, l_1, l_2, l_3, i64_w, i32_w]
    rfl
  refine pure_ (i := 2) (N := some 29) (v := ?_) (a' := ?_) #[true, true, true, false, false, false, false, false, false, false, false, false, false, false, false, false, false, false] rfl rfl (any_of HT_.out (by kernel_rfl)) (fun _ _ _ h => h) (Or.inl ⟨by rfl, ?_⟩) ?_ ?_
  rotate_left
  ·
    intro w'
    go_simp
    with_reducible rfl
  rotate_left
  ·
    simp only [Act.put, l_1, l_2, l_3, i64_w, i32_w]
    rfl
  refine pure_ (i := 3) (N := some 30) (v := ?_) (a' := ?_) #[true, true, true, true, false, false, false, false, false, false, false, false, false, false, false, false, false, false] rfl rfl (any_of HT_.out (by kernel_rfl)) (fun _ _ _ h => h) (Or.inl ⟨by rfl, ?_⟩) ?_ ?_
  rotate_left
  ·
    intro w'
    go_simp
    with_reducible rfl
  rotate_left
  ·
    simp only [Act.put, l_1, l_2, l_3, i64_w, i32_w]
    rfl
  refine take_ (i := 4) (N := some 31) (v := ?_) (a' := ?_) #[true, true, true, true, true, false, false, false, false, false, false, false, false, false, false, false, false, false] rfl rfl (take_ofW HT_.out HW_.out (by kernel_rfl)) (fun _ _ _ h => h) (Or.inl ⟨by rfl, ?_⟩) hHeld ?_ ?_
  rotate_left
  ·
    rintro w' s0
    go_simp
    with_reducible rfl
  rotate_left
  ·
    simp only [Act.put, l_1, l_2, l_3, i64_w, i32_w]
    rfl
  refine pure_ (i := 5) (N := some 32) (v := ?_) (a' := ?_) #[true, true, true, true, true, true, false, false, false, false, false, false, false, false, false, false, false, false] rfl rfl (any_of HT_.out (by kernel_rfl)) (fun _ _ _ h => h) (Or.inl ⟨by rfl, ?_⟩) ?_ ?_
  rotate_left
  ·
    intro w'
    go_simp
    with_reducible rfl
  rotate_left
  ·
    simp only [Act.put, l_1, l_2, l_3, i64_w, i32_w]
    rfl
  refine pure_ (i := 6) (N := some 33) (v := ?_) (a' := ?_) #[true, true, true, true, true, true, true, false, false, false, false, false, false, false, false, false, false, false] rfl rfl (any_of HT_.out (by kernel_rfl)) (fun _ _ _ h => h) (Or.inl ⟨by rfl, ?_⟩) ?_ ?_
  rotate_left
  ·
    intro w'
    go_simp
    with_reducible rfl
  rotate_left
  ·
    simp only [Act.put, l_1, l_2, l_3, i64_w, i32_w]
    rfl
  refine pure_ (i := 7) (N := some 34) (v := ?_) (a' := ?_) #[true, true, true, true, true, true, true, true, false, false, false, false, false, false, false, false, false, false] rfl rfl (any_of HT_.out (by kernel_rfl)) (fun _ _ _ h => h) (Or.inl ⟨by rfl, ?_⟩) ?_ ?_
  rotate_left
  ·
    intro w'
    go_simp
    with_reducible rfl
  rotate_left
  ·
    simp only [Act.put, l_1, l_2, l_3, i64_w, i32_w]
    rfl
  refine take_ (i := 8) (N := some 35) (v := ?_) (a' := ?_) #[true, true, true, true, true, true, true, true, true, false, false, false, false, false, false, false, false, false] rfl rfl (take_ofW HT_.out HW_.out (by kernel_rfl)) (fun _ _ _ h => h) (Or.inl ⟨by rfl, ?_⟩) hHeld ?_ ?_
  rotate_left
  ·
    rintro w' s0
    go_simp
    with_reducible rfl
  rotate_left
  ·
    simp only [Act.put, l_1, l_2, l_3, i64_w, i32_w]
    rfl
  refine pure_ (i := 9) (N := some 36) (v := ?_) (a' := ?_) #[true, true, true, true, true, true, true, true, true, true, false, false, false, false, false, false, false, false] rfl rfl (any_of HT_.out (by kernel_rfl)) (fun _ _ _ h => h) (Or.inl ⟨by rfl, ?_⟩) ?_ ?_
  rotate_left
  ·
    intro w'
    go_simp
    with_reducible rfl
  rotate_left
  ·
    simp only [Act.put, l_1, l_2, l_3, i64_w, i32_w]
    rfl
  refine pure_ (i := 10) (N := some 37) (v := ?_) (a' := ?_) #[true, true, true, true, true, true, true, true, true, true, true, false, false, false, false, false, false, false] rfl rfl (any_of HT_.out (by kernel_rfl)) (fun _ _ _ h => h) (Or.inl ⟨by rfl, ?_⟩) ?_ ?_
  rotate_left
  ·
    intro w'
    go_simp
    with_reducible rfl
  rotate_left
  ·
    simp only [Act.put, l_1, l_2, l_3, i64_w, i32_w]
    rfl
  refine one_ (i := 11) (N := some 38) #[true, true, true, true, true, true, true, true, true, true, true, true, false, false, false, false, false, false] rfl rfl (one_of HT_.out (by kernel_rfl)) (by decide) (fun K hK => ?_)
  refine event_step (w1 := wv) (v := .agg #[.int .i64 p.1, .int .i64 p.2.1, .slice Ab p.2.2.length cb]) (by rfl) (by go_simp; try rfl) ?_
  refine hK.out _ _ (PQ.out.held1 (Below.refl _ _)) (fun hHeld => ?_)
  clear hK K
  refine norm_ (a' := ?_) ?_ ?_
  rotate_left
  ·
    show Act.put _ (some 38) _ = _
    simp only [Act.put, l_1, l_2, l_3, i64_w, i32_w]
    rfl
  clear z0 z1 z2
  have HCb2 := Aside0.mk (Kd.C_below HCb.out HDR.out)
  have NU := Aside0.mk (Upd.of_below (S := fun k => ok k ∨ k = g) (below_then HB7.out HB7.out.size HDR.out))
  have HSZ := Aside0.mk (Nat.le_trans HB7.out.size HDR.out.size)
  refine one_ (i := 12) (N := some 39) #[true, true, true, true, true, true, true, true, true, true, true, true, true, false, false, false, false, false] rfl rfl (one_of HT_.out (by kernel_rfl)) (by decide) (fun K hK => ?_)
  refine call_ 18 #[.agg #[.int .i64 p.1, .int .i64 p.2.1, .slice Ab p.2.2.length cb]] (by rfl) rfl ?_ ?_
  · go_simp
  refine (net_own.calls p.1 p.2.1 Ab cb p.2.2 p.1 p.2.1 p.2.2 wv HCb2.out HLb.out HF.out).mono ?_
  rintro e wo ⟨vb, rfl, hrb, hbo⟩
  refine ⟨_, rfl, ?_⟩
  replace PQ := Aside0.mk (PQ.out.below hbo)
  have HBW := Aside0.mk (Nat.le_trans HBW0.out (Nat.le_trans HSZ.out hbo.size))
  have NR := Aside0.mk (show (Kd.int .u8).R 5 wo base (fun k => wv.heap.size ≤ k) vb p.2.2 from Kd.R_mono (Kd.R_lower (Kd.R_bound hrb) (Nat.le_trans HBW0.out HSZ.out)) (fun k hk => hk.2.1))
  replace NU := Aside0.mk (NU.out.trans (Upd.of_below (S := fun k => ok k ∨ k = g) hbo) (fun _ _ hk => hk))
  obtain ⟨okp, hokp⟩ : ∃ okp : Nat → Prop, okp = fun k => wv.heap.size ≤ k := ⟨_, rfl⟩
  rw [← hokp] at NR
  have HOP : Aside0 (∀ k, okp k → ¬ okA k ∧ k ≠ g) := ⟨fun k hk => by rw [hokp] at hk; exact ⟨fun h2 => by have h6 := HLA.out k h2; have h7 : wv.heap.size ≤ k := hk; have := HSZ.out; omega, fun e => by have := HGL.out; have := HSZ.out; have e' : wv.heap.size ≤ k := hk; omega⟩⟩
  have HPS : Aside0 (∀ k, okp k → w.heap.size ≤ k) := ⟨fun k hk => by rw [hokp] at hk; have e' : wv.heap.size ≤ k := hk; have := HSZ.out; omega⟩
  have HWO := Aside0.mk (show w.heap.size ≤ wo.heap.size from Nat.le_trans HSZ.out hbo.size)
  obtain ⟨Av0, cv0, rfl⟩ := Kd.R_slice hrb
  clear hokp hrb hbo HDR
  refine hK.out _ _ (PQ.out.held1 (Below.refl _ _)) (fun hHeld => ?_)
  clear hK K
  refine norm_ (a' := ?_) ?_ ?_
  rotate_left
  ·
    show Act.put _ (some 39) _ = _
    simp only [Act.put, l_1, l_2, l_3, i64_w, i32_w]
    rfl
  refine one_ (i := 13) (N := some 40) #[true, true, true, true, true, true, true, true, true, true, true, true, true, true, false, false, false, false] rfl rfl (one_of HT_.out (by kernel_rfl)) (by decide) (fun K hK => ?_)
  refine event_step (by rfl) (bld31_ (e := 31) (.int .i64 0) (.int .i64 0) (.slice none 0 0) rfl rfl) ?_
  refine hK.out _ _ (PQ.out.held1 (below_alloc (Below.refl _ _) _)) (fun hHeld => ?_)
  clear hK K
  refine norm_ (a' := ?_) ?_ ?_
  rotate_left
  ·
    show Act.put _ (some 40) _ = _
    simp only [Act.put, l_1, l_2, l_3, i64_w, i32_w]
    rfl
  refine one_ (i := 14) (N := some 41) #[true, true, true, true, true, true, true, true, true, true, true, true, true, true, true, false, false, false] rfl rfl (one_of HT_.out (by kernel_rfl)) (by decide) (fun K hK => ?_)
  refine Kd.S_append_step (npk 5) (w0 := wo) base (by rfl) (.tmp 31) (.tmp 40) 42 31 (.agg #[.int .i64 0, .int .i64 0, .slice none 0 0]) 40 rfl Try.underlying42 net_info31 rfl (by decide) (by decide) (.slice (some ⟨h, 0, none⟩) L.length cap) L p [.int .i64 p.1, .int .i64 p.2.1, .slice Av0 p.2.2.length cv0] (fun k => (okA k ∨ okp k) ∨ wo.heap.size ≤ k) okp rfl rfl (npk_mk p.1 p.2.1 NR.out) ?a1 ?a2 ?a3 (Below.refl _ _) HBW.out ?a4 ?_
  case a1 => exact fun k hk => ⟨Or.inl (Or.inr hk), fun e => (HOP.out k hk).1 (by obtain ⟨f, h0, _⟩ := PQ.out.2.2.2; exact h0 k e.symm)⟩
  case a2 => exact fun k hk => Or.inr hk
  case a3 => exact Kd.S_mono PQ.out.2.2.2 (fun k hk => ⟨Or.inl (Or.inl hk), fun h2 => (HOP.out k h2).1 hk⟩)
  case a4 => exact HLEN.out
  intro v1 wn hS hb1 hg1 hat1
  obtain ⟨Av, cv, hv1⟩ := Kd.S_slice hS
  rw [List.length_append, List.length_singleton] at hv1
  subst hv1
  have SM := Aside0.mk (PQ.out.grown1 (ok1 := fun k => (okA k ∨ okp k) ∨ wo.heap.size ≤ k) hS hg1 (net_ok1 PQ.out.2.1 HOP.out (blk_lt PQ.out.2.2.1)))
  clear hS hb1 hg1 hat1
  refine hK.out _ _ SM.out.1 (fun hHeld => ?_)
  clear hK K
  refine norm_ (a' := ?_) ?_ ?_
  rotate_left
  ·
    show Act.put _ (some 41) _ = _
    simp only [Act.put, l_1, l_2, l_3, i64_w, i32_w]
    rfl
  refine pure_ (i := 15) (N := some 42) (v := ?_) (a' := ?_) #[true, true, true, true, true, true, true, true, true, true, true, true, true, true, true, true, false, false] rfl rfl (any_of HT_.out (by kernel_rfl)) (fun _ _ _ h => h) (Or.inl ⟨by rfl, ?_⟩) ?_ ?_
  rotate_left
  ·
    intro w'
    go_simp
    with_reducible rfl
  rotate_left
  ·
    simp only [Act.put, l_1, l_2, l_3, i64_w, i32_w]
    rfl
  refine pure_ (i := 16) (N := some 43) (v := ?_) (a' := ?_) #[true, true, true, true, true, true, true, true, true, true, true, true, true, true, true, true, true, false] rfl rfl (any_of HT_.out (by kernel_rfl)) (fun _ _ _ h => h) (Or.inl ⟨by rfl, ?_⟩) ?_ ?_
  rotate_left
  ·
    intro w'
    go_simp
    with_reducible rfl
  rotate_left
  ·
    simp only [Act.put, l_1, l_2, l_3, i64_w, i32_w]
    rfl
  have z1 := SM.out.1
  have z2 := SM.out.2.1
  refine last_ (i := 17) (N := none) #[true, true, true, true, true, true, true, true, true, true, true, true, true, true, true, true, true, true] rfl rfl (one_of HT_.out (by kernel_rfl)) (by decide) (fun K hK => ?_)
  refine skip_ (w1 := ?_) (by rfl) rfl ?_ ?_
  rotate_left
  ·
    go_simp
    rfl
  refine hK.out _ _ ?_
  clear hK K
  refine done_ (done_of HT_.out (by kernel_rfl)) ?_
  clear hHeld HT_ HW_ z1 z2
  have NF := Aside0.mk (SM.out.2.2.1.mono (ok' := fun k => ok k ∨ w.heap.size ≤ k) (fun k hk => by
    rcases hk with (hk | hk) | hk
    · exact Or.inl (HSUB.out k hk)
    · exact Or.inr (HPS.out k hk)
    · exact Or.inr (Nat.le_trans HWO.out hk)) (fun hk => hk.elim HS.out.2.1 (fun h2 => absurd HGL.out (Nat.not_lt.2 h2))))
  have NU2 := Aside0.mk (NU.out.trans SM.out.2.2.2.1 (fun k _ hk => hk.imp (HSUB.out k) id))
  clear SM NU PQ NR
  generalize wn.setCell ⟨g, 1, none⟩ (.slice Av (L.length + 1) cv) = W9 at *
  go_wp2
  go_ret
  exact ⟨_, rfl, NF.out, NU2.out⟩
theorem net_Net_Double.some_ (a room c0 c1 c2 c3 : Int) (L : List NP) (v : Value) (base g : Nat) (ok : Nat → Prop) (w : World) (hN : NetAt 52 31 5 w base g ok room L c0 c1 c2 c3 v) (hbw : base ≤ w.heap.size) (h0 : 0 < L.length) (h1 : (L.length : Int) ≤ 4611686018427387904) (hr : (L.length : Int) < room) (hroom : room ≤ 65536) (p : NP) (hp : L.getD (net_idx a L.length).toNat (0, 0, []) = p) (hbl : p.2.2.length < 140737488355328) :
    Calls Try.prog 14 #[.pointer (some ⟨g, 0, none⟩), .int .i64 a] w (net_doubled w base g ok room c0 c1 c2 c3 (L ++ [p])) := by
  refine (net_Net_Double.some0_ a room c0 c1 c2 c3 L v base g (fun k => ok k ∧ k < w.heap.size) w (fun k hk => hk.2) hN.bound hbw h0 h1 hr hroom p hp hbl).mono ?_
  rintro e w' ⟨v', he, hn, hu⟩
  exact ⟨v', he, hn.mono (fun k hk => hk.imp (·.1) id) (fun hk => hk.elim hN.2.1 (fun h2 => absurd (blk_lt hN.2.2.1) (Nat.not_lt.2 h2))), hu.mono (fun k _ hk => hk.imp (·.1) id)⟩
set_option maxHeartbeats 8000000 in
set_option maxRecDepth 100000 in
theorem net_Net_Double.full_ (a room c0 c1 c2 c3 : Int) (L : List NP) (v : Value) (base g : Nat) (ok : Nat → Prop) (w : World) (hN : NetAt 52 31 5 w base g ok room L c0 c1 c2 c3 v) (h0 : 0 < L.length) (h1 : (L.length : Int) ≤ 4611686018427387904) (hr : room ≤ (L.length : Int)) :
    Calls Try.prog 14 #[.pointer (some ⟨g, 0, none⟩), .int .i64 a] w fun e w' => e = .returned (.bool false) ∧ Below w.heap.size w w' := by
  have HOF := Aside0.mk (net_Net_of.some_ a room c0 c1 c2 c3 L _ base g ok w hN h0 h1)
  have q5 : decide (room ≤ (L.length : Int)) = true := decide_eq_true hr
  obtain ⟨A, c, rfl, _, _⟩ := hN.slice_
  obtain ⟨y0, y1, y2, y3, y4, y5, f0, f1, f2, f3, f4, f5⟩ := cells6 hN.2.2.1
  clear y2 y3 y4 y5 f0 f1 f2 f3 f4 f5 hN h0 h1 hr
  generalize net_idx a L.length = i at *
  go_enter Try.func14, Try.ntmps14
  go_upto_region 2 with (first
    | (go_at_call 20; (with_reducible refine HOF.out.mono ?_); rintro e wn ⟨rfl, rfl⟩))
  go_quiet (fail)
  go_wp2
  go_ret
  exact ⟨rfl, pw_below_drewN (Below.refl _ _) nq⟩
set_option maxHeartbeats 8000000 in
set_option maxRecDepth 100000 in
theorem net_Net_Double.none_ (a room c0 c1 c2 c3 : Int) (v : Value) (base g : Nat) (ok : Nat → Prop) (w : World) (hN : NetAt 52 31 5 w base g ok room [] c0 c1 c2 c3 v) :
    Calls Try.prog 14 #[.pointer (some ⟨g, 0, none⟩), .int .i64 a] w fun e w' => e = .returned (.bool false) ∧ Below w.heap.size w w' := by
  have HOF := Aside0.mk (net_Net_of.none_ a room c0 c1 c2 c3 _ base g ok w hN)
  clear hN
  go_enter Try.func14, Try.ntmps14
  go_upto_region 2 with (first
    | (go_at_call 20; (with_reducible refine HOF.out.mono ?_); rintro e wn ⟨rfl, rfl⟩))
  go_quiet (fail)
  go_wp2
  go_ret
  exact ⟨rfl, pw_below_drewN (Below.refl _ _) nq⟩
section
variable {w W W' : World} {g gb : Nat} {free free' : Nat → Prop} {room c0 c1 c2 c3 : Int} {L : List NP}
theorem LS.double (a : Int) (h : LS w W g free room L c0 c1 c2 c3) (h0 : 0 < L.length) (hr : (L.length : Int) < room) (hroom : room ≤ 65536) (i : Nat) (p : NP) (hi : (net_idx a L.length).toNat = i) (hp : L.getD i (0, 0, []) = p) (hbl : p.2.2.length < 140737488355328) :
    Calls Try.prog 14 #[.pointer (some ⟨g, 0, none⟩), .int .i64 a] W fun e w' => e = .returned (.bool true) ∧ LS w w' g free room (L ++ [p]) c0 c1 c2 c3 ∧ Upd (fun k => ¬ free k) W w' := by
  obtain ⟨h2, h3, ok, v, hn, h4⟩ := h
  subst hi
  refine (net_Net_Double.some_ a room c0 c1 c2 c3 L v _ g ok W hn h2.size h0 (by omega) hr hroom p hp hbl).mono ?_
  rintro e w' ⟨v', he, hn', hu⟩
  exact ⟨he, ⟨Upd.belowB h2 h2.size hu (fun k hk => hk.elim (fun e => (h4 k e).1) (fun e => by have e' : k = g := e; omega)), ⟨h3.1, h3.2.1, fun k hk => Nat.lt_of_lt_of_le (h3.2.2 k hk) hu.size⟩, _, v', hn'.bound, fun k hk => ⟨hk.1.elim (fun e => (h4 k e).1) (fun e => Nat.le_trans h2.size e), hk.2, fun e => hk.1.elim (fun e2 => (h4 k e2).2.2 e) (fun e2 => by have := h3.2.2 k e; omega)⟩⟩, hu.mono (fun k _ hk => hk.elim (fun e => (h4 k e).2.2) (fun e => by have e' : k = g := e; rw [e']; exact h3.2.1))⟩
end
/-! ### pelotonref17_Net_Send: function 21, by hand -/
def ref_Send.T6 : Bool × List (List Nat × List Nat) := (true, [([], []), ([], []), ([1], [1]), ([2], [2]), ([3], [3]), ([], []), ([5], [5]), ([4, 6], [4, 6]), ([0, 0, 1, 2, 3, 4, 5, 6, 7], [0]), ([8, 0, 1, 2, 3, 4, 5, 6, 7], [8]), ([9, 7, 7, 0, 1, 2, 3, 4, 5, 6, 7], [7, 9])])
def ref_Send.B6 : List Nat := [0, 0, 2, 6, 14, 0, 32, 126, 255, 511, 1023]
theorem ref_Send.tab6 : rtab .any (opsOf Try.f21 6) = ref_Send.T6 := by kernel_rfl
theorem ref_Send.bits6 : waitsOk ref_Send.T6.2 ref_Send.B6 = true := by kernel_rfl
theorem u8info_ : (Try.prog.info? 5).map (fun i => (i.zero, i.size, i.bytes)) = some (some (.int .u8 0), 1, 1) := by kernel_rfl
def ref_sent (w : World) (base h : Nat) (ok : Nat → Prop) (room c2 c3 : Int) (R : List NP × Int × Int × Int) (e : Ending) (w' : World) : Prop :=
  ∃ v', e = .returned (.int .i64 R.2.2.2) ∧ NetAt 45 31 5 w' base h (fun k => ok k ∨ w.heap.size ≤ k) room R.1 R.2.1 R.2.2.1 c2 c3 v' ∧ Upd (fun k => ok k ∨ k = h) w w'
set_option maxHeartbeats 8000000 in
set_option maxRecDepth 100000 in
theorem ref_Send.some0_ (x y : Int) (b : List Int) (A : Option Addr) (c : Nat) (room c0 c1 c2 c3 : Int) (L : List NP) (v : Value) (base h : Nat) (okS okF : Nat → Prop) (R : List NP × Int × Int × Int) (w : World) (hlt_ : ∀ k, okS k → k < w.heap.size) (hN : NetAt 45 31 5 w base h okS room L c0 c1 c2 c3 v) (hbw : base ≤ w.heap.size) (hF : Kd.F (Kd.int .u8) w okF A b.length b) (hc : b.length ≤ c) (hFS : ∀ k, okF k → k < w.heap.size ∧ ¬ okS k ∧ k ≠ h) (hroom : room ≤ 65536) (hbl : b.length < 140737488355328)
    (hR : net_send room [(x, y, b)] L c0 c1 0 = R) :
    Calls Try.prog 21 #[.pointer (some ⟨h, 0, none⟩), .agg #[.int .i64 x, .int .i64 y, .slice A b.length c]] w (ref_sent w base h okS room c2 c3 R) := by
  obtain ⟨p, hp⟩ : ∃ p : NP, p = (x, y, b) := ⟨_, rfl⟩
  rw [← hp] at hR
  obtain rfl : x = p.1 := by rw [hp]
  obtain rfl : y = p.2.1 := by rw [hp]
  obtain rfl : b = p.2.2 := by rw [hp]
  clear hp
  rw [net_send] at hR
  simp only [net_send] at hR
  rw [show wrap64 (0 + 1) = 1 by decide +kernel] at hR
  have HLT := Aside0.mk hlt_
  have HBWw := Aside0.mk hbw
  have HGL := Aside0.mk (show h < w.heap.size from blk_lt hN.2.2.1)
  have HNG := Aside0.mk hN.2.1
  have HF0 := Aside0.mk hF
  have HC := Aside0.mk hc
  have HFS := Aside0.mk hFS
  have HBL := Aside0.mk hbl
  have HB := Aside0.mk (Below.refl w.heap.size w)
  obtain ⟨AL, cL, hv, _, _⟩ := hN.slice_
  subst hv
  have NT := Aside0.mk hN
  clear hN hlt_ hbw hF hc hFS hbl
  have hu31 := Try.underlying31
  have hu43 := Try.underlying43
  go_enter Try.func21, Try.ntmps21
  go_upto_region 1 with (first | ((with_reducible refine gate_dst (N := 3) rfl ?_); refine box_event ?hg (N := 3) ?hd (cs := #[.int .i64 p.1, .int .i64 p.2.1, .slice A p.2.2.length c]) (t := 31) ?hr ?_; (case hd => rfl); (case hg => rfl); (case hr => first | (go_simp; done) | (go_simp; rfl)); intro gp hg_ wb hbox hbb; have HGP := Aside0.mk hg_; replace NT := Aside0.mk (NT.out.below hbb); replace HF0 := Aside0.mk (Kd.F_below HF0.out hbb); replace HB := Aside0.mk hbb; have K3 := Aside0.mk hbox; clear hg_ hbox hbb))
  obtain ⟨y0, y1, y2, y3, y4, y5, f0, f1, f2, f3, f4, f5⟩ := cells6 NT.out.2.2.1
  clear y0 y1 y3 y4 y5 f0 f1 f3 f4 f5
  have hw0 : IntKind.i64.wrap (c0 + 1) = wrap64 (c0 + 1) := by rw [i64_w]
  have hgp : gp ≠ h := fun e => by have := HGP.out; have := HGL.out; omega
  go_still_tail 9, (by kernel_rfl)
  change wpList _ _ _ _ _ wb.drew
  go_upto_region 2 with (fail)
  have NT6 := Aside0.mk ((NT.out.put (by decide) (by decide) 2 (.int .i64 (wrap64 (c0 + 1))) (wrap64 (c0 + 1)) c1 c2 c3 rfl).drew)
  have NU6 := Aside0.mk (((Upd.of_below (S := fun k => okS k ∨ k = h) HB.out).trans (Upd.of_set h 2 (.int .i64 (wrap64 (c0 + 1))) (S := fun k => okS k ∨ k = h) (Or.inr rfl)) (fun _ _ hk => hk)).drew)
  have HF6 := Aside0.mk (Kd.F_step (W1 := (wb.setCell ⟨h, 2, none⟩ (.int .i64 (wrap64 (c0 + 1)))).drew) HF0.out (fun k hk _ => Below.heap_setCell _ ⟨h, 2, none⟩ _ k (HFS.out k hk).2.2))
  have K36 := Aside0.mk (blk_drew (blk_far K3.out (p := ⟨h, 2, none⟩) hgp (.int .i64 (wrap64 (c0 + 1)))))
  have HSZ6 := Aside0.mk (show w.heap.size ≤ (wb.setCell ⟨h, 2, none⟩ (.int .i64 (wrap64 (c0 + 1)))).drew.heap.size from NU6.out.size)
  have HGP6 := Aside0.mk (show gp < (wb.setCell ⟨h, 2, none⟩ (.int .i64 (wrap64 (c0 + 1)))).drew.heap.size from blk_lt K36.out)
  clear y2 f2 hw0 NT HF0 K3 HB
  generalize (wb.setCell ⟨h, 2, none⟩ (.int .i64 (wrap64 (c0 + 1)))).drew = W6 at *
  obtain ⟨y0, y1, y2, y3, y4, y5, f0, f1, f2, f3, f4, f5⟩ := cells6 NT6.out.2.2.1
  clear y2 y3 y4 y5 f0 f1 f2 f3 f4 f5
  by_cases hr : room ≤ (L.length : Int)
  · have q5 : decide (room ≤ (L.length : Int)) = true := decide_eq_true hr
    rw [if_pos hr] at hR
    subst hR
    clear hr
    go_quiet (fail)
    go_upto_region 3 with (fail)
    have NT7 := Aside0.mk (NT6.out.below (pw_below_drewN (Below.refl _ _) nq))
    have NU7 := Aside0.mk (NU6.out.trans (Upd.of_below (S := fun k => okS k ∨ k = h) (pw_below_drewN (Below.refl _ _) nq)) (fun _ _ hk => hk))
    clear NT6 NU6 HF6 K36 y0 y1
    generalize W6.drewN nq = W7 at *
    obtain ⟨y0, y1, y2, y3, y4, y5, f0, f1, f2, f3, f4, f5⟩ := cells6 NT7.out.2.2.1
    clear y0 y1 y2 y4 y5 f0 f1 f2 f4 f5
    have hw1 : IntKind.i64.wrap (c1 + 1) = wrap64 (c1 + 1) := by rw [i64_w]
    go_still_tail 9, (by kernel_rfl)
    change wpList _ _ _ _ _ W7.drew
    go_wp2
    go_ret
    exact ⟨_, rfl, (((NT7.out.put (by decide) (by decide) 3 (.int .i64 (wrap64 (c1 + 1))) (wrap64 (c0 + 1)) (wrap64 (c1 + 1)) c2 c3 rfl).drew).mono (fun k hk => Or.inl hk) (fun hk => hk.elim HNG.out (fun h2 => absurd HGL.out (Nat.not_lt.2 h2)))), (NU7.out.trans (Upd.of_set h 3 (.int .i64 (wrap64 (c1 + 1))) (S := fun k => okS k ∨ k = h) (Or.inr rfl)) (fun _ _ hk => hk)).drew⟩
  · have q5 : decide (room ≤ (L.length : Int)) = false := decide_eq_false hr
    rw [if_neg hr] at hR
    subst hR
    have HLEN : Aside0 ((L.length + 1) * 40 ≤ 140737488355328) := ⟨by omega⟩
    clear hr
    go_quiet (fail)
    go_upto_region 5 with (fail)
    have hdn : Below W6.heap.size W6 (W6.drewN nq) := pw_below_drewN (Below.refl _ _) nq
    have NT7 := Aside0.mk (NT6.out.below hdn)
    have NU7 := Aside0.mk (NU6.out.trans (Upd.of_below (S := fun k => okS k ∨ k = h) hdn) (fun _ _ hk => hk))
    have HF7 := Aside0.mk (Kd.F_below HF6.out hdn)
    have K37 := Aside0.mk (blk_below K36.out hdn)
    have HSZ7 := Aside0.mk (Nat.le_trans HSZ6.out hdn.size)
    clear NT6 NU6 HF6 K36 y0 y1 hdn HSZ6
    generalize W6.drewN nq = W7 at *
    obtain ⟨x0, x1, x2, fz0, fz1, fz2⟩ := cells3 K37.out
    clear x0 x1 fz0 fz1
    go_upto_region 6 with (first
      | ((with_reducible refine gate_dst (N := 33) rfl ?_); refine Kd.R_lit (Kd.int .u8) (w0 := W7) W7.heap.size 5 ?hg (N := 33) ?hd (xs := ([] : List Int)) (inner := []) (ok := fun _ => True) (okp := fun _ => True) ?hr (Reps.none _ _) (fun _ hk => hk) trivial (Below.refl _ _) (Nat.le_refl _) (by simp) ?_; (case hd => rfl); (case hg => rfl); (case hr => first | (go_simp; done) | (go_simp; rfl)); intro vl wl hol hbl hg_ hnew_; have HBv := Aside0.mk hbl; have HQ := Aside0.mk hol; have y2 := pw_cell_below hbl x2; clear x2 fz2 hol hbl hg_ hnew_)
      | (at_builtin; refine Kd.R_append_rows (Kd.int .u8) (w0 := W7) W7.heap.size rfl (.tmp 33) (.tmp 35) 28 5 (.int .u8 0) 1 rfl Try.underlying28 u8info_ rfl (by decide) (by omega) vl [] p.2.2 _ _ _ (fun _ => True) (fun _ => False) rfl rfl HQ.out ?aR (fun _ _ h => h) (fun _ h => h.elim) (fun _ _ => trivial) HBv.out HBv.out.size ?aL ?_; (case aR => exact Kd.C_below (Kd.F_now HF7.out) HBv.out); (case aL => (have := HBL.out; simp only [List.length_nil]; omega)); intro vq wn ho hb hg hat; rw [List.nil_append] at ho; obtain ⟨Ao, co, ev, hlq, _⟩ := Kd.R_reads ho; subst ev; replace HBv := Aside0.mk hb; replace HQ := Aside0.mk ho; have K38 := Aside0.mk (blk_below K37.out hb); obtain ⟨_, _, y2, _, _, fz2⟩ := cells3 K38.out; clear ho hb hg hat hlq))
    have hqg : ∀ k, (Value.slice Ao p.2.2.length co).ownBlock = some k → W7.heap.size ≤ k ∧ k < wn.heap.size := fun k hk => ⟨Kd.R_base HQ.out k hk, Kd.R_lt HQ.out k hk⟩
    have hgp7 : gp < W7.heap.size := blk_lt K37.out
    have NT8 := Aside0.mk (NT7.out.bound.below HBv.out)
    have hux : Upd (fun k => k = gp) wn (wn.setCell ⟨gp, 2, none⟩ (.slice Ao p.2.2.length co)) := Upd.of_set gp 2 _ rfl
    obtain ⟨okA, hA⟩ : ∃ okA : Nat → Prop, okA = fun k => okS k := ⟨_, rfl⟩
    have NT9 := Aside0.mk ((NT7.out.below HBv.out).upd hux (fun k hk _ e => by have e' : k = gp := e; have := HLT.out k hk; have := HGP.out; omega) (Ne.symm hgp))
    have NR := Aside0.mk (show (Kd.int .u8).R 5 (wn.setCell ⟨gp, 2, none⟩ (.slice Ao p.2.2.length co)) base (fun k => W7.heap.size ≤ k) (.slice Ao p.2.2.length co) p.2.2 from Kd.R_mono (Kd.R_step (w1 := wn.setCell ⟨gp, 2, none⟩ (.slice Ao p.2.2.length co)) (Kd.R_lower (Kd.R_bound HQ.out) (Nat.le_trans HBWw.out HSZ7.out)) (fun k hk hlt => hux.2.2.2.2 k hlt (fun e => by have e' : k = gp := e; have := hk.2.1; omega))) (fun k hk => hk.2.1))
    have K39 := Aside0.mk (show (wn.setCell ⟨gp, 2, none⟩ (.slice Ao p.2.2.length co)).heap[gp]? = some (.cells #[.int .i64 p.1, .int .i64 p.2.1, .slice Ao p.2.2.length co] 31 (0, 0)) from blk_put (cs := #[.int .i64 p.1, .int .i64 p.2.1, .slice A p.2.2.length c]) K38.out 2 _ rfl)
    have NU8 := Aside0.mk ((NU7.out.trans (Upd.of_below (S := fun k => okS k ∨ k = h) HBv.out) (fun _ _ hk => hk)).trans hux (fun k hk e => by have e' : k = gp := e; have := HGP.out; omega))
    have HWS := Aside0.mk (show w.heap.size ≤ (wn.setCell ⟨gp, 2, none⟩ (.slice Ao p.2.2.length co)).heap.size from NU8.out.size)
    have HBW0 := Aside0.mk (Nat.le_trans HBWw.out HWS.out)
    obtain ⟨okp, hokp⟩ : ∃ okp : Nat → Prop, okp = fun k => W7.heap.size ≤ k := ⟨_, rfl⟩
    have PQ := Aside0.mk (show net_Box 45 (wn.setCell ⟨gp, 2, none⟩ (.slice Ao p.2.2.length co)) base h gp okA room (wrap64 (c0 + 1)) c1 c2 c3 L (.slice AL L.length cL) p.1 p.2.1 (.slice Ao p.2.2.length co) from by rw [hA]; exact ⟨NT9.out, K39.out, fun k hk e => by have := HLT.out k hk; have := HGP.out; omega⟩)
    have HOP : Aside0 (∀ k, okp k → ¬ okA k ∧ k ≠ h) := ⟨fun k hk => by rw [hokp] at hk; rw [hA]; have h5 : W7.heap.size ≤ k := hk; exact ⟨fun h2 => by have := HLT.out k h2; have := HSZ7.out; omega, fun e => by have := HGL.out; have := HSZ7.out; omega⟩⟩
    have HPS : Aside0 (∀ k, okp k → w.heap.size ≤ k) := ⟨fun k hk => by rw [hokp] at hk; exact Nat.le_trans HSZ7.out hk⟩
    have HSUB : Aside0 (∀ k, okA k → okS k) := ⟨fun k hk => by rw [hA] at hk; exact hk⟩
    rw [← hokp] at NR
    clear hokp hA hux hqg hgp7 NT7 NT8 NT9 K37 K38 K39 HBv HQ HF7 NU7 y2 fz2
    generalize wn.setCell ⟨gp, 2, none⟩ (.slice Ao p.2.2.length co) = W8 at *
    refine start_ (n := 11) (S := fun W_ => W_.cell? ⟨h, 1, none⟩ = some (.slice AL L.length cL) ∧ W_.cell? ⟨gp, 0, none⟩ = some (.int .i64 p.1) ∧ W_.cell? ⟨gp, 1, none⟩ = some (.int .i64 p.2.1) ∧ W_.cell? ⟨gp, 2, none⟩ = some (.slice Ao p.2.2.length co)) (ds := [10]) #[false, false, false, false, false, false, false, false, false, false, false] (by kernel_rfl) rfl rfl (PQ.out.held (below_drew (Below.refl _ _))) (fun hHeld => ?_); refine with_tabW ref_Send.tab6 ref_Send.bits6 (fun HT_ HW_ => ?_)
    replace PQ := Aside0.mk (PQ.out.below (below_drew (Below.refl _ _)))
    have HDR := Aside0.mk (below_drew (Below.refl W8.heap.size W8))
    revert PQ hHeld HDR
    generalize W8.drew = wv
    intro hHeld PQ HDR
    refine pure_ (i := 0) (N := some 38) (v := ?_) (a' := ?_) #[true, false, false, false, false, false, false, false, false, false, false] rfl rfl (any_of HT_.out (by kernel_rfl)) (fun _ _ _ h => h) (Or.inl ⟨by rfl, ?_⟩) ?_ ?_
    rotate_left
    ·
      intro w'
      go_simp
      with_reducible rfl
    rotate_left
    ·
      simp only [Act.put, l_1, l_2, l_3, i64_w, i32_w]
      rfl
    refine pure_ (i := 1) (N := some 39) (v := ?_) (a' := ?_) #[true, true, false, false, false, false, false, false, false, false, false] rfl rfl (any_of HT_.out (by kernel_rfl)) (fun _ _ _ h => h) (Or.inl ⟨by rfl, ?_⟩) ?_ ?_
    rotate_left
    ·
      intro w'
      go_simp
      with_reducible rfl
    rotate_left
    ·
      simp only [Act.put, l_1, l_2, l_3, i64_w, i32_w]
      rfl
    refine pure_ (i := 2) (N := some 40) (v := ?_) (a' := ?_) #[true, true, true, false, false, false, false, false, false, false, false] rfl rfl (any_of HT_.out (by kernel_rfl)) (fun _ _ _ h => h) (Or.inl ⟨by rfl, ?_⟩) ?_ ?_
    rotate_left
    ·
      intro w'
      go_simp
      with_reducible rfl
    rotate_left
    ·
      simp only [Act.put, l_1, l_2, l_3, i64_w, i32_w]
      rfl
    refine pure_ (i := 3) (N := some 41) (v := ?_) (a' := ?_) #[true, true, true, true, false, false, false, false, false, false, false] rfl rfl (any_of HT_.out (by kernel_rfl)) (fun _ _ _ h => h) (Or.inl ⟨by rfl, ?_⟩) ?_ ?_
    rotate_left
    ·
      intro w'
      go_simp
      with_reducible rfl
    rotate_left
    ·
      simp only [Act.put, l_1, l_2, l_3, i64_w, i32_w]
      rfl
    refine take_ (i := 4) (N := some 42) (v := ?_) (a' := ?_) #[true, true, true, true, true, false, false, false, false, false, false] rfl rfl (take_ofW HT_.out HW_.out (by kernel_rfl)) (fun _ _ _ h => h) (Or.inl ⟨by rfl, ?_⟩) hHeld ?_ ?_
    rotate_left
    ·
      rintro w' ⟨s0, s1, s2, s3⟩
      go_simp
      with_reducible rfl
    rotate_left
    ·
      simp only [Act.put, l_1, l_2, l_3, i64_w, i32_w]
      rfl
    refine take_ (i := 5) (N := some 43) (v := ?_) (a' := ?_) #[true, true, true, true, true, true, false, false, false, false, false] rfl rfl (take_ofW HT_.out HW_.out (by kernel_rfl)) (fun _ _ _ h => h) (Or.inl ⟨by rfl, ?_⟩) hHeld ?_ ?_
    rotate_left
    ·
      rintro w' ⟨s0, s1, s2, s3⟩
      go_simp
      with_reducible rfl
    rotate_left
    ·
      simp only [Act.put, l_1, l_2, l_3, i64_w, i32_w]
      rfl
    have HBW := Aside0.mk (Nat.le_trans HBW0.out HDR.out.size)
    replace NR := Aside0.mk (Kd.R_below NR.out HDR.out)
    have NU := Aside0.mk (NU8.out.trans (Upd.of_below (S := fun k => okS k ∨ k = h) HDR.out) (fun _ _ hk => hk))
    have HWO := Aside0.mk (Nat.le_trans HWS.out HDR.out.size)
    clear HDR NU8 HBW0 HWS
    refine one_ (i := 6) (N := some 44) #[true, true, true, true, true, true, true, false, false, false, false] rfl rfl (one_of HT_.out (by kernel_rfl)) (by decide) (fun K hK => ?_)
    refine event_step (by rfl) (bld31_ (e := 31) (.int .i64 0) (.int .i64 0) (.slice none 0 0) rfl rfl) ?_
    refine hK.out _ _ (PQ.out.held (below_alloc (Below.refl _ _) _)) (fun hHeld => ?_)
    clear hK K
    refine norm_ (a' := ?_) ?_ ?_
    rotate_left
    ·
      show Act.put _ (some 44) _ = _
      simp only [Act.put, l_1, l_2, l_3, i64_w, i32_w]
      rfl
    refine one_ (i := 7) (N := some 45) #[true, true, true, true, true, true, true, true, false, false, false] rfl rfl (one_of HT_.out (by kernel_rfl)) (by decide) (fun K hK => ?_)
    refine Kd.S_append_step (npk 5) (w0 := wv) base (by rfl) (.tmp 42) (.tmp 44) 42 31 (.agg #[.int .i64 0, .int .i64 0, .slice none 0 0]) 40 rfl Try.underlying42 net_info31 rfl (by decide) (by decide) (.slice AL L.length cL) L p [.int .i64 p.1, .int .i64 p.2.1, .slice Ao p.2.2.length co] (fun k => (okA k ∨ okp k) ∨ wv.heap.size ≤ k) okp rfl rfl (npk_mk p.1 p.2.1 NR.out) ?a1 ?a2 ?a3 (Below.refl _ _) HBW.out ?a4 ?_
    case a1 => exact fun k hk => ⟨Or.inl (Or.inr hk), fun e => (HOP.out k hk).1 (by obtain ⟨f, h0, _⟩ := PQ.out.1.2.2.2; exact h0 k e.symm)⟩
    case a2 => exact fun k hk => Or.inr hk
    case a3 => exact Kd.S_mono PQ.out.1.2.2.2 (fun k hk => ⟨Or.inl (Or.inl hk), fun h2 => (HOP.out k h2).1 hk⟩)
    case a4 => exact HLEN.out
    intro v1 wn hS hb1 hg1 hat1
    obtain ⟨Av, cv, hv1⟩ := Kd.S_slice hS
    rw [List.length_append, List.length_singleton] at hv1
    subst hv1
    have SM := Aside0.mk (PQ.out.grown (by decide) (ok1 := fun k => (okA k ∨ okp k) ∨ wv.heap.size ≤ k) hS hg1 (net_ok1 PQ.out.1.2.1 HOP.out (blk_lt PQ.out.1.2.2.1)))
    clear hS hb1 hg1 hat1
    refine hK.out _ _ SM.out.1 (fun hHeld => ?_)
    clear hK K
    refine norm_ (a' := ?_) ?_ ?_
    rotate_left
    ·
      show Act.put _ (some 45) _ = _
      simp only [Act.put, l_1, l_2, l_3, i64_w, i32_w]
      rfl
    refine pure_ (i := 8) (N := some 46) (v := ?_) (a' := ?_) #[true, true, true, true, true, true, true, true, true, false, false] rfl rfl (any_of HT_.out (by kernel_rfl)) (fun _ _ _ h => h) (Or.inl ⟨by rfl, ?_⟩) ?_ ?_
    rotate_left
    ·
      intro w'
      go_simp
      with_reducible rfl
    rotate_left
    ·
      simp only [Act.put, l_1, l_2, l_3, i64_w, i32_w]
      rfl
    refine pure_ (i := 9) (N := some 47) (v := ?_) (a' := ?_) #[true, true, true, true, true, true, true, true, true, true, false] rfl rfl (any_of HT_.out (by kernel_rfl)) (fun _ _ _ h => h) (Or.inl ⟨by rfl, ?_⟩) ?_ ?_
    rotate_left
    ·
      intro w'
      go_simp
      with_reducible rfl
    rotate_left
    ·
      simp only [Act.put, l_1, l_2, l_3, i64_w, i32_w]
      rfl
    have z1 := SM.out.1.1
    have z2 := SM.out.2.1
    refine last_ (i := 10) (N := none) #[true, true, true, true, true, true, true, true, true, true, true] rfl rfl (one_of HT_.out (by kernel_rfl)) (by decide) (fun K hK => ?_)
    refine skip_ (w1 := ?_) (by rfl) rfl ?_ ?_
    rotate_left
    ·
      go_simp
      rfl
    refine hK.out _ _ ?_
    clear hK K
    refine done_ (done_of HT_.out (by kernel_rfl)) ?_
    clear hHeld HT_ HW_ z1 z2
    have NF := Aside0.mk (SM.out.2.2.1.mono (ok' := fun k => okS k ∨ w.heap.size ≤ k) (fun k hk => by
      rcases hk with (hk | hk) | hk
      · exact Or.inl (HSUB.out k hk)
      · exact Or.inr (HPS.out k hk)
      · exact Or.inr (Nat.le_trans HWO.out hk)) (fun hk => hk.elim HNG.out (fun h2 => absurd HGL.out (Nat.not_lt.2 h2))))
    have NU2 := Aside0.mk (show Upd (fun k => okS k ∨ k = h) w _ from NU.out.trans SM.out.2.2.2.1 (fun k hk h => h.imp (HSUB.out k) id))
    clear SM NU PQ NR
    generalize wn.setCell ⟨h, 1, none⟩ (.slice Av (L.length + 1) cv) = W9 at *
    go_wp2
    go_ret
    exact ⟨_, rfl, NF.out, NU2.out⟩
theorem ref_Send.good (x y : Int) (b : List Int) (A : Option Addr) (c : Nat) (room c0 c1 c2 c3 : Int) (L : List NP) (v : Value) (base h : Nat) (okS okF : Nat → Prop) (R : List NP × Int × Int × Int) (w : World) (hN : NetAt 45 31 5 w base h okS room L c0 c1 c2 c3 v) (hbw : base ≤ w.heap.size) (hF : Kd.F (Kd.int .u8) w okF A b.length b) (hc : b.length ≤ c) (hFS : ∀ k, okF k → ¬ okS k ∧ k ≠ h) (hroom : room ≤ 65536) (hbl : b.length < 140737488355328)
    (hR : net_send room [(x, y, b)] L c0 c1 0 = R) :
    Calls Try.prog 21 #[.pointer (some ⟨h, 0, none⟩), .agg #[.int .i64 x, .int .i64 y, .slice A b.length c]] w (ref_sent w base h okS room c2 c3 R) := by
  refine (ref_Send.some0_ x y b A c room c0 c1 c2 c3 L v base h (fun k => okS k ∧ k < w.heap.size) (fun k => okF k ∧ k < w.heap.size) R w (fun k hk => hk.2) hN.bound hbw (Kd.F_bound hF) hc (fun k hk => ⟨hk.2, fun h => (hFS k hk.1).1 h.1, (hFS k hk.1).2⟩) hroom hbl hR).mono ?_
  rintro e w' ⟨v', he, hn, hu⟩
  exact ⟨v', he, hn.mono (fun k hk => hk.imp (·.1) id) (fun hk => hk.elim hN.2.1 (fun h2 => absurd (blk_lt hN.2.2.1) (Nat.not_lt.2 h2))), hu.mono (fun k _ hk => hk.imp (·.1) id)⟩
/-! ### pelotonref17_Rest: function 24 -/
def pelotonref17_Rest.f (a0 : Int) (a1 : Int) : Option (Int) := if a1 = 0 then (none) else (some (Int.tmod (wrap64 ((Int.tmod a0 a1) + a1)) a1))
set_option maxHeartbeats 60000000 in
set_option maxRecDepth 100000 in
theorem pelotonref17_Rest.calls (a0 : Int) (a1 : Int) (r : Int) (w : World) (h : pelotonref17_Rest.f a0 a1 = some r) :
  Calls Try.prog 24 #[.int .i64 a0, .int .i64 a1] w fun e w' => e = .returned (.int .i64 r) ∧ Drawn0 w w' := by
 have H : (if a1 = 0 then (none) else (some (Int.tmod (wrap64 ((Int.tmod a0 a1) + a1)) a1))) = some r := h
 clear h
 by_cases c3 : a1 = 0
 ·
  rw [if_pos c3] at H
  exact absurd H (by simp)
 rw [if_neg c3] at H
 have c3b0 : (a1 == 0) = false := beq_eq_false_iff_ne.mpr c3
 have c3b1 : (a1 != 0) = true := bne_iff_ne.mpr c3
 obtain rfl := Option.some.inj H
 go_enter Try.func24, Try.ntmps24
 go_wp2
 go_ret
 exact ⟨by first | rfl | (simp; done) | (simp [*]; done), by repeat (first | exact Drawn0.refl _ | apply Drawn0.step)⟩

end Go.Proofs.Ytpaamdppobcmnaa.QNetActs
