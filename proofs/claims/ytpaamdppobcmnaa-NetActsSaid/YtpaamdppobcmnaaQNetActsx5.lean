-- Written by a program of this session (a turned copy of the print) out of the translation. Lean checks it.
import Derived.Test.YtpaamdppobcmnaaQNetActsx0
import Derived.Test.YtpaamdppobcmnaaQNetActsx1
import Derived.Test.YtpaamdppobcmnaaQNetActsx2
import Derived.Test.YtpaamdppobcmnaaQNetActsx3
import Derived.Test.YtpaamdppobcmnaaQNetActsx4
namespace Go.Proofs.Ytpaamdppobcmnaa.QNetActs
open Go.RowKit Go.Proofs.YtpaamdppobcmnaaW.PrintWords Go.Proofs.YtpaamdppobcmnaaW.PrintLast Go.Proofs.YtpaamdppobcmnaaW.PrintMore
attribute [local go_sem] max2_int min2_int max_two min_two max_three min_three max_four min_four   -- for this text's walks alone
open Go.Proofs.YtpaamdppobcmnaaW.PrintWords renaming below_alloc → b_a, pw_below_drewN → b_n, below_drew1 → b_d, below_set → b_s, blk_drewN → k_n, blk_drew → k_d, blk_alloc → k_a
open List renaming setIfInBounds_toArray → l_1, set_cons_zero → l_2, set_cons_succ → l_3, map_toArray → l_4, map_cons → l_5, map_nil → l_6, length_drop → l_7, length_take → l_8
set_option linter.unusedVariables false
set_option linter.unusedSimpArgs false

/-! ### pelotonlaw17_does: function 16, by hand -/
def does.T22 : Bool × List (List Nat × List Nat) := (true, [([], []), ([], []), ([1], [1]), ([2], [2]), ([3], [3]), ([], []), ([5], [5]), ([4, 6], [4, 6]), ([0, 0, 1, 2, 3, 4, 5, 6, 7], [0]), ([8, 0, 1, 2, 3, 4, 5, 6, 7], [8]), ([9, 7, 7, 0, 1, 2, 3, 4, 5, 6, 7], [7, 9])])
def does.B22 : List Nat := [0, 0, 2, 6, 14, 0, 32, 126, 255, 511, 1023]
theorem does.tab22 : rtab .any (opsOf Try.f16 22) = does.T22 := by kernel_rfl
theorem does.bits22 : waitsOk does.T22.2 does.B22 = true := by kernel_rfl
def does.T15 : Bool × List (List Nat × List Nat) := (true, [([], []), ([0], [0]), ([1], [1]), ([2], [2]), ([], []), ([4], [4]), ([], []), ([5, 6], [5, 6]), ([3, 7], [3, 7]), ([8], [8]), ([], []), ([10, 9, 7, 0, 1, 2, 3, 4, 5, 6, 7, 8, 9, 10], [9, 10])])
def does.B15 : List Nat := [0, 1, 3, 7, 0, 16, 0, 112, 255, 511, 0, 2047]
theorem does.tab15 : rtab .any (opsOf Try.f16 15) = does.T15 := by kernel_rfl
theorem does.bits15 : waitsOk does.T15.2 does.B15 = true := by kernel_rfl
def does.T17 : Bool × List (List Nat × List Nat) := (true, [([], []), ([], []), ([1], [1]), ([2], [2]), ([3], [3]), ([], []), ([5], [5]), ([4, 6], [4, 6]), ([0, 0, 1, 2, 3, 4, 5, 6, 7], [0]), ([8, 0, 1, 2, 3, 4, 5, 6, 7], [8]), ([9, 7, 7, 0, 1, 2, 3, 4, 5, 6, 7], [7, 9])])
def does.B17 : List Nat := [0, 0, 2, 6, 14, 0, 32, 126, 255, 511, 1023]
theorem does.tab17 : rtab .any (opsOf Try.f16 17) = does.T17 := by kernel_rfl
theorem does.bits17 : waitsOk does.T17.2 does.B17 = true := by kernel_rfl
def does.T26 : Bool × List (List Nat × List Nat) := (true, [([], []), ([0], [0]), ([1], [1]), ([2], [2]), ([], []), ([4], [4]), ([], []), ([5, 6], [5, 6]), ([3, 7], [3, 7]), ([8], [8]), ([9], [9]), ([10, 7, 0, 1, 2, 3, 4, 5, 6, 7, 8, 9, 10], [10])])
def does.B26 : List Nat := [0, 1, 3, 7, 0, 16, 0, 112, 255, 511, 1023, 2047]
theorem does.tab26 : rtab .any (opsOf Try.f16 26) = does.T26 := by kernel_rfl
theorem does.bits26 : waitsOk does.T26.2 does.B26 = true := by kernel_rfl
def does.T35 : Bool × List (List Nat × List Nat) := (true, [([], []), ([], []), ([1], [1]), ([2], [2]), ([3], [3]), ([], []), ([5], [5]), ([], []), ([6, 7], [6, 7]), ([4, 8], [4, 8]), ([9], [9]), ([0, 10, 8], [0, 10]), ([11, 11, 0, 1, 2, 3, 4, 5, 6, 7, 8, 9, 10, 11], [11])])
def does.B35 : List Nat := [0, 0, 2, 6, 14, 0, 32, 0, 224, 510, 1022, 2047, 4095]
theorem does.tab35 : rtab .any (opsOf Try.f16 35) = does.T35 := by kernel_rfl
theorem does.bits35 : waitsOk does.T35.2 does.B35 = true := by kernel_rfl
def does.T4 : Bool × List (List Nat × List Nat) := (true, [([], []), ([], []), ([1], [1]), ([2], [2]), ([0, 3], [0, 3]), ([], []), ([], []), ([6], [6]), ([5, 7, 4], [5, 7]), ([4, 8], [4, 8]), ([9, 8, 0, 1, 2, 3, 4, 5, 6, 7, 8, 9], [9])])
def does.B4 : List Nat := [0, 0, 2, 6, 15, 0, 0, 64, 255, 511, 1023]
theorem does.tab4 : rtab .any (opsOf Try.f16 4) = does.T4 := by kernel_rfl
theorem does.bits4 : waitsOk does.T4.2 does.B4 = true := by kernel_rfl
/-! two nets side by side: the program's (LS) and the document's (NetAt 45) -/
def D2 (w W : World) (g h : Nat) (free : Nat → Prop) (room : Int) (LN : List NP) (n0 n1 n2 n3 : Int) (LR : List NP) (r0 r1 r2 r3 : Int) : Prop :=
  (w.heap.size ≤ h ∧ ¬ free h ∧ ∀ k, free k → k < W.heap.size) ∧ ∃ (okr : Nat → Prop) (vr : Value), NetAt 45 31 5 W w.heap.size h okr room LR r0 r1 r2 r3 vr ∧ (∀ k, okr k → w.heap.size ≤ k ∧ k < W.heap.size ∧ ¬ free k) ∧ LS w W g (fun k => free k ∨ okr k ∨ k = h) room LN n0 n1 n2 n3
section
variable {w W W' : World} {g h gb : Nat} {free free' : Nat → Prop} {room n0 n1 n2 n3 r0 r1 r2 r3 m0 m1 m2 m3 : Int} {LN LR LN' : List NP}
theorem D2.bel (H : D2 w W g h free room LN n0 n1 n2 n3 LR r0 r1 r2 r3) : Below w.heap.size w W := H.2.choose_spec.choose_spec.2.2.1
/-- what only makes -/
theorem D2.on (H : D2 w W g h free room LN n0 n1 n2 n3 LR r0 r1 r2 r3) (hb : Below W.heap.size W W') : ∃ fr : Nat → Prop, (∀ k, free k → fr k) ∧ (∀ k, W.heap.size ≤ k → k < W'.heap.size → fr k) ∧ D2 w W' g h fr room LN n0 n1 n2 n3 LR r0 r1 r2 r3 := by
  obtain ⟨h1, okr, vr, hn, h2, hs⟩ := H
  have hlt := blk_lt hn.2.2.1
  refine ⟨fun k => free k ∨ (W.heap.size ≤ k ∧ k < W'.heap.size), fun k hk => Or.inl hk, fun k a b => Or.inr ⟨a, b⟩, ⟨h1.1, fun e => e.elim h1.2.1 (fun e => by omega), fun k hk => hk.elim (fun e => Nat.lt_of_lt_of_le (h1.2.2 k e) hb.size) (fun e => e.2)⟩, okr, vr, hn.below hb, fun k hk => ⟨(h2 k hk).1, Nat.lt_of_lt_of_le (h2 k hk).2.1 hb.size, fun e => e.elim (h2 k hk).2.2 (fun e => by have := (h2 k hk).2.1; omega)⟩, (hs.below hb).less (fun k hk => ?_)⟩
  rcases hk with (hk | hk) | hk | hk
  · exact Or.inl (Or.inl hk)
  · exact Or.inr hk
  · exact Or.inl (Or.inr (Or.inl hk))
  · exact Or.inl (Or.inr (Or.inr hk))
theorem D2.drw (H : D2 w W g h free room LN n0 n1 n2 n3 LR r0 r1 r2 r3) : D2 w W.drew g h free room LN n0 n1 n2 n3 LR r0 r1 r2 r3 := by
  obtain ⟨h1, okr, vr, hn, h2, hs⟩ := H
  exact ⟨h1, okr, vr, hn.drew, h2, hs.drw⟩
theorem D2.put (H : D2 w W g h free room LN n0 n1 n2 n3 LR r0 r1 r2 r3) (hu : Upd (fun k => k = gb) W W') (hf : free gb) (hb : w.heap.size ≤ gb) : D2 w W' g h free room LN n0 n1 n2 n3 LR r0 r1 r2 r3 := by
  obtain ⟨h1, okr, vr, hn, h2, hs⟩ := H
  exact ⟨⟨h1.1, h1.2.1, fun k hk => Nat.lt_of_lt_of_le (h1.2.2 k hk) hu.size⟩, okr, vr, hn.upd hu (fun k hk _ e => (h2 k hk).2.2 (by have e' : k = gb := e; rw [e']; exact hf)) (fun e => h1.2.1 (by have e' : h = gb := e; rw [e']; exact hf)), fun k hk => ⟨(h2 k hk).1, Nat.lt_of_lt_of_le (h2 k hk).2.1 hu.size, (h2 k hk).2.2⟩, hs.put hu (Or.inl hf) hb⟩
/-- a call on the program's net -/
theorem D2.net (H : D2 w W g h free room LN n0 n1 n2 n3 LR r0 r1 r2 r3) : ∃ fs : Nat → Prop, LS w W g fs room LN n0 n1 n2 n3 ∧ (∀ k, free k → fs k) ∧
    ∀ {W' : World} {fs' : Nat → Prop} {LN' : List NP} {m0 m1 m2 m3 : Int}, LS w W' g fs' room LN' m0 m1 m2 m3 → (∀ k, fs k → fs' k) → Upd (fun k => ¬ fs k) W W' → ∃ fr : Nat → Prop, (∀ k, free k → fr k) ∧ (∀ k, fs' k → ¬ fs k → fr k) ∧ D2 w W' g h fr room LN' m0 m1 m2 m3 LR r0 r1 r2 r3 ∧ Upd (fun k => ¬ free k) W W' := by
  obtain ⟨h1, okr, vr, hn, h2, hs⟩ := H
  refine ⟨_, hs, fun k hk => Or.inl hk, fun {W'} {fs'} {LN'} {m0} {m1} {m2} {m3} hs' hsub hu => ⟨fun k => free k ∨ (fs' k ∧ ¬ (free k ∨ okr k ∨ k = h)), fun k hk => Or.inl hk, fun k a b => Or.inr ⟨a, b⟩, ⟨⟨h1.1, fun e => e.elim h1.2.1 (fun e => e.2 (Or.inr (Or.inr rfl))), fun k hk => hs'.2.1.2.2 k (hk.elim (fun e => hsub k (Or.inl e)) (fun e => e.1))⟩, okr, vr, hn.upd hu (fun k hk _ e => e (Or.inr (Or.inl hk))) (fun e => e (Or.inr (Or.inr rfl))), fun k hk => ⟨(h2 k hk).1, Nat.lt_of_lt_of_le (h2 k hk).2.1 hu.size, fun e => e.elim (h2 k hk).2.2 (fun e => e.2 (Or.inr (Or.inl hk)))⟩, hs'.less (fun k hk => ?_)⟩, hu.mono (fun k _ hk e => hk (Or.inl e))⟩⟩
  rcases hk with (hk | hk) | hk | hk
  · exact hsub k (Or.inl hk)
  · exact hk.1
  · exact hsub k (Or.inr (Or.inl hk))
  · exact hsub k (Or.inr (Or.inr hk))
/-- blocks of the document's net are turned: the program's stays -/
theorem LS.grown {S : Nat → Prop} {c0 c1 c2 c3 : Int} {L : List NP} (H : LS w W g free room L c0 c1 c2 c3) (hu : Upd S W W') (hS : ∀ k, S k → free k ∧ w.heap.size ≤ k) : LS w W' g (fun k => free k ∨ (W.heap.size ≤ k ∧ k < W'.heap.size)) room L c0 c1 c2 c3 := by
  obtain ⟨h1, h2, ok, v, hn, h3⟩ := H
  have hg := blk_lt hn.2.2.1
  exact ⟨Upd.belowB h1 h1.size hu (fun k e => (hS k e).2), ⟨h2.1, fun e => e.elim h2.2.1 (fun e => by omega), fun k hk => hk.elim (fun e => Nat.lt_of_lt_of_le (h2.2.2 k e) hu.size) (fun e => e.2)⟩, ok, v, hn.upd hu (fun k hk _ e => (h3 k hk).2.2 (hS k e).1) (fun e => h2.2.1 (hS g e).1), fun k hk => ⟨(h3 k hk).1, Nat.lt_of_lt_of_le (h3 k hk).2.1 hu.size, fun e => e.elim (h3 k hk).2.2 (fun e => by have := (h3 k hk).2.1; omega)⟩⟩
/-- a call on the document's net -/
theorem D2.ref (H : D2 w W g h free room LN n0 n1 n2 n3 LR r0 r1 r2 r3) : ∃ (okr : Nat → Prop) (vr : Value), NetAt 45 31 5 W w.heap.size h okr room LR r0 r1 r2 r3 vr ∧ (∀ k, free k → ¬ okr k ∧ k ≠ h) ∧ (∀ k, okr k → k < W.heap.size) ∧
    ∀ {W' : World} {ok' okp : Nat → Prop} {vr' : Value} {LR' : List NP} {m0 m1 m2 m3 : Int}, NetAt 45 31 5 W' w.heap.size h ok' room LR' m0 m1 m2 m3 vr' → (∀ k, ok' k → okr k ∨ W.heap.size ≤ k) → (∀ k, okp k → (okr k ∨ (W.heap.size ≤ k ∧ k < W'.heap.size)) ∧ ¬ ok' k) → Upd (fun k => okr k ∨ k = h) W W' → ∃ fr : Nat → Prop, (∀ k, free k → fr k) ∧ (∀ k, okp k → fr k) ∧ D2 w W' g h fr room LN n0 n1 n2 n3 LR' m0 m1 m2 m3 ∧ Upd (fun k => ¬ free k) W W' := by
  obtain ⟨h1, okr, vr, hn, h2, hs⟩ := H
  have hlt := blk_lt hn.2.2.1
  refine ⟨okr, vr, hn, fun k hk => ⟨fun e => (h2 k e).2.2 hk, fun e => h1.2.1 (by rw [← e]; exact hk)⟩, fun k hk => (h2 k hk).2.1, fun {W'} {ok'} {okp} {vr'} {LR'} {m0} {m1} {m2} {m3} hn' hsub hp hu => ⟨fun k => free k ∨ okp k, fun k hk => Or.inl hk, fun k hk => Or.inr hk, ⟨⟨h1.1, fun e => e.elim h1.2.1 (fun e => (hp h e).1.elim hn.2.1 (fun e => by omega)), fun k hk => hk.elim (fun e => Nat.lt_of_lt_of_le (h1.2.2 k e) hu.size) (fun e => (hp k e).1.elim (fun e => Nat.lt_of_lt_of_le (h2 k e).2.1 hu.size) (fun e => e.2))⟩, fun k => ok' k ∧ k < W'.heap.size, vr', hn'.bound, fun k hk => ⟨(hsub k hk.1).elim (fun e => (h2 k e).1) (fun e => Nat.le_trans hs.1.size e), hk.2, fun e => e.elim (fun e => (hsub k hk.1).elim (fun e2 => (h2 k e2).2.2 e) (fun e2 => by have := h1.2.2 k e; omega)) (fun e => (hp k e).2 hk.1)⟩, (hs.grown hu (fun k hk => hk.elim (fun e => ⟨Or.inr (Or.inl e), (h2 k e).1⟩) (fun e => ⟨Or.inr (Or.inr e), by rw [e]; exact h1.1⟩))).less (fun k hk => ?_)⟩, hu.mono (fun k _ hk e => hk.elim (fun e2 => (h2 k e2).2.2 e) (fun e2 => h1.2.1 (by rw [← e2]; exact e)))⟩⟩
  rcases hk with (hk | hk) | hk | hk
  · exact Or.inl (Or.inl hk)
  · exact (hp k hk).1.elim (fun e => Or.inl (Or.inr (Or.inl e))) (fun e => Or.inr e)
  · exact (hsub k hk.1).elim (fun e => Or.inl (Or.inr (Or.inl e))) (fun e => Or.inr ⟨e, hk.2⟩)
  · exact Or.inl (Or.inr (Or.inr hk))
end
theorem stU_step {P : Program} {ops : Array Oper} {o : Oper} {a : Act} {Q : Exit → Act → World → Prop} {Kc : Act → World → Prop} {W : World} {T : TypeId} {p v : Operand} {g t : Nat} {cs cur : Array Value} (hw : Region.wanted o (yielded ops a.tmps) = true) (hd : o.dst = none) (hop : o.op = .store T p v) (hp : a.eval p = .pointer (some ⟨g, 0, none⟩)) (hv : a.eval v = .agg cs)
    (hb : W.heap[g]? = some (.cells cur t (0, 0))) (hn : cur.size = cs.size) (hi : (P.info? T).map (·.size) = some cs.size) (h1 : cs.all (·.oneCell') = true)
    (h : ∀ W' : World, W'.heap[g]? = some (.cells cs t (0, 0)) → Upd (fun k => k = g) W W' → Kc a W') : if Region.wanted o (yielded ops a.tmps) = true then Oper.wp P o a W Kc Q else Kc (a.put o.dst undef) W := by
  have hth : W.there g 0 cs.size := fun j hj => ⟨by
    rw [Nat.zero_add, blk_cell hb j, Array.getElem?_eq_getElem (by omega)]
    rfl, blk_frozen hb _⟩
  have hr := run_storeAt_mid (P := P) W g 0 T cs hth hi h1
  obtain ⟨cur', e1, e2, e3⟩ := setCells_row cs.toList 0 W cur hb (by simp; omega)
  have hc : cur' = cs := by
    apply Array.toList_inj.1
    rw [e3]
    simp [hn]
  subst hc
  rw [if_pos hw]
  unfold Oper.wp execOp
  simp only [hop, hp, hv, Sem.run_bind, hr, Result.andThen_ok]
  obtain ⟨s1, s2, s3, s4⟩ := setCells_same g cur'.toList 0 W
  have h2 := h _ e1 ⟨s1, s2, s3, Nat.le_of_eq s4.symm, fun k _ hk => setCells_far hk _ _ _⟩
  have h3 : Kc (a.put o.dst undef) (W.setCells g 0 cur'.toList) := by rw [hd]; exact h2
  exact h3
theorem R_free {W W' : World} {base : Nat} {V : Value} {l : List Int} {free : Nat → Prop} (h : (Kd.int .u8).R 5 W base (fun _ => True) V l) (hu : Upd (fun k => ¬ free k) W W') (hf : ∀ k, V.ownBlock = some k → free k) : (Kd.int .u8).R 5 W' base (fun _ => True) V l :=
  Kd.R_mono (Kd.R_step (w1 := W') (Kd.R_tight rfl h) (fun k hk hlt => hu.2.2.2.2 k hlt (fun h => h (hf k hk.symm)))) (fun _ _ => trivial)
theorem R_off {W W' : World} {base gb : Nat} {V : Value} {l : List Int} (h : (Kd.int .u8).R 5 W base (fun _ => True) V l) (hu : Upd (fun k => k = gb) W W') (hf : ∀ k, V.ownBlock = some k → k ≠ gb) : (Kd.int .u8).R 5 W' base (fun _ => True) V l :=
  Kd.R_mono (Kd.R_step (w1 := W') (Kd.R_tight rfl h) (fun k hk hlt => hu.2.2.2.2 k hlt (hf k hk.symm))) (fun _ _ => trivial)
theorem R_fresh {W : World} {base gb : Nat} {V : Value} {l : List Int} (h : (Kd.int .u8).R 5 W base (fun _ => True) V l) (hg : gb = W.heap.size) : ∀ k, V.ownBlock = some k → k ≠ gb := fun k hk e => by have := Kd.R_lt h k hk; omega
set_option maxHeartbeats 8000000 in
set_option maxRecDepth 100000 in
theorem net_Net_Back.none_ (a room c0 c1 c2 c3 : Int) (v : Value) (base g : Nat) (ok : Nat → Prop) (w : World) (hN : NetAt 52 31 5 w base g ok room [] c0 c1 c2 c3 v) :
    Calls Try.prog 9 #[.pointer (some ⟨g, 0, none⟩), .int .i64 a] w fun e w' => e = .returned (.bool false) ∧ Below w.heap.size w w' := by
  have HS := Aside0.mk hN
  have HB := Aside0.mk (Below.refl w.heap.size w)
  clear hN
  have hu31 := Try.underlying31
  go_enter Try.func9, Try.ntmps9
  go_wp2_with (first
    | (go_at_call 19; (with_reducible refine (net_Net_pull.none_ a room c0 c1 c2 c3 _ base g ok _ HS.out).mono ?_); rintro e wn ⟨rfl, hb⟩; replace HB := Aside0.mk (below_step HB.out hb); clear hb)
    | ((with_reducible refine gate_dst (N := 5) rfl ?_); refine box_event ?hg (N := 5) ?hd (cs := #[.int .i64 0, .int .i64 0, .slice none 0 0]) (t := 31) ?hr ?_; (case hd => rfl); (case hg => rfl); (case hr => first | (go_simp; done) | (go_simp; rfl)); intro g6 hg_ w6 hbox hbb; have HG6 := Aside0.mk (show w.heap.size ≤ g6 from by rw [hg_]; exact HB.out.size); replace HB := Aside0.mk (below_step HB.out hbb); clear hg_ hbb;
       (with_reducible refine gate_store_ rfl ?_); refine stU_ rfl rfl rfl rfl rfl hbox rfl (by kernel_rfl) (by simp [Value.oneCell']) ?_; intro W7 hW1 hW2; clear hbox; replace HB := Aside0.mk (Upd.belowB HB.out HB.out.size hW2 (fun k hk => by have h5 : k = g6 := hk; have := HG6.out; omega)); clear hW1 hW2))
  go_ret
  exact ⟨rfl, HB.out⟩
section
variable {w W W' : World} {g h : Nat} {free : Nat → Prop} {room n0 n1 n2 n3 r0 r1 r2 r3 : Int} {LN LR : List NP}
theorem D2.at_ (H : D2 w W g h free room LN n0 n1 n2 n3 LR r0 r1 r2 r3) : ∃ (ok : Nat → Prop) (v : Value), NetAt 52 31 5 W w.heap.size g ok room LN n0 n1 n2 n3 v := by
  obtain ⟨_, okr, vr, _, _, hs⟩ := H
  obtain ⟨_, _, ok, v, hn, _⟩ := hs
  exact ⟨ok, v, hn⟩
theorem D2.rat (H : D2 w W g h free room LN n0 n1 n2 n3 LR r0 r1 r2 r3) : ∃ (ok : Nat → Prop) (v : Value), NetAt 45 31 5 W w.heap.size h ok room LR r0 r1 r2 r3 v := by
  obtain ⟨_, okr, vr, hn, _⟩ := H
  exact ⟨okr, vr, hn⟩
/-- the document's net takes blocks in that were free -/
theorem D2.refx {P : Nat → Prop} (H : D2 w W g h free room LN n0 n1 n2 n3 LR r0 r1 r2 r3) (hP : ∀ k, P k → free k ∧ w.heap.size ≤ k) : ∃ (okr : Nat → Prop) (vr : Value), NetAt 45 31 5 W w.heap.size h okr room LR r0 r1 r2 r3 vr ∧ (∀ k, free k → ¬ okr k ∧ k ≠ h) ∧ (∀ k, okr k → k < W.heap.size) ∧
    ∀ {W' : World} {ok' : Nat → Prop} {vr' : Value} {LR' : List NP} {m0 m1 m2 m3 : Int}, NetAt 45 31 5 W' w.heap.size h ok' room LR' m0 m1 m2 m3 vr' → (∀ k, ok' k → (okr k ∨ P k) ∨ W.heap.size ≤ k) → Upd (fun k => okr k ∨ k = h) W W' → D2 w W' g h (fun k => free k ∧ ¬ P k) room LN n0 n1 n2 n3 LR' m0 m1 m2 m3 := by
  obtain ⟨h1, okr, vr, hn, h2, hs⟩ := H
  have hlt := blk_lt hn.2.2.1
  refine ⟨okr, vr, hn, fun k hk => ⟨fun e => (h2 k e).2.2 hk, fun e => h1.2.1 (by rw [← e]; exact hk)⟩, fun k hk => (h2 k hk).2.1, fun {W'} {ok'} {vr'} {LR'} {m0} {m1} {m2} {m3} hn' hsub hu => ⟨⟨h1.1, fun e => h1.2.1 e.1, fun k hk => Nat.lt_of_lt_of_le (h1.2.2 k hk.1) hu.size⟩, fun k => ok' k ∧ k < W'.heap.size, vr', hn'.bound, fun k hk => ⟨?_, hk.2, ?_⟩, (hs.grown hu (fun k hk => hk.elim (fun e => ⟨Or.inr (Or.inl e), (h2 k e).1⟩) (fun e => ⟨Or.inr (Or.inr e), by rw [e]; exact h1.1⟩))).less (fun k hk => ?_)⟩⟩
  · rcases hsub k hk.1 with (e | e) | e
    · exact (h2 k e).1
    · exact (hP k e).2
    · exact Nat.le_trans hs.1.size e
  · intro e
    rcases hsub k hk.1 with (e2 | e2) | e2
    · exact (h2 k e2).2.2 e.1
    · exact e.2 e2
    · have := h1.2.2 k e.1
      omega
  · rcases hk with hk | hk | hk
    · exact Or.inl (Or.inl hk.1)
    · rcases hsub k hk.1 with (e2 | e2) | e2
      · exact Or.inl (Or.inr (Or.inl e2))
      · exact Or.inl (Or.inl (hP k e2).1)
      · exact Or.inr ⟨e2, hk.2⟩
    · exact Or.inl (Or.inr (Or.inr hk))
theorem LS.take2 {c0 c1 c2 c3 : Int} {L : List NP} (a : Int) (h : LS w W g free room L c0 c1 c2 c3) (h0 : 0 < L.length) (h1 : (L.length : Int) ≤ 70000) (i : Nat) (p : NP) (hi : (net_idx a L.length).toNat = i) (hp : L.getD i (0, 0, []) = p) :
    Calls Try.prog 10 #[.pointer (some ⟨g, 0, none⟩), .int .i64 a] W fun e w' => ∃ (A : Option Addr) (c : Nat) (fp free' : Nat → Prop), e = .returned (.tuple #[.agg #[.int .i64 p.1, .int .i64 p.2.1, .slice A p.2.2.length c], .bool true]) ∧ (∀ k, free k → free' k) ∧ (∀ k, fp k → free' k ∧ ¬ free k) ∧ p.2.2.length ≤ c ∧ Kd.F (Kd.int .u8) w' fp A p.2.2.length p.2.2 ∧ LS w w' g free' room (L.eraseIdx i) c0 c1 (wrap64 (c2 + 1)) c3 ∧ Upd (fun k => ¬ free k) W w' := by
  obtain ⟨h2, h3, ok, v, hn, h4⟩ := h
  subst hi; subst hp
  refine (net_Net_Take.some_ a room c0 c1 c2 c3 L v _ g ok W hn h0 (by omega)).mono ?_
  rintro e w' ⟨okp, vb, v', he, hR, hok, hn', hu⟩
  obtain ⟨A, c, rfl, hl, _⟩ := Kd.R_reads hR
  have hR2 := Kd.R_bound hR
  refine ⟨A, c, fun k => okp k ∧ k < w'.heap.size, fun k => free k ∨ (okp k ∧ k < w'.heap.size), he, fun k hk => Or.inl hk, fun k hk => ⟨Or.inr hk, (h4 k (hok k hk.1)).2.2⟩, hl, ?_, ⟨Upd.belowB h2 h2.size hu (fun k hk => hk.elim (fun e => (h4 k e).1) (fun e => by have e' : k = g := e; omega)), ⟨h3.1, fun e => e.elim h3.2.1 (fun e => hn.2.1 (hok g e.1)), fun k hk => hk.elim (fun e => Nat.lt_of_lt_of_le (h3.2.2 k e) hu.size) (fun e => e.2)⟩, _, v', hn'.bound, fun k hk => ⟨(h4 k hk.1.1).1, hk.2, fun e => e.elim (h4 k hk.1.1).2.2 (fun e => hk.1.2 e.1)⟩⟩, hu.mono (fun k _ hk => hk.elim (fun e => (h4 k e).2.2) (fun e => by have e' : k = g := e; rw [e']; exact h3.2.1))⟩
  intro W2 hW2
  have h5 := Kd.R_step (w1 := W2) hR2 (fun k hk hlt => hW2 k ⟨hk.1, hk.2.2.1⟩ hlt)
  exact (Kd.R_reads' h5).2.2
theorem D2.take (a : Int) (H : D2 w W g h free room LN n0 n1 n2 n3 LR r0 r1 r2 r3) (h0 : 0 < LN.length) (h1 : (LN.length : Int) ≤ 70000) (i : Nat) (p : NP) (hi : (net_idx a LN.length).toNat = i) (hp : LN.getD i (0, 0, []) = p) :
    Calls Try.prog 10 #[.pointer (some ⟨g, 0, none⟩), .int .i64 a] W fun e w' => ∃ (A : Option Addr) (c : Nat) (fp fr : Nat → Prop), e = .returned (.tuple #[.agg #[.int .i64 p.1, .int .i64 p.2.1, .slice A p.2.2.length c], .bool true]) ∧ p.2.2.length ≤ c ∧ Kd.F (Kd.int .u8) w' fp A p.2.2.length p.2.2 ∧ (∀ k, fp k → fr k) ∧ (∀ k, free k → fr k) ∧ D2 w w' g h fr room (LN.eraseIdx i) n0 n1 (wrap64 (n2 + 1)) n3 LR r0 r1 r2 r3 ∧ Upd (fun k => ¬ free k) W w' := by
  obtain ⟨fs, hs, hf, hup⟩ := H.net
  refine (LS.take2 a hs h0 h1 i p hi hp).mono ?_
  rintro e w' ⟨A, c, fp, fs', he, hsub, hfp, hl, hF, hst, hu⟩
  obtain ⟨fr, k1, k2, k3, k4⟩ := hup hst hsub hu
  exact ⟨A, c, fp, fr, he, hl, hF, fun k hk => k2 k (hfp k hk).1 (hfp k hk).2, k1, k3, k4⟩
theorem LS.lose {c0 c1 c2 c3 : Int} {L : List NP} (a : Int) (h : LS w W g free room L c0 c1 c2 c3) (h0 : 0 < L.length) (h1 : (L.length : Int) ≤ 70000) (i : Nat) (hi : (net_idx a L.length).toNat = i) :
    Calls Try.prog 23 #[.pointer (some ⟨g, 0, none⟩), .int .i64 a] W fun e w' => e = .returned (.bool true) ∧ LS w w' g free room (L.eraseIdx i) c0 c1 c2 (wrap64 (c3 + 1)) ∧ Upd (fun k => ¬ free k) W w' := by
  obtain ⟨h2, h3, ok, v, hn, h4⟩ := h
  subst hi
  refine (net_Net_Lose.some_ a room c0 c1 c2 c3 L v _ g ok W hn h0 (by omega)).mono ?_
  rintro e w' ⟨ok', v', he, hn', hok, hu⟩
  exact ⟨he, ⟨Upd.belowB h2 h2.size hu (fun k hk => hk.elim (fun e => (h4 k e).1) (fun e => by have e' : k = g := e; omega)), ⟨h3.1, h3.2.1, fun k hk => Nat.lt_of_lt_of_le (h3.2.2 k hk) hu.size⟩, _, v', hn'.bound, fun k hk => ⟨(h4 k (hok k hk.1)).1, hk.2, (h4 k (hok k hk.1)).2.2⟩⟩, hu.mono (fun k _ hk => hk.elim (fun e => (h4 k e).2.2) (fun e => by have e' : k = g := e; rw [e']; exact h3.2.1))⟩
theorem D2.lose (a : Int) (H : D2 w W g h free room LN n0 n1 n2 n3 LR r0 r1 r2 r3) (h0 : 0 < LN.length) (h1 : (LN.length : Int) ≤ 70000) (i : Nat) (hi : (net_idx a LN.length).toNat = i) :
    Calls Try.prog 23 #[.pointer (some ⟨g, 0, none⟩), .int .i64 a] W fun e w' => ∃ fr : Nat → Prop, e = .returned (.bool true) ∧ (∀ k, free k → fr k) ∧ D2 w w' g h fr room (LN.eraseIdx i) n0 n1 n2 (wrap64 (n3 + 1)) LR r0 r1 r2 r3 ∧ Upd (fun k => ¬ free k) W w' := by
  obtain ⟨fs, hs, hf, hup⟩ := H.net
  refine (LS.lose a hs h0 h1 i hi).mono ?_
  rintro e w' ⟨he, hst, hu⟩
  obtain ⟨fr, k1, k2, k3, k4⟩ := hup hst (fun k hk => hk) hu
  exact ⟨fr, he, k1, k3, k4⟩
theorem D2.back (a : Int) (H : D2 w W g h free room LN n0 n1 n2 n3 LR r0 r1 r2 r3) (h0 : 0 < LN.length) (h1 : (LN.length : Int) ≤ 70000) (i : Nat) (p : NP) (hi : (net_idx a LN.length).toNat = i) (hp : LN.getD i (0, 0, []) = p) :
    Calls Try.prog 9 #[.pointer (some ⟨g, 0, none⟩), .int .i64 a] W fun e w' => ∃ fr : Nat → Prop, e = .returned (.bool true) ∧ (∀ k, free k → fr k) ∧ D2 w w' g h fr room (LN.eraseIdx i ++ [p]) n0 n1 n2 n3 LR r0 r1 r2 r3 ∧ Upd (fun k => ¬ free k) W w' := by
  subst hi; subst hp
  obtain ⟨fs, hs, hf, hup⟩ := H.net
  refine (LS.back a hs h0 h1).mono ?_
  rintro e w' ⟨he, hst, hu⟩
  obtain ⟨fr, k1, k2, k3, k4⟩ := hup hst (fun k hk => hk) hu
  exact ⟨fr, he, k1, k3, k4⟩
theorem D2.double (a : Int) (H : D2 w W g h free room LN n0 n1 n2 n3 LR r0 r1 r2 r3) (h0 : 0 < LN.length) (hr : (LN.length : Int) < room) (hroom : room ≤ 65536) (i : Nat) (p : NP) (hi : (net_idx a LN.length).toNat = i) (hp : LN.getD i (0, 0, []) = p) (hbl : p.2.2.length < 140737488355328) :
    Calls Try.prog 14 #[.pointer (some ⟨g, 0, none⟩), .int .i64 a] W fun e w' => ∃ fr : Nat → Prop, e = .returned (.bool true) ∧ (∀ k, free k → fr k) ∧ D2 w w' g h fr room (LN ++ [p]) n0 n1 n2 n3 LR r0 r1 r2 r3 ∧ Upd (fun k => ¬ free k) W w' := by
  obtain ⟨fs, hs, hf, hup⟩ := H.net
  refine (LS.double a hs h0 hr hroom i p hi hp hbl).mono ?_
  rintro e w' ⟨he, hst, hu⟩
  obtain ⟨fr, k1, k2, k3, k4⟩ := hup hst (fun k hk => hk) hu
  exact ⟨fr, he, k1, k3, k4⟩
theorem D2.spoil (a b x : Int) (H : D2 w W g h free room LN n0 n1 n2 n3 LR r0 r1 r2 r3) (h0 : 0 < LN.length) (h1 : (LN.length : Int) ≤ 70000) (i : Nat) (hi : (net_idx a LN.length).toNat = i) (hbl : (LN.getD i (0, 0, [])).2.2.length < 140737488355328) :
    Calls Try.prog 13 #[.pointer (some ⟨g, 0, none⟩), .int .i64 a, .int .i64 b, .int .u8 x] W fun e w' => ∃ fr : Nat → Prop, e = .returned (.bool true) ∧ (∀ k, free k → fr k) ∧ D2 w w' g h fr room (net_spoil LN i b x) n0 n1 n2 n3 LR r0 r1 r2 r3 ∧ Upd (fun k => ¬ free k) W w' := by
  obtain ⟨fs, hs, hf, hup⟩ := H.net
  refine (LS.spoil a b x hs h0 h1 i hi hbl).mono ?_
  rintro e w' ⟨he, hst, hu⟩
  obtain ⟨fr, k1, k2, k3, k4⟩ := hup hst (fun k hk => hk) hu
  exact ⟨fr, he, k1, k3, k4⟩
theorem D2.look (a : Int) (H : D2 w W g h free room LN n0 n1 n2 n3 LR r0 r1 r2 r3) (h0 : 0 < LN.length) (h1 : (LN.length : Int) ≤ 70000) (i : Nat) (p : NP) (hi : (net_idx a LN.length).toNat = i) (hp : LN.getD i (0, 0, []) = p) (hbl : p.2.2.length < 140737488355328) :
    Calls Try.prog 12 #[.pointer (some ⟨g, 0, none⟩), .int .i64 a] W fun e w' => ∃ (A : Option Addr) (c : Nat), e = .returned (.tuple #[.agg #[.int .i64 p.1, .int .i64 p.2.1, .slice A p.2.2.length c], .bool true]) ∧ Kd.R (Kd.int .u8) 5 w' W.heap.size (fun _ => True) (.slice A p.2.2.length c) p.2.2 ∧ Below W.heap.size W w' := by
  obtain ⟨fs, hs, hf, hup⟩ := H.net
  exact LS.look a hs h0 h1 i p hi hp hbl
theorem D2.len (H : D2 w W g h free room LN n0 n1 n2 n3 LR r0 r1 r2 r3) : Calls Try.prog 11 #[.pointer (some ⟨g, 0, none⟩)] W fun e w' => e = .returned (.int .i64 LN.length) ∧ W = w' := by
  obtain ⟨fs, hs, hf, hup⟩ := H.net
  exact hs.len
theorem D2.send {A : Option Addr} {c : Nat} {ps : List NP} {R : List NP × Int × Int × Int} (n : Nat) (hn_ : n = ps.length) (H : D2 w W g h free room LN n0 n1 n2 n3 LR r0 r1 r2 r3) (hF : Kd.F (npk 5) W free A ps.length ps) (hc : n ≤ c) (hroom : room ≤ 65536) (hps : ps.length ≤ 4611686018427387903) (hbl : ∀ p ∈ ps, p.2.2.length < 140737488355328) (hR : net_send room ps LN n0 n1 0 = R) :
    Calls Try.prog 8 #[.pointer (some ⟨g, 0, none⟩), .slice A n c] W fun e w' => ∃ fr : Nat → Prop, e = .returned (.int .i64 R.2.2.2) ∧ (∀ k, free k → fr k) ∧ D2 w w' g h fr room R.1 R.2.1 R.2.2.1 n2 n3 LR r0 r1 r2 r3 ∧ Upd (fun k => ¬ free k) W w' := by
  obtain ⟨fs, hs, hf, hup⟩ := H.net
  refine (LS.send n hn_ hs (Kd.F_mono hF hf) hc hroom hps hbl hR).mono ?_
  rintro e w' ⟨he, hst, hu⟩
  obtain ⟨fr, k1, k2, k3, k4⟩ := hup hst (fun k hk => hk) hu
  exact ⟨fr, he, k1, k3, k4⟩
theorem D2.rsend (x y : Int) (b : List Int) (A : Option Addr) (c : Nat) {R : List NP × Int × Int × Int} (H : D2 w W g h free room LN n0 n1 n2 n3 LR r0 r1 r2 r3) (hF : Kd.F (Kd.int .u8) W free A b.length b) (hc : b.length ≤ c) (hroom : room ≤ 65536) (hbl : b.length < 140737488355328) (hR : net_send room [(x, y, b)] LR r0 r1 0 = R) :
    Calls Try.prog 21 #[.pointer (some ⟨h, 0, none⟩), .agg #[.int .i64 x, .int .i64 y, .slice A b.length c]] W fun e w' => ∃ fr : Nat → Prop, e = .returned (.int .i64 R.2.2.2) ∧ (∀ k, free k → fr k) ∧ D2 w w' g h fr room LN n0 n1 n2 n3 R.1 R.2.1 R.2.2.1 r2 r3 ∧ Upd (fun k => ¬ free k) W w' := by
  obtain ⟨okr, vr, hn, hf, hl, hup⟩ := H.ref
  refine (ref_Send.good x y b A c room r0 r1 r2 r3 LR vr _ h okr free R W hn H.bel.size hF hc hf hroom hbl hR).mono ?_
  rintro e w' ⟨v', he, hn', hu⟩
  obtain ⟨fr, k1, k2, k3, k4⟩ := hup (okp := fun _ => False) hn' (fun k hk => hk) (fun k hk => hk.elim) hu
  exact ⟨fr, he, k1, k3, k4⟩
theorem D2.rtake (a : Int) (H : D2 w W g h free room LN n0 n1 n2 n3 LR r0 r1 r2 r3) (h0 : 0 < LR.length) (h1 : (LR.length : Int) ≤ 70000) (i : Nat) (p : NP) (hi : (net_idx a LR.length).toNat = i) (hp : LR.getD i (0, 0, []) = p) :
    Calls Try.prog 22 #[.pointer (some ⟨h, 0, none⟩), .int .i64 a, .int .i64 2] W fun e w' => ∃ (A : Option Addr) (c : Nat) (fp fr : Nat → Prop), e = .returned (.tuple #[.agg #[.int .i64 p.1, .int .i64 p.2.1, .slice A p.2.2.length c], .bool true]) ∧ p.2.2.length ≤ c ∧ Kd.R (Kd.int .u8) 5 w' w.heap.size fp (.slice A p.2.2.length c) p.2.2 ∧ Kd.F (Kd.int .u8) w' fp A p.2.2.length p.2.2 ∧ (∀ k, fp k → fr k) ∧ (∀ k, free k → fr k) ∧ D2 w w' g h fr room LN n0 n1 n2 n3 (LR.eraseIdx i) r0 r1 (wrap64 (r2 + 1)) r3 ∧ Upd (fun k => ¬ free k) W w' := by
  obtain ⟨okr, vr, hn, hf, hl, hup⟩ := H.ref
  subst hi; subst hp
  refine (ref_Out.take a room r0 r1 r2 r3 LR vr _ h okr W hn H.bel.size h0 h1).mono ?_
  rintro e w' ⟨ok', okp, vb, v', he, hR, hok, hn', hs, hu⟩
  obtain ⟨A, c, rfl, hlc, _⟩ := Kd.R_reads hR
  have hR2 := Kd.R_bound hR
  obtain ⟨fr, k1, k2, k3, k4⟩ := hup (okp := fun k => okp k ∧ k < w'.heap.size) hn' hs (fun k hk => ⟨Or.inl (hok k hk.1).1, (hok k hk.1).2⟩) (hu.mono (fun _ _ hk => Or.inr hk))
  refine ⟨A, c, fun k => okp k ∧ k < w'.heap.size, fr, he, hlc, Kd.R_mono hR2 (fun k hk => ⟨hk.1, hk.2.2.1⟩), ?_, k2, k1, k3, k4⟩
  intro W2 hW2
  have h5 := Kd.R_step (w1 := W2) hR2 (fun k hk hlt => hW2 k ⟨hk.1, hk.2.2.1⟩ hlt)
  exact (Kd.R_reads' h5).2.2
theorem D2.rlose (a : Int) (H : D2 w W g h free room LN n0 n1 n2 n3 LR r0 r1 r2 r3) (h0 : 0 < LR.length) (h1 : (LR.length : Int) ≤ 70000) (i : Nat) (p : NP) (hi : (net_idx a LR.length).toNat = i) (hp : LR.getD i (0, 0, []) = p) :
    Calls Try.prog 22 #[.pointer (some ⟨h, 0, none⟩), .int .i64 a, .int .i64 3] W fun e w' => ∃ (A : Option Addr) (c : Nat) (fp fr : Nat → Prop), e = .returned (.tuple #[.agg #[.int .i64 p.1, .int .i64 p.2.1, .slice A p.2.2.length c], .bool true]) ∧ p.2.2.length ≤ c ∧ Kd.R (Kd.int .u8) 5 w' w.heap.size fp (.slice A p.2.2.length c) p.2.2 ∧ Kd.F (Kd.int .u8) w' fp A p.2.2.length p.2.2 ∧ (∀ k, fp k → fr k) ∧ (∀ k, free k → fr k) ∧ D2 w w' g h fr room LN n0 n1 n2 n3 (LR.eraseIdx i) r0 r1 r2 (wrap64 (r3 + 1)) ∧ Upd (fun k => ¬ free k) W w' := by
  obtain ⟨okr, vr, hn, hf, hl, hup⟩ := H.ref
  subst hi; subst hp
  refine (ref_Out.lose a room r0 r1 r2 r3 LR vr _ h okr W hn H.bel.size h0 h1).mono ?_
  rintro e w' ⟨ok', okp, vb, v', he, hR, hok, hn', hs, hu⟩
  obtain ⟨A, c, rfl, hlc, _⟩ := Kd.R_reads hR
  have hR2 := Kd.R_bound hR
  obtain ⟨fr, k1, k2, k3, k4⟩ := hup (okp := fun k => okp k ∧ k < w'.heap.size) hn' hs (fun k hk => ⟨Or.inl (hok k hk.1).1, (hok k hk.1).2⟩) (hu.mono (fun _ _ hk => Or.inr hk))
  refine ⟨A, c, fun k => okp k ∧ k < w'.heap.size, fr, he, hlc, Kd.R_mono hR2 (fun k hk => ⟨hk.1, hk.2.2.1⟩), ?_, k2, k1, k3, k4⟩
  intro W2 hW2
  have h5 := Kd.R_step (w1 := W2) hR2 (fun k hk hlt => hW2 k ⟨hk.1, hk.2.2.1⟩ hlt)
  exact (Kd.R_reads' h5).2.2
theorem D2.rplain (a : Int) (H : D2 w W g h free room LN n0 n1 n2 n3 LR r0 r1 r2 r3) (h0 : 0 < LR.length) (h1 : (LR.length : Int) ≤ 70000) (i : Nat) (p : NP) (hi : (net_idx a LR.length).toNat = i) (hp : LR.getD i (0, 0, []) = p) :
    Calls Try.prog 22 #[.pointer (some ⟨h, 0, none⟩), .int .i64 a, .int .i64 (-1)] W fun e w' => ∃ (A : Option Addr) (c : Nat) (fp fr : Nat → Prop), e = .returned (.tuple #[.agg #[.int .i64 p.1, .int .i64 p.2.1, .slice A p.2.2.length c], .bool true]) ∧ p.2.2.length ≤ c ∧ Kd.R (Kd.int .u8) 5 w' w.heap.size fp (.slice A p.2.2.length c) p.2.2 ∧ Kd.F (Kd.int .u8) w' fp A p.2.2.length p.2.2 ∧ (∀ k, fp k → fr k) ∧ (∀ k, free k → fr k) ∧ D2 w w' g h fr room LN n0 n1 n2 n3 (LR.eraseIdx i) r0 r1 r2 r3 ∧ Upd (fun k => ¬ free k) W w' := by
  obtain ⟨okr, vr, hn, hf, hl, hup⟩ := H.ref
  subst hi; subst hp
  refine (ref_Out.plain a room r0 r1 r2 r3 LR vr _ h okr W hn H.bel.size h0 h1).mono ?_
  rintro e w' ⟨ok', okp, vb, v', he, hR, hok, hn', hs, hu⟩
  obtain ⟨A, c, rfl, hlc, _⟩ := Kd.R_reads hR
  have hR2 := Kd.R_bound hR
  obtain ⟨fr, k1, k2, k3, k4⟩ := hup (okp := fun k => okp k ∧ k < w'.heap.size) hn' hs (fun k hk => ⟨Or.inl (hok k hk.1).1, (hok k hk.1).2⟩) (hu.mono (fun _ _ hk => Or.inr hk))
  refine ⟨A, c, fun k => okp k ∧ k < w'.heap.size, fr, he, hlc, Kd.R_mono hR2 (fun k hk => ⟨hk.1, hk.2.2.1⟩), ?_, k2, k1, k3, k4⟩
  intro W2 hW2
  have h5 := Kd.R_step (w1 := W2) hR2 (fun k hk hlt => hW2 k ⟨hk.1, hk.2.2.1⟩ hlt)
  exact (Kd.R_reads' h5).2.2
end
theorem cells7 {W : World} {g t : Nat} {v0 v1 v2 v3 v4 v5 v6 : Value} (h : W.heap[g]? = some (.cells #[v0, v1, v2, v3, v4, v5, v6] t (0, 0))) : W.cell? ⟨g, 0, none⟩ = some v0 ∧ W.cell? ⟨g, 1, none⟩ = some v1 ∧ W.cell? ⟨g, 2, none⟩ = some v2 ∧ W.cell? ⟨g, 3, none⟩ = some v3 ∧ W.cell? ⟨g, 4, none⟩ = some v4 ∧ W.cell? ⟨g, 5, none⟩ = some v5 ∧ W.cell? ⟨g, 6, none⟩ = some v6 :=
  ⟨(blk_cell h 0).trans rfl, (blk_cell h 1).trans rfl, (blk_cell h 2).trans rfl, (blk_cell h 3).trans rfl, (blk_cell h 4).trans rfl, (blk_cell h 5).trans rfl, (blk_cell h 6).trans rfl⟩
set_option maxHeartbeats 8000000 in
set_option maxRecDepth 100000 in
theorem does.k1s (at_ nn x fx tx : Int) (A : Option Addr) (c bn : Nat) {w W : World} {g h : Nat} {free : Nat → Prop} {room c0 c1 c2 c3 : Int} {L : List NP} (H : D2 w W g h free room L c0 c1 c2 c3 L c0 c1 c2 c3) (h0 : 0 < L.length) (h1 : (L.length : Int) ≤ 70000) :
    Calls Try.prog 16 #[.pointer (some ⟨g, 0, none⟩), .pointer (some ⟨h, 0, none⟩), .agg #[.int .i64 1, .int .i64 at_, .int .i64 nn, .int .u8 x, .int .i64 fx, .int .i64 tx, .slice A bn c]] W fun e w' => e = .returned (.bool true) ∧ ∃ fr : Nat → Prop, D2 w w' g h fr room (L.eraseIdx (net_idx at_ L.length).toNat) c0 c1 (wrap64 (c2 + 1)) c3 (L.eraseIdx (net_idx at_ L.length).toNat) c0 c1 (wrap64 (c2 + 1)) c3 := by
  have HI0 := Aside0.mk h0
  have HI1 := Aside0.mk h1
  obtain ⟨i, hi⟩ : ∃ i, (net_idx at_ L.length).toNat = i := ⟨_, rfl⟩
  obtain ⟨p, hp⟩ : ∃ p, L.getD i (0, 0, []) = p := ⟨_, rfl⟩
  rw [hi]
  try rw [hp]
  have HP := Aside0.mk hp
  have HI := Aside0.mk hi
  clear hp hi h0 h1
  obtain ⟨okr0, vr0, hnr⟩ := H.rat
  obtain ⟨AL, cL, hv, _⟩ := hnr.slice_
  subst hv
  have y1 : W.cell? ⟨h, 1, none⟩ = some (.slice AL L.length cL) := hnr.cells.2.1
  have ST := Aside0.mk H
  clear hnr H
  have hu31 := Try.underlying31
  go_enter Try.func16, Try.ntmps16
  go_upto_region 2 with (first
    | ((with_reducible refine gate_dst (N := 5) rfl ?_); refine box_event ?hg (N := 5) ?hd (cs := #[.int .i64 1, .int .i64 at_, .int .i64 nn, .int .u8 x, .int .i64 fx, .int .i64 tx, .slice A bn c]) (t := 47) ?hr ?_; (case hd => rfl); (case hg => rfl); (case hr => first | (go_simp; done) | (go_simp; rfl)); intro g5 hg_ wb hbox hbb; have hwg : w.heap.size ≤ g5 := (by rw [hg_]; exact ST.out.bel.size); obtain ⟨fr, hsub, hnew, hst⟩ := ST.out.on hbb; have HK5 := Aside0.mk (hnew g5 (by rw [hg_]; exact Nat.le_refl _) (blk_lt hbox)); have K5 := Aside0.mk hbox; replace ST := Aside0.mk hst; replace y1 := pw_cell_below hbb y1; clear hwg hg_ hsub hnew hbox hbb hst; obtain ⟨u0, u1, -, -, -, -, -⟩ := cells7 K5.out))
  clear y1
  go_upto_region 6 with (fail)
  clear u0
  go_upto_region 7 with (first
    | (go_at_call 10; refine (D2.take at_ ST.out HI0.out HI1.out i p HI.out HP.out).mono ?_; rintro e wt ⟨Ax, cx, frx, frn, rfl, hl, hF, hfp, hsub, hst, hu⟩; replace K5 := Aside0.mk (hu.blk K5.out (fun h => h HK5.out)); replace HK5 := Aside0.mk (hsub _ HK5.out); have NFx := Aside0.mk hF; have HSx := Aside0.mk hfp; have HLx := Aside0.mk hl; clear hl hF hfp; replace ST := Aside0.mk hst; clear hsub hst hu; clear u1; obtain ⟨-, u1, -, -, -, -, -⟩ := cells7 K5.out)
    | ((with_reducible refine gate_dst (N := 8) rfl ?_); refine box_event ?hg (N := 8) ?hd (cs := #[.int .i64 0, .int .i64 0, .slice none 0 0]) (t := 31) ?hr ?_; (case hd => rfl); (case hg => rfl); (case hr => first | (go_simp; done) | (go_simp; rfl)); intro g8 hg_ wb hbox hbb; have hwg : w.heap.size ≤ g8 := (by rw [hg_]; exact ST.out.bel.size); have hn5 : g5 ≠ g8 := (by rw [hg_]; exact Nat.ne_of_lt (blk_lt K5.out)); have hfx : ∀ k, frx k → k ≠ g8 := (fun k hk e => by have h5 := ST.out.1.2.2 k (HSx.out k hk); rw [e, hg_] at h5; exact absurd h5 (Nat.lt_irrefl _)); obtain ⟨fr, hsub, hnew, hst⟩ := ST.out.on hbb; replace K5 := Aside0.mk (blk_below K5.out hbb); replace HK5 := Aside0.mk (hsub _ HK5.out); replace NFx := Aside0.mk (Kd.F_below NFx.out hbb); replace HSx := Aside0.mk (fun k hk => hsub k (HSx.out k hk)); have HK8 := Aside0.mk (hnew g8 (by rw [hg_]; exact Nat.le_refl _) (blk_lt hbox)); clear hg_ hsub hnew; (with_reducible refine gate_store_ rfl ?_); refine stU_ rfl rfl rfl rfl rfl hbox rfl (by kernel_rfl) (by simp [Value.oneCell']) ?_; intro W7 hW1 hW2; clear hbox hbb; replace ST := Aside0.mk (hst.put hW2 HK8.out hwg); have K8 := Aside0.mk hW1; replace K5 := Aside0.mk (hW2.blk K5.out hn5); replace NFx := Aside0.mk (Kd.F_step NFx.out (fun k hk hlt => hW2.2.2.2.2 k hlt (hfx k hk))); clear hst hwg hW1 hW2 hn5 hfx; clear u1; obtain ⟨-, u1, -, -, -, -, -⟩ := cells7 K5.out))
  go_upto_region 8 with (first
    | (go_at_call 22; refine (D2.rtake at_ ST.out HI0.out HI1.out i p HI.out HP.out).mono ?_; rintro e wt ⟨Ay, cy, fry, frn, rfl, hl, -, hF, hfp, hsub, hst, hu⟩; replace K5 := Aside0.mk (hu.blk K5.out (fun h => h HK5.out)); replace HK5 := Aside0.mk (hsub _ HK5.out); replace K8 := Aside0.mk (hu.blk K8.out (fun h => h HK8.out)); replace HK8 := Aside0.mk (hsub _ HK8.out); replace NFx := Aside0.mk (Kd.F_step NFx.out (fun k hk hlt => hu.2.2.2.2 k hlt (fun h => h (HSx.out k hk)))); replace HSx := Aside0.mk (fun k hk => hsub k (HSx.out k hk)); have NFy := Aside0.mk hF; have HSy := Aside0.mk hfp; have HLy := Aside0.mk hl; clear hl hF hfp; replace ST := Aside0.mk hst; clear hsub hst hu; clear u1; obtain ⟨-, u1, -, -, -, -, -⟩ := cells7 K5.out)
    | ((with_reducible refine gate_dst (N := 10) rfl ?_); refine box_event ?hg (N := 10) ?hd (cs := #[.int .i64 0, .int .i64 0, .slice none 0 0]) (t := 31) ?hr ?_; (case hd => rfl); (case hg => rfl); (case hr => first | (go_simp; done) | (go_simp; rfl)); intro g10 hg_ wb hbox hbb; have hwg : w.heap.size ≤ g10 := (by rw [hg_]; exact ST.out.bel.size); have hn5 : g5 ≠ g10 := (by rw [hg_]; exact Nat.ne_of_lt (blk_lt K5.out)); have hn8 : g8 ≠ g10 := (by rw [hg_]; exact Nat.ne_of_lt (blk_lt K8.out)); have hfx : ∀ k, frx k → k ≠ g10 := (fun k hk e => by have h5 := ST.out.1.2.2 k (HSx.out k hk); rw [e, hg_] at h5; exact absurd h5 (Nat.lt_irrefl _)); have hfy : ∀ k, fry k → k ≠ g10 := (fun k hk e => by have h5 := ST.out.1.2.2 k (HSy.out k hk); rw [e, hg_] at h5; exact absurd h5 (Nat.lt_irrefl _)); obtain ⟨fr, hsub, hnew, hst⟩ := ST.out.on hbb; replace K5 := Aside0.mk (blk_below K5.out hbb); replace HK5 := Aside0.mk (hsub _ HK5.out); replace K8 := Aside0.mk (blk_below K8.out hbb); replace HK8 := Aside0.mk (hsub _ HK8.out); replace NFx := Aside0.mk (Kd.F_below NFx.out hbb); replace HSx := Aside0.mk (fun k hk => hsub k (HSx.out k hk)); replace NFy := Aside0.mk (Kd.F_below NFy.out hbb); replace HSy := Aside0.mk (fun k hk => hsub k (HSy.out k hk)); have HK10 := Aside0.mk (hnew g10 (by rw [hg_]; exact Nat.le_refl _) (blk_lt hbox)); clear hg_ hsub hnew; (with_reducible refine gate_store_ rfl ?_); refine stU_ rfl rfl rfl rfl rfl hbox rfl (by kernel_rfl) (by simp [Value.oneCell']) ?_; intro W7 hW1 hW2; clear hbox hbb; replace ST := Aside0.mk (hst.put hW2 HK10.out hwg); have K10 := Aside0.mk hW1; replace K5 := Aside0.mk (hW2.blk K5.out hn5); replace K8 := Aside0.mk (hW2.blk K8.out hn8); replace NFx := Aside0.mk (Kd.F_step NFx.out (fun k hk hlt => hW2.2.2.2.2 k hlt (hfx k hk))); replace NFy := Aside0.mk (Kd.F_step NFy.out (fun k hk hlt => hW2.2.2.2.2 k hlt (hfy k hk))); clear hst hwg hW1 hW2 hn5 hn8 hfx hfy; clear u1; obtain ⟨-, u1, -, -, -, -, -⟩ := cells7 K5.out))
  have HSAME : Aside0 (pelotonref17_Same.f p.1 p.2.1 p.2.2 p.1 p.2.1 p.2.2 = some true) := ⟨by unfold pelotonref17_Same.f; simp⟩
  obtain ⟨s0, s1, s2, -⟩ := cells3 K8.out
  obtain ⟨t0, t1, t2, -⟩ := cells3 K10.out
  go_wp2_with (first
    | (go_at_call 15; (refine (pelotonref17_Same.calls p.1 p.2.1 Ax cx p.2.2 p.1 p.2.1 Ay cy p.2.2 true _ (Foot.now NFx.out) HLx.out (Foot.now NFy.out) HLy.out HSAME.out).mono ?_); rintro e wm ⟨rfl, hb⟩; obtain ⟨frs, -, -, hst⟩ := ST.out.on hb; replace ST := Aside0.mk hst; clear hst hb s0 s1 s2 t0 t1 t2 u1))
  go_ret
  exact ⟨rfl, _, ST.out⟩
set_option maxHeartbeats 8000000 in
set_option maxRecDepth 100000 in
theorem does.k1n (at_ nn x fx tx : Int) (A : Option Addr) (c bn : Nat) {w W : World} {g h : Nat} {free : Nat → Prop} {room c0 c1 c2 c3 : Int} (H : D2 w W g h free room [] c0 c1 c2 c3 [] c0 c1 c2 c3) :
    Calls Try.prog 16 #[.pointer (some ⟨g, 0, none⟩), .pointer (some ⟨h, 0, none⟩), .agg #[.int .i64 1, .int .i64 at_, .int .i64 nn, .int .u8 x, .int .i64 fx, .int .i64 tx, .slice A bn c]] W fun e w' => e = .returned (.bool true) ∧ ∃ fr : Nat → Prop, D2 w w' g h fr room [] c0 c1 c2 c3 [] c0 c1 c2 c3 := by
  obtain ⟨okr0, vr0, hnr⟩ := H.rat
  obtain ⟨AL, cL, hv, _⟩ := hnr.slice_
  subst hv
  have y1 : W.cell? ⟨h, 1, none⟩ = some (.slice AL 0 cL) := hnr.cells.2.1
  have ST := Aside0.mk H
  clear hnr H
  have hu31 := Try.underlying31
  go_enter Try.func16, Try.ntmps16
  go_upto_region 2 with (first
    | ((with_reducible refine gate_dst (N := 5) rfl ?_); refine box_event ?hg (N := 5) ?hd (cs := #[.int .i64 1, .int .i64 at_, .int .i64 nn, .int .u8 x, .int .i64 fx, .int .i64 tx, .slice A bn c]) (t := 47) ?hr ?_; (case hd => rfl); (case hg => rfl); (case hr => first | (go_simp; done) | (go_simp; rfl)); intro g5 hg_ wb hbox hbb; have hwg : w.heap.size ≤ g5 := (by rw [hg_]; exact ST.out.bel.size); obtain ⟨fr, hsub, hnew, hst⟩ := ST.out.on hbb; have HK5 := Aside0.mk (hnew g5 (by rw [hg_]; exact Nat.le_refl _) (blk_lt hbox)); have K5 := Aside0.mk hbox; replace ST := Aside0.mk hst; replace y1 := pw_cell_below hbb y1; clear hwg hg_ hsub hnew hbox hbb hst; obtain ⟨u0, u1, -, -, -, -, -⟩ := cells7 K5.out))
  clear y1
  go_upto_region 6 with (fail)
  clear u0
  go_upto_region 7 with (first
    | (go_at_call 10; obtain ⟨okn, vn, hn⟩ := ST.out.at_; refine (net_Net_Take.none_ at_ room c0 c1 c2 c3 vn _ g okn _ hn).mono ?_; rintro e wt ⟨rfl, hb⟩; clear hn okn vn; obtain ⟨fr, hsub, hnew, hst⟩ := ST.out.on hb; replace K5 := Aside0.mk (blk_below K5.out hb); replace HK5 := Aside0.mk (hsub _ HK5.out); replace ST := Aside0.mk hst; clear hsub hnew hst hb; clear u1; obtain ⟨-, u1, -, -, -, -, -⟩ := cells7 K5.out)
    | ((with_reducible refine gate_dst (N := 8) rfl ?_); refine box_event ?hg (N := 8) ?hd (cs := #[.int .i64 0, .int .i64 0, .slice none 0 0]) (t := 31) ?hr ?_; (case hd => rfl); (case hg => rfl); (case hr => first | (go_simp; done) | (go_simp; rfl)); intro g8 hg_ wb hbox hbb; have hwg : w.heap.size ≤ g8 := (by rw [hg_]; exact ST.out.bel.size); have hn5 : g5 ≠ g8 := (by rw [hg_]; exact Nat.ne_of_lt (blk_lt K5.out)); obtain ⟨fr, hsub, hnew, hst⟩ := ST.out.on hbb; replace K5 := Aside0.mk (blk_below K5.out hbb); replace HK5 := Aside0.mk (hsub _ HK5.out); have HK8 := Aside0.mk (hnew g8 (by rw [hg_]; exact Nat.le_refl _) (blk_lt hbox)); clear hg_ hsub hnew; (with_reducible refine gate_store_ rfl ?_); refine stU_ rfl rfl rfl rfl rfl hbox rfl (by kernel_rfl) (by simp [Value.oneCell']) ?_; intro W7 hW1 hW2; clear hbox hbb; replace ST := Aside0.mk (hst.put hW2 HK8.out hwg); have K8 := Aside0.mk hW1; replace K5 := Aside0.mk (hW2.blk K5.out hn5); clear hst hwg hW1 hW2 hn5; clear u1; obtain ⟨-, u1, -, -, -, -, -⟩ := cells7 K5.out))
  go_upto_region 8 with (first
    | (go_at_call 22; obtain ⟨okn, vn, hn⟩ := ST.out.rat; refine (ref_Out.none_ at_ 2 room c0 c1 c2 c3 vn _ h okn _ hn).mono ?_; rintro e wt ⟨rfl, hb⟩; clear hn okn vn; obtain ⟨fr, hsub, hnew, hst⟩ := ST.out.on hb; replace K5 := Aside0.mk (blk_below K5.out hb); replace HK5 := Aside0.mk (hsub _ HK5.out); replace K8 := Aside0.mk (blk_below K8.out hb); replace HK8 := Aside0.mk (hsub _ HK8.out); replace ST := Aside0.mk hst; clear hsub hnew hst hb; clear u1; obtain ⟨-, u1, -, -, -, -, -⟩ := cells7 K5.out)
    | ((with_reducible refine gate_dst (N := 10) rfl ?_); refine box_event ?hg (N := 10) ?hd (cs := #[.int .i64 0, .int .i64 0, .slice none 0 0]) (t := 31) ?hr ?_; (case hd => rfl); (case hg => rfl); (case hr => first | (go_simp; done) | (go_simp; rfl)); intro g10 hg_ wb hbox hbb; have hwg : w.heap.size ≤ g10 := (by rw [hg_]; exact ST.out.bel.size); have hn5 : g5 ≠ g10 := (by rw [hg_]; exact Nat.ne_of_lt (blk_lt K5.out)); have hn8 : g8 ≠ g10 := (by rw [hg_]; exact Nat.ne_of_lt (blk_lt K8.out)); obtain ⟨fr, hsub, hnew, hst⟩ := ST.out.on hbb; replace K5 := Aside0.mk (blk_below K5.out hbb); replace HK5 := Aside0.mk (hsub _ HK5.out); replace K8 := Aside0.mk (blk_below K8.out hbb); replace HK8 := Aside0.mk (hsub _ HK8.out); have HK10 := Aside0.mk (hnew g10 (by rw [hg_]; exact Nat.le_refl _) (blk_lt hbox)); clear hg_ hsub hnew; (with_reducible refine gate_store_ rfl ?_); refine stU_ rfl rfl rfl rfl rfl hbox rfl (by kernel_rfl) (by simp [Value.oneCell']) ?_; intro W7 hW1 hW2; clear hbox hbb; replace ST := Aside0.mk (hst.put hW2 HK10.out hwg); have K10 := Aside0.mk hW1; replace K5 := Aside0.mk (hW2.blk K5.out hn5); replace K8 := Aside0.mk (hW2.blk K8.out hn8); clear hst hwg hW1 hW2 hn5 hn8; clear u1; obtain ⟨-, u1, -, -, -, -, -⟩ := cells7 K5.out))
  have HSAME : Aside0 (pelotonref17_Same.f 0 0 [] 0 0 [] = some true) := ⟨by unfold pelotonref17_Same.f; simp⟩
  obtain ⟨s0, s1, s2, -⟩ := cells3 K8.out
  obtain ⟨t0, t1, t2, -⟩ := cells3 K10.out
  go_wp2_with (first
    | (go_at_call 15; (refine (pelotonref17_Same.calls 0 0 none 0 [] 0 0 none 0 [] true _ (Kd.C_nil _ _) (Nat.le_refl 0) (Kd.C_nil _ _) (Nat.le_refl 0) HSAME.out).mono ?_); rintro e wm ⟨rfl, hb⟩; obtain ⟨frs, -, -, hst⟩ := ST.out.on hb; replace ST := Aside0.mk hst; clear hst hb s0 s1 s2 t0 t1 t2 u1))
  go_ret
  exact ⟨rfl, _, ST.out⟩
set_option maxHeartbeats 8000000 in
set_option maxRecDepth 100000 in
theorem does.k2s (at_ nn x fx tx : Int) (A : Option Addr) (c bn : Nat) {w W : World} {g h : Nat} {free : Nat → Prop} {room c0 c1 c2 c3 : Int} {L : List NP} (H : D2 w W g h free room L c0 c1 c2 c3 L c0 c1 c2 c3) (h0 : 0 < L.length) (h1 : (L.length : Int) ≤ 70000) :
    Calls Try.prog 16 #[.pointer (some ⟨g, 0, none⟩), .pointer (some ⟨h, 0, none⟩), .agg #[.int .i64 2, .int .i64 at_, .int .i64 nn, .int .u8 x, .int .i64 fx, .int .i64 tx, .slice A bn c]] W fun e w' => e = .returned (.bool true) ∧ ∃ fr : Nat → Prop, D2 w w' g h fr room (L.eraseIdx (net_idx at_ L.length).toNat) c0 c1 c2 (wrap64 (c3 + 1)) (L.eraseIdx (net_idx at_ L.length).toNat) c0 c1 c2 (wrap64 (c3 + 1)) := by
  have HI0 := Aside0.mk h0
  have HI1 := Aside0.mk h1
  obtain ⟨i, hi⟩ : ∃ i, (net_idx at_ L.length).toNat = i := ⟨_, rfl⟩
  obtain ⟨p, hp⟩ : ∃ p, L.getD i (0, 0, []) = p := ⟨_, rfl⟩
  rw [hi]
  try rw [hp]
  have HP := Aside0.mk hp
  have HI := Aside0.mk hi
  clear hp hi h0 h1
  obtain ⟨okr0, vr0, hnr⟩ := H.rat
  obtain ⟨AL, cL, hv, _⟩ := hnr.slice_
  subst hv
  have y1 : W.cell? ⟨h, 1, none⟩ = some (.slice AL L.length cL) := hnr.cells.2.1
  have ST := Aside0.mk H
  clear hnr H
  have hu31 := Try.underlying31
  go_enter Try.func16, Try.ntmps16
  go_upto_region 2 with (first
    | ((with_reducible refine gate_dst (N := 5) rfl ?_); refine box_event ?hg (N := 5) ?hd (cs := #[.int .i64 2, .int .i64 at_, .int .i64 nn, .int .u8 x, .int .i64 fx, .int .i64 tx, .slice A bn c]) (t := 47) ?hr ?_; (case hd => rfl); (case hg => rfl); (case hr => first | (go_simp; done) | (go_simp; rfl)); intro g5 hg_ wb hbox hbb; have hwg : w.heap.size ≤ g5 := (by rw [hg_]; exact ST.out.bel.size); obtain ⟨fr, hsub, hnew, hst⟩ := ST.out.on hbb; have HK5 := Aside0.mk (hnew g5 (by rw [hg_]; exact Nat.le_refl _) (blk_lt hbox)); have K5 := Aside0.mk hbox; replace ST := Aside0.mk hst; replace y1 := pw_cell_below hbb y1; clear hwg hg_ hsub hnew hbox hbb hst; obtain ⟨u0, u1, -, -, -, -, -⟩ := cells7 K5.out))
  clear y1
  go_upto_region 10 with (fail)
  clear u0
  go_upto_region 11 with (first
    | (go_at_call 22; refine (D2.rlose at_ ST.out HI0.out HI1.out i p HI.out HP.out).mono ?_; rintro e wt ⟨Ay, cy, fry, frn, rfl, -, -, -, -, hsub, hst, hu⟩; replace K5 := Aside0.mk (hu.blk K5.out (fun h => h HK5.out)); replace HK5 := Aside0.mk (hsub _ HK5.out); replace ST := Aside0.mk hst; clear hsub hst hu; clear u1; obtain ⟨-, u1, -, -, -, -, -⟩ := cells7 K5.out)
    | ((with_reducible refine gate_dst (N := 12) rfl ?_); refine box_event ?hg (N := 12) ?hd (cs := #[.int .i64 0, .int .i64 0, .slice none 0 0]) (t := 31) ?hr ?_; (case hd => rfl); (case hg => rfl); (case hr => first | (go_simp; done) | (go_simp; rfl)); intro g12 hg_ wb hbox hbb; have hwg : w.heap.size ≤ g12 := (by rw [hg_]; exact ST.out.bel.size); have hn5 : g5 ≠ g12 := (by rw [hg_]; exact Nat.ne_of_lt (blk_lt K5.out)); obtain ⟨fr, hsub, hnew, hst⟩ := ST.out.on hbb; replace K5 := Aside0.mk (blk_below K5.out hbb); replace HK5 := Aside0.mk (hsub _ HK5.out); have HK12 := Aside0.mk (hnew g12 (by rw [hg_]; exact Nat.le_refl _) (blk_lt hbox)); clear hg_ hsub hnew; (with_reducible refine gate_store_ rfl ?_); refine stU_ rfl rfl rfl rfl rfl hbox rfl (by kernel_rfl) (by simp [Value.oneCell']) ?_; intro W7 hW1 hW2; clear hbox hbb; replace ST := Aside0.mk (hst.put hW2 HK12.out hwg); have K12 := Aside0.mk hW1; replace K5 := Aside0.mk (hW2.blk K5.out hn5); clear hst hwg hW1 hW2 hn5; clear u1; obtain ⟨-, u1, -, -, -, -, -⟩ := cells7 K5.out))
  go_wp2_with (first
    | (go_at_call 23; refine (D2.lose at_ ST.out HI0.out HI1.out i HI.out).mono ?_; rintro e wt ⟨frn, rfl, hsub, hst, hu⟩; replace K5 := Aside0.mk (hu.blk K5.out (fun h => h HK5.out)); replace HK5 := Aside0.mk (hsub _ HK5.out); replace K12 := Aside0.mk (hu.blk K12.out (fun h => h HK12.out)); replace HK12 := Aside0.mk (hsub _ HK12.out); replace ST := Aside0.mk hst; clear hsub hst hu; clear u1; obtain ⟨-, u1, -, -, -, -, -⟩ := cells7 K5.out))
  go_ret
  exact ⟨rfl, _, ST.out⟩
set_option maxHeartbeats 8000000 in
set_option maxRecDepth 100000 in
theorem does.k2n (at_ nn x fx tx : Int) (A : Option Addr) (c bn : Nat) {w W : World} {g h : Nat} {free : Nat → Prop} {room c0 c1 c2 c3 : Int} (H : D2 w W g h free room [] c0 c1 c2 c3 [] c0 c1 c2 c3) :
    Calls Try.prog 16 #[.pointer (some ⟨g, 0, none⟩), .pointer (some ⟨h, 0, none⟩), .agg #[.int .i64 2, .int .i64 at_, .int .i64 nn, .int .u8 x, .int .i64 fx, .int .i64 tx, .slice A bn c]] W fun e w' => e = .returned (.bool true) ∧ ∃ fr : Nat → Prop, D2 w w' g h fr room [] c0 c1 c2 c3 [] c0 c1 c2 c3 := by
  obtain ⟨okr0, vr0, hnr⟩ := H.rat
  obtain ⟨AL, cL, hv, _⟩ := hnr.slice_
  subst hv
  have y1 : W.cell? ⟨h, 1, none⟩ = some (.slice AL 0 cL) := hnr.cells.2.1
  have ST := Aside0.mk H
  clear hnr H
  have hu31 := Try.underlying31
  go_enter Try.func16, Try.ntmps16
  go_upto_region 2 with (first
    | ((with_reducible refine gate_dst (N := 5) rfl ?_); refine box_event ?hg (N := 5) ?hd (cs := #[.int .i64 2, .int .i64 at_, .int .i64 nn, .int .u8 x, .int .i64 fx, .int .i64 tx, .slice A bn c]) (t := 47) ?hr ?_; (case hd => rfl); (case hg => rfl); (case hr => first | (go_simp; done) | (go_simp; rfl)); intro g5 hg_ wb hbox hbb; have hwg : w.heap.size ≤ g5 := (by rw [hg_]; exact ST.out.bel.size); obtain ⟨fr, hsub, hnew, hst⟩ := ST.out.on hbb; have HK5 := Aside0.mk (hnew g5 (by rw [hg_]; exact Nat.le_refl _) (blk_lt hbox)); have K5 := Aside0.mk hbox; replace ST := Aside0.mk hst; replace y1 := pw_cell_below hbb y1; clear hwg hg_ hsub hnew hbox hbb hst; obtain ⟨u0, u1, -, -, -, -, -⟩ := cells7 K5.out))
  clear y1
  go_upto_region 10 with (fail)
  clear u0
  go_upto_region 11 with (first
    | (go_at_call 22; obtain ⟨okn, vn, hn⟩ := ST.out.rat; refine (ref_Out.none_ at_ 3 room c0 c1 c2 c3 vn _ h okn _ hn).mono ?_; rintro e wt ⟨rfl, hb⟩; clear hn okn vn; obtain ⟨fr, hsub, hnew, hst⟩ := ST.out.on hb; replace K5 := Aside0.mk (blk_below K5.out hb); replace HK5 := Aside0.mk (hsub _ HK5.out); replace ST := Aside0.mk hst; clear hsub hnew hst hb; clear u1; obtain ⟨-, u1, -, -, -, -, -⟩ := cells7 K5.out)
    | ((with_reducible refine gate_dst (N := 12) rfl ?_); refine box_event ?hg (N := 12) ?hd (cs := #[.int .i64 0, .int .i64 0, .slice none 0 0]) (t := 31) ?hr ?_; (case hd => rfl); (case hg => rfl); (case hr => first | (go_simp; done) | (go_simp; rfl)); intro g12 hg_ wb hbox hbb; have hwg : w.heap.size ≤ g12 := (by rw [hg_]; exact ST.out.bel.size); have hn5 : g5 ≠ g12 := (by rw [hg_]; exact Nat.ne_of_lt (blk_lt K5.out)); obtain ⟨fr, hsub, hnew, hst⟩ := ST.out.on hbb; replace K5 := Aside0.mk (blk_below K5.out hbb); replace HK5 := Aside0.mk (hsub _ HK5.out); have HK12 := Aside0.mk (hnew g12 (by rw [hg_]; exact Nat.le_refl _) (blk_lt hbox)); clear hg_ hsub hnew; (with_reducible refine gate_store_ rfl ?_); refine stU_ rfl rfl rfl rfl rfl hbox rfl (by kernel_rfl) (by simp [Value.oneCell']) ?_; intro W7 hW1 hW2; clear hbox hbb; replace ST := Aside0.mk (hst.put hW2 HK12.out hwg); have K12 := Aside0.mk hW1; replace K5 := Aside0.mk (hW2.blk K5.out hn5); clear hst hwg hW1 hW2 hn5; clear u1; obtain ⟨-, u1, -, -, -, -, -⟩ := cells7 K5.out))
  go_wp2_with (first
    | (go_at_call 23; obtain ⟨okn, vn, hn⟩ := ST.out.at_; refine (net_Net_Lose.none_ at_ room c0 c1 c2 c3 vn _ g okn _ hn).mono ?_; rintro e wt ⟨rfl, hb⟩; clear hn okn vn; obtain ⟨fr, hsub, hnew, hst⟩ := ST.out.on hb; replace K5 := Aside0.mk (blk_below K5.out hb); replace HK5 := Aside0.mk (hsub _ HK5.out); replace K12 := Aside0.mk (blk_below K12.out hb); replace HK12 := Aside0.mk (hsub _ HK12.out); replace ST := Aside0.mk hst; clear hsub hnew hst hb; clear u1; obtain ⟨-, u1, -, -, -, -, -⟩ := cells7 K5.out))
  go_ret
  exact ⟨rfl, _, ST.out⟩
set_option maxHeartbeats 8000000 in
set_option maxRecDepth 100000 in
theorem does.k3n (at_ nn x fx tx : Int) (A : Option Addr) (c bn : Nat) {w W : World} {g h : Nat} {free : Nat → Prop} {room c0 c1 c2 c3 : Int} (H : D2 w W g h free room [] c0 c1 c2 c3 [] c0 c1 c2 c3) :
    Calls Try.prog 16 #[.pointer (some ⟨g, 0, none⟩), .pointer (some ⟨h, 0, none⟩), .agg #[.int .i64 3, .int .i64 at_, .int .i64 nn, .int .u8 x, .int .i64 fx, .int .i64 tx, .slice A bn c]] W fun e w' => e = .returned (.bool true) ∧ ∃ fr : Nat → Prop, D2 w w' g h fr room [] c0 c1 c2 c3 [] c0 c1 c2 c3 := by
  obtain ⟨okr0, vr0, hnr⟩ := H.rat
  obtain ⟨AL, cL, hv, _⟩ := hnr.slice_
  subst hv
  have y1 : W.cell? ⟨h, 1, none⟩ = some (.slice AL 0 cL) := hnr.cells.2.1
  have ST := Aside0.mk H
  clear hnr H
  have hu31 := Try.underlying31
  go_enter Try.func16, Try.ntmps16
  go_upto_region 2 with (first
    | ((with_reducible refine gate_dst (N := 5) rfl ?_); refine box_event ?hg (N := 5) ?hd (cs := #[.int .i64 3, .int .i64 at_, .int .i64 nn, .int .u8 x, .int .i64 fx, .int .i64 tx, .slice A bn c]) (t := 47) ?hr ?_; (case hd => rfl); (case hg => rfl); (case hr => first | (go_simp; done) | (go_simp; rfl)); intro g5 hg_ wb hbox hbb; have hwg : w.heap.size ≤ g5 := (by rw [hg_]; exact ST.out.bel.size); obtain ⟨fr, hsub, hnew, hst⟩ := ST.out.on hbb; have HK5 := Aside0.mk (hnew g5 (by rw [hg_]; exact Nat.le_refl _) (blk_lt hbox)); have K5 := Aside0.mk hbox; replace ST := Aside0.mk hst; replace y1 := pw_cell_below hbb y1; clear hwg hg_ hsub hnew hbox hbb hst; obtain ⟨u0, u1, -, -, -, -, -⟩ := cells7 K5.out))
  clear y1
  go_upto_region 13 with (fail)
  clear u0
  go_wp2_with (first
    | (go_at_call 14; obtain ⟨okn, vn, hn⟩ := ST.out.at_; refine (net_Net_Double.none_ at_ room c0 c1 c2 c3 vn _ g okn _ hn).mono ?_; rintro e wt ⟨rfl, hb⟩; clear hn okn vn; obtain ⟨fr, hsub, hnew, hst⟩ := ST.out.on hb; replace K5 := Aside0.mk (blk_below K5.out hb); replace HK5 := Aside0.mk (hsub _ HK5.out); replace ST := Aside0.mk hst; clear hsub hnew hst hb; clear u1; obtain ⟨-, u1, -, -, -, -, -⟩ := cells7 K5.out))
  go_ret
  exact ⟨rfl, _, ST.out⟩
set_option maxHeartbeats 8000000 in
set_option maxRecDepth 100000 in
theorem does.k3f (at_ nn x fx tx : Int) (A : Option Addr) (c bn : Nat) {w W : World} {g h : Nat} {free : Nat → Prop} {room c0 c1 c2 c3 : Int} {L : List NP} (H : D2 w W g h free room L c0 c1 c2 c3 L c0 c1 c2 c3) (h0 : 0 < L.length) (h1 : (L.length : Int) ≤ 70000) (hr : room ≤ (L.length : Int)) :
    Calls Try.prog 16 #[.pointer (some ⟨g, 0, none⟩), .pointer (some ⟨h, 0, none⟩), .agg #[.int .i64 3, .int .i64 at_, .int .i64 nn, .int .u8 x, .int .i64 fx, .int .i64 tx, .slice A bn c]] W fun e w' => e = .returned (.bool true) ∧ ∃ fr : Nat → Prop, D2 w w' g h fr room L c0 c1 c2 c3 L c0 c1 c2 c3 := by
  have q1 : decide (0 < (L.length : Int)) = true := decide_eq_true (by omega)
  have q2 : decide ((L.length : Int) < room) = false := decide_eq_false (by omega)
  have q3 : decide (0 < L.length) = true := decide_eq_true h0
  have HR := Aside0.mk (show 0 < L.length ∧ (L.length : Int) ≤ 4611686018427387904 ∧ room ≤ (L.length : Int) from ⟨h0, by omega, hr⟩)
  clear h0 h1 hr
  obtain ⟨okr0, vr0, hnr⟩ := H.rat
  obtain ⟨AL, cL, hv, _⟩ := hnr.slice_
  subst hv
  have y1 : W.cell? ⟨h, 1, none⟩ = some (.slice AL L.length cL) := hnr.cells.2.1
  have ST := Aside0.mk H
  clear hnr H
  have hu31 := Try.underlying31
  go_enter Try.func16, Try.ntmps16
  go_upto_region 2 with (first
    | ((with_reducible refine gate_dst (N := 5) rfl ?_); refine box_event ?hg (N := 5) ?hd (cs := #[.int .i64 3, .int .i64 at_, .int .i64 nn, .int .u8 x, .int .i64 fx, .int .i64 tx, .slice A bn c]) (t := 47) ?hr ?_; (case hd => rfl); (case hg => rfl); (case hr => first | (go_simp; done) | (go_simp; rfl)); intro g5 hg_ wb hbox hbb; have hwg : w.heap.size ≤ g5 := (by rw [hg_]; exact ST.out.bel.size); obtain ⟨fr, hsub, hnew, hst⟩ := ST.out.on hbb; have HK5 := Aside0.mk (hnew g5 (by rw [hg_]; exact Nat.le_refl _) (blk_lt hbox)); have K5 := Aside0.mk hbox; replace ST := Aside0.mk hst; replace y1 := pw_cell_below hbb y1; clear hwg hg_ hsub hnew hbox hbb hst; obtain ⟨u0, u1, -, -, -, -, -⟩ := cells7 K5.out))
  clear y1
  go_upto_region 13 with (fail)
  clear u0
  obtain ⟨okq, vq, hnq⟩ := ST.out.rat
  have y0 : wb.cell? ⟨h, 0, none⟩ = some (.int .i64 room) := hnq.cells.1
  clear hnq
  go_wp2_with (first
    | (go_at_call 14; obtain ⟨okn, vn, hn⟩ := ST.out.at_; refine (net_Net_Double.full_ at_ room c0 c1 c2 c3 L vn _ g okn _ hn HR.out.1 HR.out.2.1 HR.out.2.2).mono ?_; rintro e wt ⟨rfl, hb⟩; clear hn okn vn y0; obtain ⟨fr, hsub, hnew, hst⟩ := ST.out.on hb; replace K5 := Aside0.mk (blk_below K5.out hb); replace HK5 := Aside0.mk (hsub _ HK5.out); replace ST := Aside0.mk hst; clear hsub hnew hst hb; clear u1; obtain ⟨-, u1, -, -, -, -, -⟩ := cells7 K5.out))
  go_ret
  exact ⟨rfl, _, ST.out⟩
set_option maxHeartbeats 8000000 in
set_option maxRecDepth 100000 in
theorem does.k4n (at_ nn x fx tx : Int) (A : Option Addr) (c bn : Nat) {w W : World} {g h : Nat} {free : Nat → Prop} {room c0 c1 c2 c3 : Int} (H : D2 w W g h free room [] c0 c1 c2 c3 [] c0 c1 c2 c3) :
    Calls Try.prog 16 #[.pointer (some ⟨g, 0, none⟩), .pointer (some ⟨h, 0, none⟩), .agg #[.int .i64 4, .int .i64 at_, .int .i64 nn, .int .u8 x, .int .i64 fx, .int .i64 tx, .slice A bn c]] W fun e w' => e = .returned (.bool true) ∧ ∃ fr : Nat → Prop, D2 w w' g h fr room [] c0 c1 c2 c3 [] c0 c1 c2 c3 := by
  obtain ⟨okr0, vr0, hnr⟩ := H.rat
  obtain ⟨AL, cL, hv, _⟩ := hnr.slice_
  subst hv
  have y1 : W.cell? ⟨h, 1, none⟩ = some (.slice AL 0 cL) := hnr.cells.2.1
  have ST := Aside0.mk H
  clear hnr H
  have hu31 := Try.underlying31
  go_enter Try.func16, Try.ntmps16
  go_upto_region 2 with (first
    | ((with_reducible refine gate_dst (N := 5) rfl ?_); refine box_event ?hg (N := 5) ?hd (cs := #[.int .i64 4, .int .i64 at_, .int .i64 nn, .int .u8 x, .int .i64 fx, .int .i64 tx, .slice A bn c]) (t := 47) ?hr ?_; (case hd => rfl); (case hg => rfl); (case hr => first | (go_simp; done) | (go_simp; rfl)); intro g5 hg_ wb hbox hbb; have hwg : w.heap.size ≤ g5 := (by rw [hg_]; exact ST.out.bel.size); obtain ⟨fr, hsub, hnew, hst⟩ := ST.out.on hbb; have HK5 := Aside0.mk (hnew g5 (by rw [hg_]; exact Nat.le_refl _) (blk_lt hbox)); have K5 := Aside0.mk hbox; replace ST := Aside0.mk hst; replace y1 := pw_cell_below hbb y1; clear hwg hg_ hsub hnew hbox hbb hst; obtain ⟨u0, u1, -, -, -, -, -⟩ := cells7 K5.out))
  clear y1
  go_upto_region 20 with (fail)
  clear u0
  go_upto_region 21 with (first
    | (go_at_call 22; obtain ⟨okn, vn, hn⟩ := ST.out.rat; refine (ref_Out.none_ at_ (-1) room c0 c1 c2 c3 vn _ h okn _ hn).mono ?_; rintro e wt ⟨rfl, hb⟩; clear hn okn vn; obtain ⟨fr, hsub, hnew, hst⟩ := ST.out.on hb; replace K5 := Aside0.mk (blk_below K5.out hb); replace HK5 := Aside0.mk (hsub _ HK5.out); replace ST := Aside0.mk hst; clear hsub hnew hst hb; clear u1; obtain ⟨-, u1, -, -, -, -, -⟩ := cells7 K5.out)
    | ((with_reducible refine gate_dst (N := 16) rfl ?_); refine box_event ?hg (N := 16) ?hd (cs := #[.int .i64 0, .int .i64 0, .slice none 0 0]) (t := 31) ?hr ?_; (case hd => rfl); (case hg => rfl); (case hr => first | (go_simp; done) | (go_simp; rfl)); intro g16 hg_ wb hbox hbb; have hwg : w.heap.size ≤ g16 := (by rw [hg_]; exact ST.out.bel.size); have hn5 : g5 ≠ g16 := (by rw [hg_]; exact Nat.ne_of_lt (blk_lt K5.out)); obtain ⟨fr, hsub, hnew, hst⟩ := ST.out.on hbb; replace K5 := Aside0.mk (blk_below K5.out hbb); replace HK5 := Aside0.mk (hsub _ HK5.out); have HK16 := Aside0.mk (hnew g16 (by rw [hg_]; exact Nat.le_refl _) (blk_lt hbox)); clear hg_ hsub hnew; (with_reducible refine gate_store_ rfl ?_); refine stU_ rfl rfl rfl rfl rfl hbox rfl (by kernel_rfl) (by simp [Value.oneCell']) ?_; intro W7 hW1 hW2; clear hbox hbb; replace ST := Aside0.mk (hst.put hW2 HK16.out hwg); have K16 := Aside0.mk hW1; replace K5 := Aside0.mk (hW2.blk K5.out hn5); clear hst hwg hW1 hW2 hn5; clear u1; obtain ⟨-, u1, -, -, -, -, -⟩ := cells7 K5.out))
  go_wp2_with (first
    | (go_at_call 9; obtain ⟨okn, vn, hn⟩ := ST.out.at_; refine (net_Net_Back.none_ at_ room c0 c1 c2 c3 vn _ g okn _ hn).mono ?_; rintro e wt ⟨rfl, hb⟩; clear hn okn vn; obtain ⟨fr, hsub, hnew, hst⟩ := ST.out.on hb; replace K5 := Aside0.mk (blk_below K5.out hb); replace HK5 := Aside0.mk (hsub _ HK5.out); replace K16 := Aside0.mk (blk_below K16.out hb); replace HK16 := Aside0.mk (hsub _ HK16.out); replace ST := Aside0.mk hst; clear hsub hnew hst hb; clear u1; obtain ⟨-, u1, -, -, -, -, -⟩ := cells7 K5.out))
  go_ret
  exact ⟨rfl, _, ST.out⟩
set_option maxHeartbeats 8000000 in
set_option maxRecDepth 100000 in
theorem does.k5n (at_ nn x fx tx : Int) (A : Option Addr) (c bn : Nat) {w W : World} {g h : Nat} {free : Nat → Prop} {room c0 c1 c2 c3 : Int} (H : D2 w W g h free room [] c0 c1 c2 c3 [] c0 c1 c2 c3) :
    Calls Try.prog 16 #[.pointer (some ⟨g, 0, none⟩), .pointer (some ⟨h, 0, none⟩), .agg #[.int .i64 5, .int .i64 at_, .int .i64 nn, .int .u8 x, .int .i64 fx, .int .i64 tx, .slice A bn c]] W fun e w' => e = .returned (.bool true) ∧ ∃ fr : Nat → Prop, D2 w w' g h fr room [] c0 c1 c2 c3 [] c0 c1 c2 c3 := by
  obtain ⟨okr0, vr0, hnr⟩ := H.rat
  obtain ⟨AL, cL, hv, _⟩ := hnr.slice_
  subst hv
  have y1 : W.cell? ⟨h, 1, none⟩ = some (.slice AL 0 cL) := hnr.cells.2.1
  have ST := Aside0.mk H
  clear hnr H
  have hu31 := Try.underlying31
  go_enter Try.func16, Try.ntmps16
  go_upto_region 2 with (first
    | ((with_reducible refine gate_dst (N := 5) rfl ?_); refine box_event ?hg (N := 5) ?hd (cs := #[.int .i64 5, .int .i64 at_, .int .i64 nn, .int .u8 x, .int .i64 fx, .int .i64 tx, .slice A bn c]) (t := 47) ?hr ?_; (case hd => rfl); (case hg => rfl); (case hr => first | (go_simp; done) | (go_simp; rfl)); intro g5 hg_ wb hbox hbb; have hwg : w.heap.size ≤ g5 := (by rw [hg_]; exact ST.out.bel.size); obtain ⟨fr, hsub, hnew, hst⟩ := ST.out.on hbb; have HK5 := Aside0.mk (hnew g5 (by rw [hg_]; exact Nat.le_refl _) (blk_lt hbox)); have K5 := Aside0.mk hbox; replace ST := Aside0.mk hst; replace y1 := pw_cell_below hbb y1; clear hwg hg_ hsub hnew hbox hbb hst; obtain ⟨u0, u1, u2, u3, -, -, -⟩ := cells7 K5.out))
  clear y1
  go_upto_region 25 with (fail)
  clear u0
  go_wp2_with (first
    | (go_at_call 13; obtain ⟨okn, vn, hn⟩ := ST.out.at_; refine (net_Net_Spoil.none_ at_ nn x room c0 c1 c2 c3 vn _ g okn _ hn).mono ?_; rintro e wt ⟨rfl, rfl⟩; clear hn okn vn))
  go_ret
  exact ⟨rfl, _, ST.out⟩
set_option maxHeartbeats 8000000 in
set_option maxRecDepth 100000 in
theorem does.k6n (at_ nn x fx tx : Int) (A : Option Addr) (c bn : Nat) {w W : World} {g h : Nat} {free : Nat → Prop} {room c0 c1 c2 c3 : Int} (H : D2 w W g h free room [] c0 c1 c2 c3 [] c0 c1 c2 c3) :
    Calls Try.prog 16 #[.pointer (some ⟨g, 0, none⟩), .pointer (some ⟨h, 0, none⟩), .agg #[.int .i64 6, .int .i64 at_, .int .i64 nn, .int .u8 x, .int .i64 fx, .int .i64 tx, .slice A bn c]] W fun e w' => e = .returned (.bool true) ∧ ∃ fr : Nat → Prop, D2 w w' g h fr room [] c0 c1 c2 c3 [] c0 c1 c2 c3 := by
  obtain ⟨okr0, vr0, hnr⟩ := H.rat
  obtain ⟨AL, cL, hv, _⟩ := hnr.slice_
  subst hv
  have y1 : W.cell? ⟨h, 1, none⟩ = some (.slice AL 0 cL) := hnr.cells.2.1
  have ST := Aside0.mk H
  clear hnr H
  have hu31 := Try.underlying31
  go_enter Try.func16, Try.ntmps16
  go_upto_region 2 with (first
    | ((with_reducible refine gate_dst (N := 5) rfl ?_); refine box_event ?hg (N := 5) ?hd (cs := #[.int .i64 6, .int .i64 at_, .int .i64 nn, .int .u8 x, .int .i64 fx, .int .i64 tx, .slice A bn c]) (t := 47) ?hr ?_; (case hd => rfl); (case hg => rfl); (case hr => first | (go_simp; done) | (go_simp; rfl)); intro g5 hg_ wb hbox hbb; have hwg : w.heap.size ≤ g5 := (by rw [hg_]; exact ST.out.bel.size); obtain ⟨fr, hsub, hnew, hst⟩ := ST.out.on hbb; have HK5 := Aside0.mk (hnew g5 (by rw [hg_]; exact Nat.le_refl _) (blk_lt hbox)); have K5 := Aside0.mk hbox; replace ST := Aside0.mk hst; replace y1 := pw_cell_below hbb y1; clear hwg hg_ hsub hnew hbox hbb hst; obtain ⟨u0, u1, -, -, -, -, -⟩ := cells7 K5.out))
  clear y1
  go_upto_region 32 with (fail)
  clear u0
  go_upto_region 33 with (first
    | (go_at_call 12; obtain ⟨okn, vn, hn⟩ := ST.out.at_; refine (net_Net_Look.none_ at_ room c0 c1 c2 c3 vn _ g okn _ hn).mono ?_; rintro e wt ⟨rfl, hb⟩; clear hn okn vn; obtain ⟨fr, hsub, hnew, hst⟩ := ST.out.on hb; replace K5 := Aside0.mk (blk_below K5.out hb); replace HK5 := Aside0.mk (hsub _ HK5.out); replace ST := Aside0.mk hst; clear hsub hnew hst hb; clear u1; obtain ⟨-, u1, -, -, -, -, -⟩ := cells7 K5.out)
    | ((with_reducible refine gate_dst (N := 20) rfl ?_); refine box_event ?hg (N := 20) ?hd (cs := #[.int .i64 0, .int .i64 0, .slice none 0 0]) (t := 31) ?hr ?_; (case hd => rfl); (case hg => rfl); (case hr => first | (go_simp; done) | (go_simp; rfl)); intro g20 hg_ wb hbox hbb; have hwg : w.heap.size ≤ g20 := (by rw [hg_]; exact ST.out.bel.size); have hn5 : g5 ≠ g20 := (by rw [hg_]; exact Nat.ne_of_lt (blk_lt K5.out)); obtain ⟨fr, hsub, hnew, hst⟩ := ST.out.on hbb; replace K5 := Aside0.mk (blk_below K5.out hbb); replace HK5 := Aside0.mk (hsub _ HK5.out); have HK20 := Aside0.mk (hnew g20 (by rw [hg_]; exact Nat.le_refl _) (blk_lt hbox)); clear hg_ hsub hnew; (with_reducible refine gate_store_ rfl ?_); refine stU_ rfl rfl rfl rfl rfl hbox rfl (by kernel_rfl) (by simp [Value.oneCell']) ?_; intro W7 hW1 hW2; clear hbox hbb; replace ST := Aside0.mk (hst.put hW2 HK20.out hwg); have K20 := Aside0.mk hW1; replace K5 := Aside0.mk (hW2.blk K5.out hn5); clear hst hwg hW1 hW2 hn5; clear u1; obtain ⟨-, u1, -, -, -, -, -⟩ := cells7 K5.out))
  go_wp2
  go_ret
  exact ⟨rfl, _, ST.out⟩
set_option maxHeartbeats 8000000 in
set_option maxRecDepth 100000 in
theorem does.kx (kd at_ nn x fx tx : Int) (A : Option Addr) (c bn : Nat) {w W : World} {g h : Nat} {free : Nat → Prop} {room c0 c1 c2 c3 : Int} {L : List NP} (H : D2 w W g h free room L c0 c1 c2 c3 L c0 c1 c2 c3) (hk : kd < 0 ∨ 6 < kd) :
    Calls Try.prog 16 #[.pointer (some ⟨g, 0, none⟩), .pointer (some ⟨h, 0, none⟩), .agg #[.int .i64 kd, .int .i64 at_, .int .i64 nn, .int .u8 x, .int .i64 fx, .int .i64 tx, .slice A bn c]] W fun e w' => e = .returned (.bool true) ∧ ∃ fr : Nat → Prop, D2 w w' g h fr room L c0 c1 c2 c3 L c0 c1 c2 c3 := by
  have q0 : decide (kd = 0) = false := decide_eq_false (by omega)
  have r0 : (kd == 0) = false := beq_eq_false_iff_ne.2 (by omega)
  have q1 : decide (kd = 1) = false := decide_eq_false (by omega)
  have r1 : (kd == 1) = false := beq_eq_false_iff_ne.2 (by omega)
  have q2 : decide (kd = 2) = false := decide_eq_false (by omega)
  have r2 : (kd == 2) = false := beq_eq_false_iff_ne.2 (by omega)
  have q3 : decide (kd = 3) = false := decide_eq_false (by omega)
  have r3 : (kd == 3) = false := beq_eq_false_iff_ne.2 (by omega)
  have q4 : decide (kd = 4) = false := decide_eq_false (by omega)
  have r4 : (kd == 4) = false := beq_eq_false_iff_ne.2 (by omega)
  have q5 : decide (kd = 5) = false := decide_eq_false (by omega)
  have r5 : (kd == 5) = false := beq_eq_false_iff_ne.2 (by omega)
  have q6 : decide (kd = 6) = false := decide_eq_false (by omega)
  have r6 : (kd == 6) = false := beq_eq_false_iff_ne.2 (by omega)
  clear hk
  obtain ⟨okr0, vr0, hnr⟩ := H.rat
  obtain ⟨AL, cL, hv, _⟩ := hnr.slice_
  subst hv
  have y1 : W.cell? ⟨h, 1, none⟩ = some (.slice AL L.length cL) := hnr.cells.2.1
  have ST := Aside0.mk H
  clear hnr H
  have hu31 := Try.underlying31
  go_enter Try.func16, Try.ntmps16
  go_upto_region 2 with (first
    | ((with_reducible refine gate_dst (N := 5) rfl ?_); refine box_event ?hg (N := 5) ?hd (cs := #[.int .i64 kd, .int .i64 at_, .int .i64 nn, .int .u8 x, .int .i64 fx, .int .i64 tx, .slice A bn c]) (t := 47) ?hr ?_; (case hd => rfl); (case hg => rfl); (case hr => first | (go_simp; done) | (go_simp; rfl)); intro g5 hg_ wb hbox hbb; have hwg : w.heap.size ≤ g5 := (by rw [hg_]; exact ST.out.bel.size); obtain ⟨fr, hsub, hnew, hst⟩ := ST.out.on hbb; have HK5 := Aside0.mk (hnew g5 (by rw [hg_]; exact Nat.le_refl _) (blk_lt hbox)); have K5 := Aside0.mk hbox; replace ST := Aside0.mk hst; replace y1 := pw_cell_below hbb y1; clear hwg hg_ hsub hnew hbox hbb hst; obtain ⟨u0, -, -, -, -, -, -⟩ := cells7 K5.out))
  clear y1
  go_wp2
  go_ret
  exact ⟨rfl, _, ST.out⟩
set_option maxHeartbeats 8000000 in
set_option maxRecDepth 100000 in
theorem does.k4s (at_ nn x fx tx : Int) (A : Option Addr) (c bn : Nat) {w W : World} {g h : Nat} {free : Nat → Prop} {room c0 c1 c2 c3 : Int} {L : List NP} (H : D2 w W g h free room L c0 c1 c2 c3 L c0 c1 c2 c3) (h0 : 0 < L.length) (h1 : (L.length : Int) ≤ 70000) :
    Calls Try.prog 16 #[.pointer (some ⟨g, 0, none⟩), .pointer (some ⟨h, 0, none⟩), .agg #[.int .i64 4, .int .i64 at_, .int .i64 nn, .int .u8 x, .int .i64 fx, .int .i64 tx, .slice A bn c]] W fun e w' => e = .returned (.bool true) ∧ ∃ fr : Nat → Prop, D2 w w' g h fr room (L.eraseIdx (net_idx at_ L.length).toNat ++ [L.getD (net_idx at_ L.length).toNat (0, 0, [])]) c0 c1 c2 c3 (L.eraseIdx (net_idx at_ L.length).toNat ++ [L.getD (net_idx at_ L.length).toNat (0, 0, [])]) c0 c1 c2 c3 := by
  have HI0 := Aside0.mk h0
  have HI1 := Aside0.mk h1
  obtain ⟨i, hi⟩ : ∃ i, (net_idx at_ L.length).toNat = i := ⟨_, rfl⟩
  obtain ⟨p, hp⟩ : ∃ p, L.getD i (0, 0, []) = p := ⟨_, rfl⟩
  rw [hi]
  try rw [hp]
  have HP := Aside0.mk hp
  have HI := Aside0.mk hi
  clear hp hi h0 h1
  obtain ⟨okr0, vr0, hnr⟩ := H.rat
  obtain ⟨AL, cL, hv, _⟩ := hnr.slice_
  subst hv
  have y1 : W.cell? ⟨h, 1, none⟩ = some (.slice AL L.length cL) := hnr.cells.2.1
  have ST := Aside0.mk H
  clear hnr H
  have hu31 := Try.underlying31
  go_enter Try.func16, Try.ntmps16
  go_upto_region 2 with (first
    | ((with_reducible refine gate_dst (N := 5) rfl ?_); refine box_event ?hg (N := 5) ?hd (cs := #[.int .i64 4, .int .i64 at_, .int .i64 nn, .int .u8 x, .int .i64 fx, .int .i64 tx, .slice A bn c]) (t := 47) ?hr ?_; (case hd => rfl); (case hg => rfl); (case hr => first | (go_simp; done) | (go_simp; rfl)); intro g5 hg_ wb hbox hbb; have hwg : w.heap.size ≤ g5 := (by rw [hg_]; exact ST.out.bel.size); obtain ⟨fr, hsub, hnew, hst⟩ := ST.out.on hbb; have HK5 := Aside0.mk (hnew g5 (by rw [hg_]; exact Nat.le_refl _) (blk_lt hbox)); have K5 := Aside0.mk hbox; replace ST := Aside0.mk hst; replace y1 := pw_cell_below hbb y1; clear hwg hg_ hsub hnew hbox hbb hst; obtain ⟨u0, u1, -, -, -, -, -⟩ := cells7 K5.out))
  clear y1
  go_upto_region 20 with (fail)
  clear u0
  go_upto_region 22 with (first
    | (go_at_call 22; refine (D2.rplain at_ ST.out HI0.out HI1.out i p HI.out HP.out).mono ?_; rintro e wt ⟨Ay, cy, fry, frn, rfl, -, hR, -, hfp, hsub, hst, hu⟩; replace K5 := Aside0.mk (hu.blk K5.out (fun h => h HK5.out)); replace HK5 := Aside0.mk (hsub _ HK5.out); have HQ := Aside0.mk (Kd.R_mono hR (fun _ _ => trivial)); have HQF := Aside0.mk (fun k hk => hfp k (hR.1 k hk)); clear hR hfp; replace ST := Aside0.mk hst; clear hsub hst hu; clear u1; obtain ⟨-, u1, -, -, -, -, -⟩ := cells7 K5.out)
    | ((with_reducible refine gate_dst (N := 16) rfl ?_); refine box_event ?hg (N := 16) ?hd (cs := #[.int .i64 0, .int .i64 0, .slice none 0 0]) (t := 31) ?hr ?_; (case hd => rfl); (case hg => rfl); (case hr => first | (go_simp; done) | (go_simp; rfl)); intro gp hg_ wb hbox hbb; have hwg : w.heap.size ≤ gp := (by rw [hg_]; exact ST.out.bel.size); have hn5 : g5 ≠ gp := (by rw [hg_]; exact Nat.ne_of_lt (blk_lt K5.out)); have hq := R_fresh HQ.out hg_; obtain ⟨fr, hsub, hnew, hst⟩ := ST.out.on hbb; replace K5 := Aside0.mk (blk_below K5.out hbb); replace HK5 := Aside0.mk (hsub _ HK5.out); replace HQ := Aside0.mk (Kd.R_below HQ.out hbb); replace HQF := Aside0.mk (fun k hk => hsub k (HQF.out k hk)); have HKp := Aside0.mk (hnew gp (by rw [hg_]; exact Nat.le_refl _) (blk_lt hbox)); clear hg_ hsub hnew; (with_reducible refine gate_store_ rfl ?_); refine stU_ rfl rfl rfl rfl rfl hbox rfl (by kernel_rfl) (by simp [Value.oneCell']) ?_; intro W7 hW1 hW2; clear hbox hbb; replace ST := Aside0.mk (hst.put hW2 HKp.out hwg); have Kp := Aside0.mk hW1; replace K5 := Aside0.mk (hW2.blk K5.out hn5); replace HQ := Aside0.mk (R_off HQ.out hW2 hq); clear hst hwg hW1 hW2 hq hn5; clear u1; obtain ⟨-, u1, -, -, -, -, -⟩ := cells7 K5.out))
  obtain ⟨okp, hokp⟩ : ∃ okp : Nat → Prop, okp = fun k => some k = (Value.slice Ay p.2.2.length cy).ownBlock := ⟨_, rfl⟩
  obtain ⟨okA, vr, hnr, hfr, -, hup⟩ := ST.out.refx (P := okp) (fun k hk => by rw [hokp] at hk; exact ⟨HQF.out k hk.symm, Kd.R_base HQ.out k hk.symm⟩)
  obtain ⟨AL, cL, hv, -, -⟩ := hnr.slice_
  subst hv
  have HUP := Aside0.mk @hup
  have HFR := Aside0.mk hfr
  have NR0 : Aside0 ((Kd.int .u8).R 5 W7 w.heap.size okp (.slice Ay p.2.2.length cy) p.2.2) := ⟨by rw [hokp]; exact Kd.R_tight rfl HQ.out⟩
  have HOP : Aside0 (∀ k, okp k → ¬ okA k ∧ k ≠ h) := ⟨fun k hk => by rw [hokp] at hk; exact HFR.out k (HQF.out k hk.symm)⟩
  have H5P : Aside0 (¬ okp g5) := ⟨fun e => by rw [hokp] at e; obtain ⟨cells, hc⟩ := Kd.R_typed HQ.out g5 e.symm; rw [K5.out] at hc; injection hc with hc; injection hc with _ hc; cases hc⟩
  have PQ := Aside0.mk (show net_Box 45 W7 w.heap.size h gp okA room c0 c1 c2 c3 (L.eraseIdx i) (.slice AL (L.eraseIdx i).length cL) p.1 p.2.1 (.slice Ay p.2.2.length cy) from ⟨hnr, Kp.out, fun k hk e => (HFR.out gp HKp.out).1 (by rw [← e]; exact hk)⟩)
  have HLEN : Aside0 (((L.eraseIdx i).length + 1) * 40 ≤ 140737488355328) := ⟨by have := HI1.out; have := List.length_eraseIdx_le L i; omega⟩
  clear hnr hfr hup hokp HQ HQF Kp HKp u1
  refine start_ (n := 11) (S := fun W_ => W_.cell? ⟨h, 1, none⟩ = some (.slice AL (L.eraseIdx i).length cL) ∧ W_.cell? ⟨gp, 0, none⟩ = some (.int .i64 p.1) ∧ W_.cell? ⟨gp, 1, none⟩ = some (.int .i64 p.2.1) ∧ W_.cell? ⟨gp, 2, none⟩ = some (.slice Ay p.2.2.length cy)) (ds := [10]) #[false, false, false, false, false, false, false, false, false, false, false] (by kernel_rfl) rfl rfl (PQ.out.held (below_drew (Below.refl _ _))) (fun hHeld => ?_); refine with_tabW does.tab22 does.bits22 (fun HT_ HW_ => ?_)
  replace PQ := Aside0.mk (PQ.out.below (below_drew (Below.refl _ _)))
  have HDR := Aside0.mk (below_drew (Below.refl W7.heap.size W7))
  revert PQ hHeld HDR
  generalize W7.drew = wv
  intro hHeld PQ HDR
  refine pure_ (i := 0) (N := some 134) (v := ?_) (a' := ?_) #[true, false, false, false, false, false, false, false, false, false, false] rfl rfl (any_of HT_.out (by kernel_rfl)) (fun _ _ _ h => h) (Or.inl ⟨by rfl, ?_⟩) ?_ ?_
  rotate_left
  ·
    intro w'
    go_simp
    with_reducible rfl
  rotate_left
  ·
    simp only [Act.put, l_1, l_2, l_3, i64_w, i32_w]
    rfl
  refine pure_ (i := 1) (N := some 135) (v := ?_) (a' := ?_) #[true, true, false, false, false, false, false, false, false, false, false] rfl rfl (any_of HT_.out (by kernel_rfl)) (fun _ _ _ h => h) (Or.inl ⟨by rfl, ?_⟩) ?_ ?_
  rotate_left
  ·
    intro w'
    go_simp
    with_reducible rfl
  rotate_left
  ·
    simp only [Act.put, l_1, l_2, l_3, i64_w, i32_w]
    rfl
  refine pure_ (i := 2) (N := some 136) (v := ?_) (a' := ?_) #[true, true, true, false, false, false, false, false, false, false, false] rfl rfl (any_of HT_.out (by kernel_rfl)) (fun _ _ _ h => h) (Or.inl ⟨by rfl, ?_⟩) ?_ ?_
  rotate_left
  ·
    intro w'
    go_simp
    with_reducible rfl
  rotate_left
  ·
    simp only [Act.put, l_1, l_2, l_3, i64_w, i32_w]
    rfl
  refine pure_ (i := 3) (N := some 137) (v := ?_) (a' := ?_) #[true, true, true, true, false, false, false, false, false, false, false] rfl rfl (any_of HT_.out (by kernel_rfl)) (fun _ _ _ h => h) (Or.inl ⟨by rfl, ?_⟩) ?_ ?_
  rotate_left
  ·
    intro w'
    go_simp
    with_reducible rfl
  rotate_left
  ·
    simp only [Act.put, l_1, l_2, l_3, i64_w, i32_w]
    rfl
  refine take_ (i := 4) (N := some 138) (v := ?_) (a' := ?_) #[true, true, true, true, true, false, false, false, false, false, false] rfl rfl (take_ofW HT_.out HW_.out (by kernel_rfl)) (fun _ _ _ h => h) (Or.inl ⟨by rfl, ?_⟩) hHeld ?_ ?_
  rotate_left
  ·
    rintro w' ⟨s0, s1, s2, s3⟩
    go_simp
    with_reducible rfl
  rotate_left
  ·
    simp only [Act.put, l_1, l_2, l_3, i64_w, i32_w]
    rfl
  refine take_ (i := 5) (N := some 139) (v := ?_) (a' := ?_) #[true, true, true, true, true, true, false, false, false, false, false] rfl rfl (take_ofW HT_.out HW_.out (by kernel_rfl)) (fun _ _ _ h => h) (Or.inl ⟨by rfl, ?_⟩) hHeld ?_ ?_
  rotate_left
  ·
    rintro w' ⟨s0, s1, s2, s3⟩
    go_simp
    with_reducible rfl
  rotate_left
  ·
    simp only [Act.put, l_1, l_2, l_3, i64_w, i32_w]
    rfl
  have HBW := Aside0.mk (Nat.le_trans ST.out.bel.size HDR.out.size)
  have NR := Aside0.mk (Kd.R_below NR0.out HDR.out)
  have NU := Aside0.mk (Upd.of_below (S := fun k => okA k ∨ k = h) HDR.out)
  have HDS := Aside0.mk HDR.out.size
  clear HDR NR0
  refine one_ (i := 6) (N := some 140) #[true, true, true, true, true, true, true, false, false, false, false] rfl rfl (one_of HT_.out (by kernel_rfl)) (by decide) (fun K hK => ?_)
  refine event_step (by rfl) (bld31_ (e := 31) (.int .i64 0) (.int .i64 0) (.slice none 0 0) rfl rfl) ?_
  refine hK.out _ _ (PQ.out.held (below_alloc (Below.refl _ _) _)) (fun hHeld => ?_)
  clear hK K
  refine norm_ (a' := ?_) ?_ ?_
  rotate_left
  ·
    show Act.put _ (some 140) _ = _
    simp only [Act.put, l_1, l_2, l_3, i64_w, i32_w]
    rfl
  refine one_ (i := 7) (N := some 141) #[true, true, true, true, true, true, true, true, false, false, false] rfl rfl (one_of HT_.out (by kernel_rfl)) (by decide) (fun K hK => ?_)
  refine Kd.S_append_step (npk 5) (w0 := wv) w.heap.size (by rfl) (.tmp 138) (.tmp 140) 42 31 (.agg #[.int .i64 0, .int .i64 0, .slice none 0 0]) 40 rfl Try.underlying42 net_info31 rfl (by decide) (by decide) (.slice AL (L.eraseIdx i).length cL) (L.eraseIdx i) p [.int .i64 p.1, .int .i64 p.2.1, .slice Ay p.2.2.length cy] (fun k => (okA k ∨ okp k) ∨ wv.heap.size ≤ k) okp rfl rfl (npk_mk p.1 p.2.1 NR.out) ?a1 ?a2 ?a3 (Below.refl _ _) HBW.out ?a4 ?_
  case a1 => exact fun k hk => ⟨Or.inl (Or.inr hk), fun e => (HOP.out k hk).1 (by obtain ⟨f, h0, _⟩ := PQ.out.1.2.2.2; exact h0 k e.symm)⟩
  case a2 => exact fun k hk => Or.inr hk
  case a3 => exact Kd.S_mono PQ.out.1.2.2.2 (fun k hk => ⟨Or.inl (Or.inl hk), fun h2 => (HOP.out k h2).1 hk⟩)
  case a4 => exact HLEN.out
  intro v1 wn hS hb1 hg1 hat1
  obtain ⟨Av, cv, hv1⟩ := Kd.S_slice hS
  rw [List.length_append, List.length_singleton] at hv1
  subst hv1
  have SM := Aside0.mk (PQ.out.grown (by decide) (ok1 := fun k => (okA k ∨ okp k) ∨ wv.heap.size ≤ k) hS hg1 (net_ok1 PQ.out.1.2.1 HOP.out (blk_lt PQ.out.1.2.2.1)))
  clear hS hb1 hg1 hat1
  refine hK.out _ _ SM.out.1 (fun hHeld => ?_)
  clear hK K
  refine norm_ (a' := ?_) ?_ ?_
  rotate_left
  ·
    show Act.put _ (some 141) _ = _
    simp only [Act.put, l_1, l_2, l_3, i64_w, i32_w]
    rfl
  refine pure_ (i := 8) (N := some 142) (v := ?_) (a' := ?_) #[true, true, true, true, true, true, true, true, true, false, false] rfl rfl (any_of HT_.out (by kernel_rfl)) (fun _ _ _ h => h) (Or.inl ⟨by rfl, ?_⟩) ?_ ?_
  rotate_left
  ·
    intro w'
    go_simp
    with_reducible rfl
  rotate_left
  ·
    simp only [Act.put, l_1, l_2, l_3, i64_w, i32_w]
    rfl
  refine pure_ (i := 9) (N := some 143) (v := ?_) (a' := ?_) #[true, true, true, true, true, true, true, true, true, true, false] rfl rfl (any_of HT_.out (by kernel_rfl)) (fun _ _ _ h => h) (Or.inl ⟨by rfl, ?_⟩) ?_ ?_
  rotate_left
  ·
    intro w'
    go_simp
    with_reducible rfl
  rotate_left
  ·
    simp only [Act.put, l_1, l_2, l_3, i64_w, i32_w]
    rfl
  have z1 := SM.out.1.1
  have z2 := SM.out.2.1
  refine last_ (i := 10) (N := none) #[true, true, true, true, true, true, true, true, true, true, true] rfl rfl (one_of HT_.out (by kernel_rfl)) (by decide) (fun K hK => ?_)
  refine skip_ (w1 := ?_) (by rfl) rfl ?_ ?_
  rotate_left
  ·
    go_simp
    rfl
  refine hK.out _ _ ?_
  clear hK K
  refine done_ (done_of HT_.out (by kernel_rfl)) ?_
  clear hHeld HT_ HW_ z1 z2
  have NUF := Aside0.mk (NU.out.trans SM.out.2.2.2.1 (fun _ _ hk => hk))
  replace ST := Aside0.mk (HUP.out SM.out.2.2.1 (fun k hk => hk.imp id (fun e => Nat.le_trans HDS.out e)) NUF.out)
  replace K5 := Aside0.mk (NUF.out.blk K5.out (fun e => e.elim (fun e => (HFR.out g5 HK5.out).1 e) (fun e => (HFR.out g5 HK5.out).2 e)))
  replace HK5 := Aside0.mk (And.intro HK5.out H5P.out)
  clear SM NU NUF PQ NR HUP HFR HOP HBW HDS H5P HLEN
  generalize wn.setCell ⟨h, 1, none⟩ (.slice Av ((L.eraseIdx i).length + 1) cv) = W9 at *
  obtain ⟨-, u1, -, -, -, -, -⟩ := cells7 K5.out
  go_upto_region 23 with (fail)
  go_wp2_with (first
    | (go_at_call 9; refine (D2.back at_ ST.out HI0.out HI1.out i p HI.out HP.out).mono ?_; rintro e wt ⟨frn, rfl, hsub, hst, hu⟩; replace K5 := Aside0.mk (hu.blk K5.out (fun h => h HK5.out)); replace HK5 := Aside0.mk (hsub _ HK5.out); replace ST := Aside0.mk hst; clear hsub hst hu; clear u1; obtain ⟨-, u1, -, -, -, -, -⟩ := cells7 K5.out))
  go_ret
  exact ⟨rfl, _, ST.out⟩
set_option maxHeartbeats 8000000 in
set_option maxRecDepth 100000 in
theorem does.k3s (at_ nn x fx tx : Int) (A : Option Addr) (c bn : Nat) {w W : World} {g h : Nat} {free : Nat → Prop} {room c0 c1 c2 c3 : Int} {L : List NP} (H : D2 w W g h free room L c0 c1 c2 c3 L c0 c1 c2 c3) (h0 : 0 < L.length) (h1 : (L.length : Int) ≤ 70000) (hr : (L.length : Int) < room) (hroom : room ≤ 65536) (hbl : (L.getD (net_idx at_ L.length).toNat (0, 0, [])).2.2.length < 140737488355328) :
    Calls Try.prog 16 #[.pointer (some ⟨g, 0, none⟩), .pointer (some ⟨h, 0, none⟩), .agg #[.int .i64 3, .int .i64 at_, .int .i64 nn, .int .u8 x, .int .i64 fx, .int .i64 tx, .slice A bn c]] W fun e w' => e = .returned (.bool true) ∧ ∃ fr : Nat → Prop, D2 w w' g h fr room (L ++ [L.getD (net_idx at_ L.length).toNat (0, 0, [])]) c0 c1 c2 c3 (L ++ [L.getD (net_idx at_ L.length).toNat (0, 0, [])]) c0 c1 c2 c3 := by
  have q2 : decide ((L.length : Int) < room) = true := decide_eq_true hr
  have HR := Aside0.mk hr
  have HROOM := Aside0.mk hroom
  clear hr hroom
  have HI0 := Aside0.mk h0
  have HI1 := Aside0.mk h1
  have HREST : Aside0 (pelotonref17_Rest.f at_ L.length = some (net_idx at_ L.length)) := ⟨by unfold pelotonref17_Rest.f; rw [if_neg (by omega)]; rfl⟩
  obtain ⟨hi0, hi1⟩ := net_idx.bounds at_ L.length (by omega) (by omega)
  obtain ⟨iI, hi⟩ : ∃ iI, net_idx at_ L.length = iI := ⟨_, rfl⟩
  rw [hi] at hi0 hi1 HREST hbl
  try rw [hi]
  obtain ⟨p, hp⟩ : ∃ p, L.getD iI.toNat (0, 0, []) = p := ⟨_, rfl⟩
  rw [hp] at hbl
  try rw [hp]
  have HP := Aside0.mk hp
  have HI := Aside0.mk (show (net_idx at_ L.length).toNat = iI.toNat from by rw [hi])
  have HBI := Aside0.mk (And.intro hi0 hi1)
  have HBL := Aside0.mk hbl
  have q1 : decide (0 < (L.length : Int)) = true := decide_eq_true (by omega)
  have q3 : decide (0 < L.length) = true := decide_eq_true h0
  have v0 : decide (0 ≤ iI) = true := decide_eq_true hi0
  have v1 : decide (iI < (L.length : Int)) = true := decide_eq_true hi1
  have v2 : (0 ≤ iI ∧ iI < (L.length : Int)) = True := eq_true ⟨hi0, hi1⟩
  have v3 : (0 ≤ iI) = True := eq_true hi0
  have v4 : (iI < (L.length : Int)) = True := eq_true hi1
  have v5 : ((L.length : Int) = 0) = False := eq_false (by omega)
  have v6 : decide ((L.length : Int) = 0) = false := decide_eq_false (by omega)
  have v7 : ((L.length : Int) == 0) = false := beq_eq_false_iff_ne.2 (by omega)
  have v8 : (L.length = 0) = False := eq_false (by omega)
  clear hp hi hi0 hi1 h0 h1 hbl
  obtain ⟨okr0, vr0, hnr⟩ := H.rat
  obtain ⟨AL, cL, hv, _⟩ := hnr.slice_
  subst hv
  have y1 : W.cell? ⟨h, 1, none⟩ = some (.slice AL L.length cL) := hnr.cells.2.1
  have ST := Aside0.mk H
  clear hnr H
  have hu31 := Try.underlying31
  go_enter Try.func16, Try.ntmps16
  go_upto_region 2 with (first
    | ((with_reducible refine gate_dst (N := 5) rfl ?_); refine box_event ?hg (N := 5) ?hd (cs := #[.int .i64 3, .int .i64 at_, .int .i64 nn, .int .u8 x, .int .i64 fx, .int .i64 tx, .slice A bn c]) (t := 47) ?hr ?_; (case hd => rfl); (case hg => rfl); (case hr => first | (go_simp; done) | (go_simp; rfl)); intro g5 hg_ wb hbox hbb; have hwg : w.heap.size ≤ g5 := (by rw [hg_]; exact ST.out.bel.size); obtain ⟨fr, hsub, hnew, hst⟩ := ST.out.on hbb; have HK5 := Aside0.mk (hnew g5 (by rw [hg_]; exact Nat.le_refl _) (blk_lt hbox)); have K5 := Aside0.mk hbox; replace ST := Aside0.mk hst; replace y1 := pw_cell_below hbb y1; clear hwg hg_ hsub hnew hbox hbb hst; obtain ⟨u0, u1, -, -, -, -, -⟩ := cells7 K5.out))
  clear y1
  go_upto_region 13 with (fail)
  clear u0
  obtain ⟨okq, vq, hnq⟩ := ST.out.rat
  have y0 : wb.cell? ⟨h, 0, none⟩ = some (.int .i64 room) := hnq.cells.1
  clear hnq
  go_upto_region 15 with (fail)
  clear y0
  obtain ⟨okr, vr, hnr⟩ := ST.out.rat
  obtain ⟨hL, cap, hv, -, -, -⟩ := Kd.S_form hnr.2.2.2 HI0.out
  subst hv
  have HY1 := Aside0.mk (show wb.cell? ⟨h, 1, none⟩ = some (.slice (some ⟨hL, 0, none⟩) L.length cap) from hnr.cells.2.1)
  obtain ⟨cs, -, hM, hcc⟩ := Kd.S_get hnr.2.2.2 (0, 0, []) iI HBI.out.1 HBI.out.2
  rw [HP.out] at hM
  obtain ⟨vb, rfl, hR⟩ := npk_inv hM
  obtain ⟨Ab, cb, rfl, hlb, hCb⟩ := Kd.R_reads hR
  have HZ0 := Aside0.mk (show wb.cell? ⟨hL, iI.toNat * 3, none⟩ = some (.int .i64 p.1) from by have := hcc 0 _ rfl; rwa [add_plain] at this)
  have HZ1 := Aside0.mk (show wb.cell? ⟨hL, iI.toNat * 3 + 1, none⟩ = some (.int .i64 p.2.1) from by have := hcc 1 _ rfl; rwa [add_plain] at this)
  have HZ2 := Aside0.mk (show wb.cell? ⟨hL, iI.toNat * 3 + 2, none⟩ = some (.slice Ab p.2.2.length cb) from by have := hcc 2 _ rfl; rwa [add_plain] at this)
  have HCb := Aside0.mk hCb
  have HLb := Aside0.mk hlb
  have HU1 := Aside0.mk u1
  clear hnr hM hcc hR hlb hCb u1
  have HGW := Aside0.mk (show w.heap.size ≤ wb.heap.size from ST.out.bel.size)
  go_cut [15] (fun v15 wc => ∃ (gp : Nat), v15 = .pointer (some ⟨gp, 0, none⟩) ∧ Aside0 (Below wb.heap.size wb wc) ∧ Aside0 (wc.heap[gp]? = some (.cells #[.int .i64 p.1, .int .i64 p.2.1, .slice Ab p.2.2.length cb] 31 (0, 0))) ∧ Aside0 (wb.heap.size ≤ gp))
  case first =>
    refine start_ (n := 12) (S := fun W_ => W_.cell? ⟨h, 1, none⟩ = some (.slice (some ⟨hL, 0, none⟩) L.length cap) ∧ W_.cell? ⟨g5, 1, none⟩ = some (.int .i64 at_) ∧ W_.cell? ⟨hL, iI.toNat * 3, none⟩ = some (.int .i64 p.1) ∧ W_.cell? ⟨hL, iI.toNat * 3 + 1, none⟩ = some (.int .i64 p.2.1) ∧ W_.cell? ⟨hL, iI.toNat * 3 + 2, none⟩ = some (.slice Ab p.2.2.length cb)) (ds := [11]) #[false, false, false, false, false, false, false, false, false, false, false, false] (by kernel_rfl) rfl rfl ⟨pw_cell_below (below_drew (Below.refl _ _)) HY1.out, pw_cell_below (below_drew (Below.refl _ _)) HU1.out, pw_cell_below (below_drew (Below.refl _ _)) HZ0.out, pw_cell_below (below_drew (Below.refl _ _)) HZ1.out, pw_cell_below (below_drew (Below.refl _ _)) HZ2.out⟩ (fun hHeld => ?_); refine with_tabW does.tab15 does.bits15 (fun HT_ HW_ => ?_)
    have HBv := Aside0.mk (below_drew (Below.refl wb.heap.size wb))
    have hHeld := hHeld
    generalize wb.drew = wv at *
    refine pure_ (i := 0) (N := some 93) (v := ?_) (a' := ?_) #[true, false, false, false, false, false, false, false, false, false, false, false] rfl rfl (any_of HT_.out (by kernel_rfl)) (fun _ _ _ h => h) (Or.inl ⟨by rfl, ?_⟩) ?_ ?_
    rotate_left
    ·
      intro w'
      go_simp
      with_reducible rfl
    rotate_left
    ·
      simp only [Act.put, l_1, l_2, l_3, i64_w, i32_w]
      rfl
    refine pure_ (i := 1) (N := some 94) (v := ?_) (a' := ?_) #[true, true, false, false, false, false, false, false, false, false, false, false] rfl rfl (any_of HT_.out (by kernel_rfl)) (fun _ _ _ h => h) (Or.inl ⟨by rfl, ?_⟩) ?_ ?_
    rotate_left
    ·
      intro w'
      go_simp
      with_reducible rfl
    rotate_left
    ·
      simp only [Act.put, l_1, l_2, l_3, i64_w, i32_w]
      rfl
    refine pure_ (i := 2) (N := some 95) (v := ?_) (a' := ?_) #[true, true, true, false, false, false, false, false, false, false, false, false] rfl rfl (any_of HT_.out (by kernel_rfl)) (fun _ _ _ h => h) (Or.inl ⟨by rfl, ?_⟩) ?_ ?_
    rotate_left
    ·
      intro w'
      go_simp
      with_reducible rfl
    rotate_left
    ·
      simp only [Act.put, l_1, l_2, l_3, i64_w, i32_w]
      rfl
    refine take_ (i := 3) (N := some 96) (v := ?_) (a' := ?_) #[true, true, true, true, false, false, false, false, false, false, false, false] rfl rfl (take_ofW HT_.out HW_.out (by kernel_rfl)) (fun _ _ _ h => h) (Or.inl ⟨by rfl, ?_⟩) hHeld ?_ ?_
    rotate_left
    ·
      rintro w' ⟨s0, s1, s2, s3, s4⟩
      go_simp
      with_reducible rfl
    rotate_left
    ·
      simp only [Act.put, l_1, l_2, l_3, i64_w, i32_w]
      rfl
    refine pure_ (i := 4) (N := some 97) (v := ?_) (a' := ?_) #[true, true, true, true, true, false, false, false, false, false, false, false] rfl rfl (any_of HT_.out (by kernel_rfl)) (fun _ _ _ h => h) (Or.inl ⟨by rfl, ?_⟩) ?_ ?_
    rotate_left
    ·
      intro w'
      go_simp
      with_reducible rfl
    rotate_left
    ·
      simp only [Act.put, l_1, l_2, l_3, i64_w, i32_w]
      rfl
    refine take_ (i := 5) (N := some 98) (v := ?_) (a' := ?_) #[true, true, true, true, true, true, false, false, false, false, false, false] rfl rfl (take_ofW HT_.out HW_.out (by kernel_rfl)) (fun _ _ _ h => h) (Or.inl ⟨by rfl, ?_⟩) hHeld ?_ ?_
    rotate_left
    ·
      rintro w' ⟨s0, s1, s2, s3, s4⟩
      go_simp
      with_reducible rfl
    rotate_left
    ·
      simp only [Act.put, l_1, l_2, l_3, i64_w, i32_w]
      rfl
    refine pure_ (i := 6) (N := some 99) (v := ?_) (a' := ?_) #[true, true, true, true, true, true, true, false, false, false, false, false] rfl rfl (any_of HT_.out (by kernel_rfl)) (fun _ _ _ h => h) (Or.inl ⟨by rfl, ?_⟩) ?_ ?_
    rotate_left
    ·
      intro w'
      go_simp
      with_reducible rfl
    rotate_left
    ·
      simp only [Act.put, l_1, l_2, l_3, i64_w, i32_w]
      rfl
    refine two_ (i := 7) (j := 10) (Ni := some 100) (Nj := some 15) #[true, true, true, true, true, true, true, true, false, false, false, false] #[true, true, true, true, true, true, true, false, false, false, true, false] rfl rfl rfl rfl (two_of HT_.out (by kernel_rfl)) (by decide) (by decide) (fun K hK => ?_) (fun K hK => ?_)
    ·
      refine call_ 24 #[.int .i64 at_, .int .i64 L.length] (by rfl) rfl ?_ ?_
      · go_simp
      refine (pelotonref17_Rest.calls at_ L.length iI _ HREST.out).mono ?_
      rintro e wo ⟨rfl, hd⟩
      refine ⟨_, rfl, ?_⟩
      replace HBv := Aside0.mk (below_then HBv.out HBv.out.size hd.below)
      clear hd
      refine hK.out _ _ ⟨pw_cell_below HBv.out HY1.out, pw_cell_below HBv.out HU1.out, pw_cell_below HBv.out HZ0.out, pw_cell_below HBv.out HZ1.out, pw_cell_below HBv.out HZ2.out⟩ (fun hHeld => ?_)
      clear hK K
      refine norm_ (a' := ?_) ?_ ?_
      rotate_left
      ·
        show Act.put _ (some 100) _ = _
        simp only [Act.put, l_1, l_2, l_3, i64_w, i32_w]
        rfl
      refine pure_ (i := 8) (N := some 101) (v := ?_) (a' := ?_) #[true, true, true, true, true, true, true, true, true, false, false, false] rfl rfl (any_of HT_.out (by kernel_rfl)) (fun _ _ _ h => h) (Or.inl ⟨by rfl, ?_⟩) ?_ ?_
      rotate_left
      ·
        intro w'
        go_simp
        with_reducible rfl
      rotate_left
      ·
        simp only [Act.put, l_1, l_2, l_3, i64_w, i32_w]
        rfl
      refine take_ (i := 9) (N := some 102) (v := ?_) (a' := ?_) #[true, true, true, true, true, true, true, true, true, true, false, false] rfl rfl (take_ofW HT_.out HW_.out (by kernel_rfl)) (fun _ _ _ h => h) (Or.inl ⟨by rfl, ?_⟩) hHeld ?_ ?_
      rotate_left
      ·
        rintro w' ⟨s0, s1, s2, s3, s4⟩
        go_simp
        with_reducible rfl
      rotate_left
      ·
        simp only [Act.put, l_1, l_2, l_3, i64_w, i32_w]
        rfl
      refine one_ (i := 10) (N := some 15) #[true, true, true, true, true, true, true, true, true, true, true, false] rfl rfl (one_of HT_.out (by kernel_rfl)) (by decide) (fun K hK => ?_)
      refine box_step ?hg (N := 15) ?hd (cs := #[.int .i64 0, .int .i64 0, .slice none 0 0]) (t := 31) ?hr ?_; (case hd => rfl); (case hg => rfl); (case hr => first | (go_simp; done) | (go_simp; rfl)); intro gp hg_ wx hbox hbb; have HGP := Aside0.mk (show wb.heap.size ≤ gp from by rw [hg_]; exact HBv.out.size); replace HBv := Aside0.mk (below_then HBv.out HBv.out.size hbb); have Kp := Aside0.mk hbox; clear hg_ hbox hbb
      refine hK.out _ _ ⟨pw_cell_below HBv.out HY1.out, pw_cell_below HBv.out HU1.out, pw_cell_below HBv.out HZ0.out, pw_cell_below HBv.out HZ1.out, pw_cell_below HBv.out HZ2.out⟩ (fun hHeld => ?_)
      clear hK K
      refine norm_ (a' := ?_) ?_ ?_
      rotate_left
      ·
        show Act.put _ (some 15) _ = _
        simp only [Act.put, l_1, l_2, l_3, i64_w, i32_w]
        rfl
      refine last_ (i := 11) (N := none) #[true, true, true, true, true, true, true, true, true, true, true, true] rfl rfl (one_of HT_.out (by kernel_rfl)) (by decide) (fun K hK => ?_)
      refine stU_step (by rfl) rfl rfl rfl rfl Kp.out rfl (by kernel_rfl) (by simp [Value.oneCell']) ?_
      intro W7 hW1 hW2
      replace HBv := Aside0.mk (Upd.belowB HBv.out HBv.out.size hW2 (fun k e => by have e' : k = gp := e; have := HGP.out; omega))
      replace Kp := Aside0.mk hW1
      refine hK.out _ _ ?_
      clear hK K hW1 hW2
      refine done_ (done_of HT_.out (by kernel_rfl)) ?_
      clear hHeld HT_ HW_
      go_wp2
      go_meet
      case rel => exact ⟨gp, rfl, HBv, Kp, HGP⟩
    ·
      refine box_step ?hg (N := 15) ?hd (cs := #[.int .i64 0, .int .i64 0, .slice none 0 0]) (t := 31) ?hr ?_; (case hd => rfl); (case hg => rfl); (case hr => first | (go_simp; done) | (go_simp; rfl)); intro gp hg_ wx hbox hbb; have HGP := Aside0.mk (show wb.heap.size ≤ gp from by rw [hg_]; exact HBv.out.size); replace HBv := Aside0.mk (below_then HBv.out HBv.out.size hbb); have Kp := Aside0.mk hbox; clear hg_ hbox hbb
      refine hK.out _ _ ⟨pw_cell_below HBv.out HY1.out, pw_cell_below HBv.out HU1.out, pw_cell_below HBv.out HZ0.out, pw_cell_below HBv.out HZ1.out, pw_cell_below HBv.out HZ2.out⟩ (fun hHeld => ?_)
      clear hK K
      refine norm_ (a' := ?_) ?_ ?_
      rotate_left
      ·
        show Act.put _ (some 15) _ = _
        simp only [Act.put, l_1, l_2, l_3, i64_w, i32_w]
        rfl
      refine one_ (i := 7) (N := some 100) #[true, true, true, true, true, true, true, true, false, false, true, false] rfl rfl (one_of HT_.out (by kernel_rfl)) (by decide) (fun K hK => ?_)
      refine call_ 24 #[.int .i64 at_, .int .i64 L.length] (by rfl) rfl ?_ ?_
      · go_simp
      refine (pelotonref17_Rest.calls at_ L.length iI _ HREST.out).mono ?_
      rintro e wo ⟨rfl, hd⟩
      refine ⟨_, rfl, ?_⟩
      replace HBv := Aside0.mk (below_then HBv.out HBv.out.size hd.below)
      replace Kp := Aside0.mk (blk_below Kp.out hd.below)
      clear hd
      refine hK.out _ _ ⟨pw_cell_below HBv.out HY1.out, pw_cell_below HBv.out HU1.out, pw_cell_below HBv.out HZ0.out, pw_cell_below HBv.out HZ1.out, pw_cell_below HBv.out HZ2.out⟩ (fun hHeld => ?_)
      clear hK K
      refine norm_ (a' := ?_) ?_ ?_
      rotate_left
      ·
        show Act.put _ (some 100) _ = _
        simp only [Act.put, l_1, l_2, l_3, i64_w, i32_w]
        rfl
      refine pure_ (i := 8) (N := some 101) (v := ?_) (a' := ?_) #[true, true, true, true, true, true, true, true, true, false, true, false] rfl rfl (any_of HT_.out (by kernel_rfl)) (fun _ _ _ h => h) (Or.inl ⟨by rfl, ?_⟩) ?_ ?_
      rotate_left
      ·
        intro w'
        go_simp
        with_reducible rfl
      rotate_left
      ·
        simp only [Act.put, l_1, l_2, l_3, i64_w, i32_w]
        rfl
      refine take_ (i := 9) (N := some 102) (v := ?_) (a' := ?_) #[true, true, true, true, true, true, true, true, true, true, true, false] rfl rfl (take_ofW HT_.out HW_.out (by kernel_rfl)) (fun _ _ _ h => h) (Or.inl ⟨by rfl, ?_⟩) hHeld ?_ ?_
      rotate_left
      ·
        rintro w' ⟨s0, s1, s2, s3, s4⟩
        go_simp
        with_reducible rfl
      rotate_left
      ·
        simp only [Act.put, l_1, l_2, l_3, i64_w, i32_w]
        rfl
      refine last_ (i := 11) (N := none) #[true, true, true, true, true, true, true, true, true, true, true, true] rfl rfl (one_of HT_.out (by kernel_rfl)) (by decide) (fun K hK => ?_)
      refine stU_step (by rfl) rfl rfl rfl rfl Kp.out rfl (by kernel_rfl) (by simp [Value.oneCell']) ?_
      intro W7 hW1 hW2
      replace HBv := Aside0.mk (Upd.belowB HBv.out HBv.out.size hW2 (fun k e => by have e' : k = gp := e; have := HGP.out; omega))
      replace Kp := Aside0.mk hW1
      refine hK.out _ _ ?_
      clear hK K hW1 hW2
      refine done_ (done_of HT_.out (by kernel_rfl)) ?_
      clear hHeld HT_ HW_
      go_wp2
      go_meet
      case rel => exact ⟨gp, rfl, HBv, Kp, HGP⟩
  case rest =>
    obtain ⟨gp, rfl, HBv, Kp, HGP⟩ := hcut
    obtain ⟨fr1, hsub, hnew, hst⟩ := ST.out.on HBv.out
    replace K5 := Aside0.mk (blk_below K5.out HBv.out)
    replace HK5 := Aside0.mk (hsub _ HK5.out)
    have HKp := Aside0.mk (hnew gp HGP.out (blk_lt Kp.out))
    replace HCb := Aside0.mk (Kd.C_below HCb.out HBv.out)
    replace HGW := Aside0.mk (Nat.le_trans HGW.out HGP.out)
    replace ST := Aside0.mk hst
    clear hsub hnew hst HY1 HU1 HZ0 HZ1 HZ2
    obtain ⟨-, -, x2, -, -, -⟩ := cells3 Kp.out
    go_upto_region 17 with (first
      | ((with_reducible refine gate_dst (N := 103) rfl ?_); refine Kd.R_lit (Kd.int .u8) (w0 := wc) wc.heap.size 5 ?hg (N := 103) ?hd (xs := ([] : List Int)) (inner := []) (ok := fun _ => True) (okp := fun _ => True) ?hr (Reps.none _ _) (fun _ hk => hk) trivial (Below.refl _ _) (Nat.le_refl _) (by simp) ?_; (case hd => rfl); (case hg => rfl); (case hr => first | (go_simp; done) | (go_simp; rfl)); intro vl wl hol hbl hg_ hnew_; have HBx := Aside0.mk hbl; have HQ := Aside0.mk hol; have y2 := pw_cell_below hbl x2; clear x2 hol hbl hg_ hnew_)
      | (at_builtin; refine Kd.R_append_rows (Kd.int .u8) (w0 := wc) wc.heap.size rfl (.tmp 103) (.tmp 105) 28 5 (.int .u8 0) 1 rfl Try.underlying28 u8info_ rfl (by decide) (by omega) vl [] p.2.2 _ _ _ (fun _ => True) (fun _ => False) rfl rfl HQ.out ?aR (fun _ _ h => h) (fun _ h => h.elim) (fun _ _ => trivial) HBx.out HBx.out.size ?aL ?_; (case aR => exact Kd.C_below HCb.out HBx.out); (case aL => (have := HBL.out; simp only [List.length_nil]; omega)); intro vq wn ho hb hg hat; rw [List.nil_append] at ho; obtain ⟨Ay, cy, ev, hlq, -⟩ := Kd.R_reads ho; subst ev; replace HBx := Aside0.mk hb; replace HQ := Aside0.mk ho; have K38 := Aside0.mk (blk_below Kp.out hb); obtain ⟨-, -, y2, -, -, fz2⟩ := cells3 K38.out; clear ho hb hg hat hlq))
    have hux : Upd (fun k => k = gp) wn (wn.setCell ⟨gp, 2, none⟩ (.slice Ay p.2.2.length cy)) := Upd.of_set gp 2 _ rfl
    obtain ⟨fr2, hsub, hnew, hst⟩ := ST.out.on HBx.out
    have hqg : ∀ k, (Value.slice Ay p.2.2.length cy).ownBlock = some k → k ≠ gp := fun k hk e => by have h5 := Kd.R_base HQ.out k hk; have h6 := blk_lt Kp.out; omega
    have HQF := Aside0.mk (fun k hk => hnew k (Kd.R_base HQ.out k hk) (Kd.R_lt HQ.out k hk))
    have HQ2 := Aside0.mk (R_off (Kd.R_lower HQ.out ST.out.bel.size) hux hqg)
    replace K5 := Aside0.mk (hux.blk (blk_below K5.out HBx.out) (blk_ne K5.out Kp.out (by decide)))
    replace HKp := Aside0.mk (hsub _ HKp.out)
    replace HK5 := Aside0.mk (hsub _ HK5.out)
    replace ST := Aside0.mk (hst.put hux HKp.out HGW.out)
    replace Kp := Aside0.mk (show (wn.setCell ⟨gp, 2, none⟩ (.slice Ay p.2.2.length cy)).heap[gp]? = some (.cells #[.int .i64 p.1, .int .i64 p.2.1, .slice Ay p.2.2.length cy] 31 (0, 0)) from blk_put (cs := #[.int .i64 p.1, .int .i64 p.2.1, .slice Ab p.2.2.length cb]) K38.out 2 _ rfl)
    clear HQ
    have HQ := HQ2
    clear HQ2 hux hqg hsub hnew hst HBx HCb HLb K38 y2 fz2 HBv HGP HGW
    generalize wn.setCell ⟨gp, 2, none⟩ (.slice Ay p.2.2.length cy) = W7 at *
    obtain ⟨-, u1, -, -, -, -, -⟩ := cells7 K5.out
    obtain ⟨okp, hokp⟩ : ∃ okp : Nat → Prop, okp = fun k => some k = (Value.slice Ay p.2.2.length cy).ownBlock := ⟨_, rfl⟩
    obtain ⟨okA, vr, hnr, hfr, -, hup⟩ := ST.out.refx (P := okp) (fun k hk => by rw [hokp] at hk; exact ⟨HQF.out k hk.symm, Kd.R_base HQ.out k hk.symm⟩)
    obtain ⟨AL, cL, hv, -, -⟩ := hnr.slice_
    subst hv
    have HUP := Aside0.mk @hup
    have HFR := Aside0.mk hfr
    have NR0 : Aside0 ((Kd.int .u8).R 5 W7 w.heap.size okp (.slice Ay p.2.2.length cy) p.2.2) := ⟨by rw [hokp]; exact Kd.R_tight rfl HQ.out⟩
    have HOP : Aside0 (∀ k, okp k → ¬ okA k ∧ k ≠ h) := ⟨fun k hk => by rw [hokp] at hk; exact HFR.out k (HQF.out k hk.symm)⟩
    have H5P : Aside0 (¬ okp g5) := ⟨fun e => by rw [hokp] at e; obtain ⟨cells, hc⟩ := Kd.R_typed HQ.out g5 e.symm; rw [K5.out] at hc; injection hc with hc; injection hc with _ hc; cases hc⟩
    have PQ := Aside0.mk (show net_Box 45 W7 w.heap.size h gp okA room c0 c1 c2 c3 L (.slice AL L.length cL) p.1 p.2.1 (.slice Ay p.2.2.length cy) from ⟨hnr, Kp.out, fun k hk e => (HFR.out gp HKp.out).1 (by rw [← e]; exact hk)⟩)
    have HLEN : Aside0 ((L.length + 1) * 40 ≤ 140737488355328) := ⟨by have := HI1.out;  omega⟩
    clear hnr hfr hup hokp HQ HQF Kp HKp u1
    refine start_ (n := 11) (S := fun W_ => W_.cell? ⟨h, 1, none⟩ = some (.slice AL L.length cL) ∧ W_.cell? ⟨gp, 0, none⟩ = some (.int .i64 p.1) ∧ W_.cell? ⟨gp, 1, none⟩ = some (.int .i64 p.2.1) ∧ W_.cell? ⟨gp, 2, none⟩ = some (.slice Ay p.2.2.length cy)) (ds := [10]) #[false, false, false, false, false, false, false, false, false, false, false] (by kernel_rfl) rfl rfl (PQ.out.held (below_drew (Below.refl _ _))) (fun hHeld => ?_); refine with_tabW does.tab17 does.bits17 (fun HT_ HW_ => ?_)
    replace PQ := Aside0.mk (PQ.out.below (below_drew (Below.refl _ _)))
    have HDR := Aside0.mk (below_drew (Below.refl W7.heap.size W7))
    revert PQ hHeld HDR
    generalize W7.drew = wv
    intro hHeld PQ HDR
    refine pure_ (i := 0) (N := some 108) (v := ?_) (a' := ?_) #[true, false, false, false, false, false, false, false, false, false, false] rfl rfl (any_of HT_.out (by kernel_rfl)) (fun _ _ _ h => h) (Or.inl ⟨by rfl, ?_⟩) ?_ ?_
    rotate_left
    ·
      intro w'
      go_simp
      with_reducible rfl
    rotate_left
    ·
      simp only [Act.put, l_1, l_2, l_3, i64_w, i32_w]
      rfl
    refine pure_ (i := 1) (N := some 109) (v := ?_) (a' := ?_) #[true, true, false, false, false, false, false, false, false, false, false] rfl rfl (any_of HT_.out (by kernel_rfl)) (fun _ _ _ h => h) (Or.inl ⟨by rfl, ?_⟩) ?_ ?_
    rotate_left
    ·
      intro w'
      go_simp
      with_reducible rfl
    rotate_left
    ·
      simp only [Act.put, l_1, l_2, l_3, i64_w, i32_w]
      rfl
    refine pure_ (i := 2) (N := some 110) (v := ?_) (a' := ?_) #[true, true, true, false, false, false, false, false, false, false, false] rfl rfl (any_of HT_.out (by kernel_rfl)) (fun _ _ _ h => h) (Or.inl ⟨by rfl, ?_⟩) ?_ ?_
    rotate_left
    ·
      intro w'
      go_simp
      with_reducible rfl
    rotate_left
    ·
      simp only [Act.put, l_1, l_2, l_3, i64_w, i32_w]
      rfl
    refine pure_ (i := 3) (N := some 111) (v := ?_) (a' := ?_) #[true, true, true, true, false, false, false, false, false, false, false] rfl rfl (any_of HT_.out (by kernel_rfl)) (fun _ _ _ h => h) (Or.inl ⟨by rfl, ?_⟩) ?_ ?_
    rotate_left
    ·
      intro w'
      go_simp
      with_reducible rfl
    rotate_left
    ·
      simp only [Act.put, l_1, l_2, l_3, i64_w, i32_w]
      rfl
    refine take_ (i := 4) (N := some 112) (v := ?_) (a' := ?_) #[true, true, true, true, true, false, false, false, false, false, false] rfl rfl (take_ofW HT_.out HW_.out (by kernel_rfl)) (fun _ _ _ h => h) (Or.inl ⟨by rfl, ?_⟩) hHeld ?_ ?_
    rotate_left
    ·
      rintro w' ⟨s0, s1, s2, s3⟩
      go_simp
      with_reducible rfl
    rotate_left
    ·
      simp only [Act.put, l_1, l_2, l_3, i64_w, i32_w]
      rfl
    refine take_ (i := 5) (N := some 113) (v := ?_) (a' := ?_) #[true, true, true, true, true, true, false, false, false, false, false] rfl rfl (take_ofW HT_.out HW_.out (by kernel_rfl)) (fun _ _ _ h => h) (Or.inl ⟨by rfl, ?_⟩) hHeld ?_ ?_
    rotate_left
    ·
      rintro w' ⟨s0, s1, s2, s3⟩
      go_simp
      with_reducible rfl
    rotate_left
    ·
      simp only [Act.put, l_1, l_2, l_3, i64_w, i32_w]
      rfl
    have HBW := Aside0.mk (Nat.le_trans ST.out.bel.size HDR.out.size)
    have NR := Aside0.mk (Kd.R_below NR0.out HDR.out)
    have NU := Aside0.mk (Upd.of_below (S := fun k => okA k ∨ k = h) HDR.out)
    have HDS := Aside0.mk HDR.out.size
    clear HDR NR0
    refine one_ (i := 6) (N := some 114) #[true, true, true, true, true, true, true, false, false, false, false] rfl rfl (one_of HT_.out (by kernel_rfl)) (by decide) (fun K hK => ?_)
    refine event_step (by rfl) (bld31_ (e := 31) (.int .i64 0) (.int .i64 0) (.slice none 0 0) rfl rfl) ?_
    refine hK.out _ _ (PQ.out.held (below_alloc (Below.refl _ _) _)) (fun hHeld => ?_)
    clear hK K
    refine norm_ (a' := ?_) ?_ ?_
    rotate_left
    ·
      show Act.put _ (some 114) _ = _
      simp only [Act.put, l_1, l_2, l_3, i64_w, i32_w]
      rfl
    refine one_ (i := 7) (N := some 115) #[true, true, true, true, true, true, true, true, false, false, false] rfl rfl (one_of HT_.out (by kernel_rfl)) (by decide) (fun K hK => ?_)
    refine Kd.S_append_step (npk 5) (w0 := wv) w.heap.size (by rfl) (.tmp 112) (.tmp 114) 42 31 (.agg #[.int .i64 0, .int .i64 0, .slice none 0 0]) 40 rfl Try.underlying42 net_info31 rfl (by decide) (by decide) (.slice AL L.length cL) L p [.int .i64 p.1, .int .i64 p.2.1, .slice Ay p.2.2.length cy] (fun k => (okA k ∨ okp k) ∨ wv.heap.size ≤ k) okp rfl rfl (npk_mk p.1 p.2.1 NR.out) ?a1 ?a2 ?a3 (Below.refl _ _) HBW.out ?a4 ?_
    case a1 => exact fun k hk => ⟨Or.inl (Or.inr hk), fun e => (HOP.out k hk).1 (by obtain ⟨f, h0, _⟩ := PQ.out.1.2.2.2; exact h0 k e.symm)⟩
    case a2 => exact fun k hk => Or.inr hk
    case a3 => exact Kd.S_mono PQ.out.1.2.2.2 (fun k hk => ⟨Or.inl (Or.inl hk), fun h2 => (HOP.out k h2).1 hk⟩)
    case a4 => exact HLEN.out
    intro v1 wn hS hb1 hg1 hat1
    obtain ⟨Av, cv, hv1⟩ := Kd.S_slice hS
    rw [List.length_append, List.length_singleton] at hv1
    subst hv1
    have SM := Aside0.mk (PQ.out.grown (by decide) (ok1 := fun k => (okA k ∨ okp k) ∨ wv.heap.size ≤ k) hS hg1 (net_ok1 PQ.out.1.2.1 HOP.out (blk_lt PQ.out.1.2.2.1)))
    clear hS hb1 hg1 hat1
    refine hK.out _ _ SM.out.1 (fun hHeld => ?_)
    clear hK K
    refine norm_ (a' := ?_) ?_ ?_
    rotate_left
    ·
      show Act.put _ (some 115) _ = _
      simp only [Act.put, l_1, l_2, l_3, i64_w, i32_w]
      rfl
    refine pure_ (i := 8) (N := some 116) (v := ?_) (a' := ?_) #[true, true, true, true, true, true, true, true, true, false, false] rfl rfl (any_of HT_.out (by kernel_rfl)) (fun _ _ _ h => h) (Or.inl ⟨by rfl, ?_⟩) ?_ ?_
    rotate_left
    ·
      intro w'
      go_simp
      with_reducible rfl
    rotate_left
    ·
      simp only [Act.put, l_1, l_2, l_3, i64_w, i32_w]
      rfl
    refine pure_ (i := 9) (N := some 117) (v := ?_) (a' := ?_) #[true, true, true, true, true, true, true, true, true, true, false] rfl rfl (any_of HT_.out (by kernel_rfl)) (fun _ _ _ h => h) (Or.inl ⟨by rfl, ?_⟩) ?_ ?_
    rotate_left
    ·
      intro w'
      go_simp
      with_reducible rfl
    rotate_left
    ·
      simp only [Act.put, l_1, l_2, l_3, i64_w, i32_w]
      rfl
    have z1 := SM.out.1.1
    have z2 := SM.out.2.1
    refine last_ (i := 10) (N := none) #[true, true, true, true, true, true, true, true, true, true, true] rfl rfl (one_of HT_.out (by kernel_rfl)) (by decide) (fun K hK => ?_)
    refine skip_ (w1 := ?_) (by rfl) rfl ?_ ?_
    rotate_left
    ·
      go_simp
      rfl
    refine hK.out _ _ ?_
    clear hK K
    refine done_ (done_of HT_.out (by kernel_rfl)) ?_
    clear hHeld HT_ HW_ z1 z2
    have NUF := Aside0.mk (NU.out.trans SM.out.2.2.2.1 (fun _ _ hk => hk))
    replace ST := Aside0.mk (HUP.out SM.out.2.2.1 (fun k hk => hk.imp id (fun e => Nat.le_trans HDS.out e)) NUF.out)
    replace K5 := Aside0.mk (NUF.out.blk K5.out (fun e => e.elim (fun e => (HFR.out g5 HK5.out).1 e) (fun e => (HFR.out g5 HK5.out).2 e)))
    replace HK5 := Aside0.mk (And.intro HK5.out H5P.out)
    clear SM NU NUF PQ NR HUP HFR HOP HBW HDS H5P HLEN
    generalize wn.setCell ⟨h, 1, none⟩ (.slice Av (L.length + 1) cv) = W9 at *
    obtain ⟨-, u1, -, -, -, -, -⟩ := cells7 K5.out
    go_upto_region 18 with (fail)
    go_wp2_with (first
      | (go_at_call 14; refine (D2.double at_ ST.out HI0.out HR.out HROOM.out iI.toNat p HI.out HP.out HBL.out).mono ?_; rintro e wt ⟨frn, rfl, hsub, hst, hu⟩; replace K5 := Aside0.mk (hu.blk K5.out (fun h => h HK5.out)); replace HK5 := Aside0.mk (hsub _ HK5.out); replace ST := Aside0.mk hst; clear hsub hst hu; clear u1; obtain ⟨-, u1, -, -, -, -, -⟩ := cells7 K5.out))
    go_ret
    exact ⟨rfl, _, ST.out⟩
set_option maxHeartbeats 8000000 in
set_option maxRecDepth 100000 in
theorem does.k6s (at_ nn x fx tx : Int) (A : Option Addr) (c bn : Nat) {w W : World} {g h : Nat} {free : Nat → Prop} {room c0 c1 c2 c3 : Int} {L : List NP} (H : D2 w W g h free room L c0 c1 c2 c3 L c0 c1 c2 c3) (h0 : 0 < L.length) (h1 : (L.length : Int) ≤ 70000) (hbl : (L.getD (net_idx at_ L.length).toNat (0, 0, [])).2.2.length < 140737488355328) :
    Calls Try.prog 16 #[.pointer (some ⟨g, 0, none⟩), .pointer (some ⟨h, 0, none⟩), .agg #[.int .i64 6, .int .i64 at_, .int .i64 nn, .int .u8 x, .int .i64 fx, .int .i64 tx, .slice A bn c]] W fun e w' => e = .returned (.bool true) ∧ ∃ fr : Nat → Prop, D2 w w' g h fr room L c0 c1 c2 c3 L c0 c1 c2 c3 := by
  have HI0 := Aside0.mk h0
  have HI1 := Aside0.mk h1
  have HREST : Aside0 (pelotonref17_Rest.f at_ L.length = some (net_idx at_ L.length)) := ⟨by unfold pelotonref17_Rest.f; rw [if_neg (by omega)]; rfl⟩
  obtain ⟨hi0, hi1⟩ := net_idx.bounds at_ L.length (by omega) (by omega)
  obtain ⟨iI, hi⟩ : ∃ iI, net_idx at_ L.length = iI := ⟨_, rfl⟩
  rw [hi] at hi0 hi1 HREST hbl
  try rw [hi]
  obtain ⟨p, hp⟩ : ∃ p, L.getD iI.toNat (0, 0, []) = p := ⟨_, rfl⟩
  rw [hp] at hbl
  try rw [hp]
  have HP := Aside0.mk hp
  have HI := Aside0.mk (show (net_idx at_ L.length).toNat = iI.toNat from by rw [hi])
  have HBI := Aside0.mk (And.intro hi0 hi1)
  have HBL := Aside0.mk hbl
  have q1 : decide (0 < (L.length : Int)) = true := decide_eq_true (by omega)
  have q3 : decide (0 < L.length) = true := decide_eq_true h0
  have v0 : decide (0 ≤ iI) = true := decide_eq_true hi0
  have v1 : decide (iI < (L.length : Int)) = true := decide_eq_true hi1
  have v2 : (0 ≤ iI ∧ iI < (L.length : Int)) = True := eq_true ⟨hi0, hi1⟩
  have v3 : (0 ≤ iI) = True := eq_true hi0
  have v4 : (iI < (L.length : Int)) = True := eq_true hi1
  have v5 : ((L.length : Int) = 0) = False := eq_false (by omega)
  have v6 : decide ((L.length : Int) = 0) = false := decide_eq_false (by omega)
  have v7 : ((L.length : Int) == 0) = false := beq_eq_false_iff_ne.2 (by omega)
  have v8 : (L.length = 0) = False := eq_false (by omega)
  clear hp hi hi0 hi1 h0 h1 hbl
  obtain ⟨okr0, vr0, hnr⟩ := H.rat
  obtain ⟨AL, cL, hv, _⟩ := hnr.slice_
  subst hv
  have y1 : W.cell? ⟨h, 1, none⟩ = some (.slice AL L.length cL) := hnr.cells.2.1
  have ST := Aside0.mk H
  clear hnr H
  have hu31 := Try.underlying31
  go_enter Try.func16, Try.ntmps16
  go_upto_region 2 with (first
    | ((with_reducible refine gate_dst (N := 5) rfl ?_); refine box_event ?hg (N := 5) ?hd (cs := #[.int .i64 6, .int .i64 at_, .int .i64 nn, .int .u8 x, .int .i64 fx, .int .i64 tx, .slice A bn c]) (t := 47) ?hr ?_; (case hd => rfl); (case hg => rfl); (case hr => first | (go_simp; done) | (go_simp; rfl)); intro g5 hg_ wb hbox hbb; have hwg : w.heap.size ≤ g5 := (by rw [hg_]; exact ST.out.bel.size); obtain ⟨fr, hsub, hnew, hst⟩ := ST.out.on hbb; have HK5 := Aside0.mk (hnew g5 (by rw [hg_]; exact Nat.le_refl _) (blk_lt hbox)); have K5 := Aside0.mk hbox; replace ST := Aside0.mk hst; replace y1 := pw_cell_below hbb y1; clear hwg hg_ hsub hnew hbox hbb hst; obtain ⟨u0, u1, -, -, -, -, -⟩ := cells7 K5.out))
  clear y1
  go_upto_region 32 with (fail)
  clear u0
  go_upto_region 33 with (first
    | (go_at_call 12; refine (D2.look at_ ST.out HI0.out HI1.out iI.toNat p HI.out HP.out HBL.out).mono ?_; rintro e wt ⟨Ay, cy, rfl, hR, hb⟩; obtain ⟨fr, hsub, hnew, hst⟩ := ST.out.on hb; replace K5 := Aside0.mk (blk_below K5.out hb); replace HK5 := Aside0.mk (hsub _ HK5.out); have HQ := Aside0.mk (Kd.R_lower hR ST.out.bel.size); have HQF := Aside0.mk (fun k hk => hnew k (Kd.R_base hR k hk) (Kd.R_lt hR k hk)); replace ST := Aside0.mk hst; clear hsub hnew hst hb hR; clear u1; obtain ⟨-, u1, -, -, -, -, -⟩ := cells7 K5.out)
    | ((with_reducible refine gate_dst (N := 20) rfl ?_); refine box_event ?hg (N := 20) ?hd (cs := #[.int .i64 0, .int .i64 0, .slice none 0 0]) (t := 31) ?hr ?_; (case hd => rfl); (case hg => rfl); (case hr => first | (go_simp; done) | (go_simp; rfl)); intro gp hg_ wb hbox hbb; have hwg : w.heap.size ≤ gp := (by rw [hg_]; exact ST.out.bel.size); have hn5 : g5 ≠ gp := (by rw [hg_]; exact Nat.ne_of_lt (blk_lt K5.out)); have hq := R_fresh HQ.out hg_; obtain ⟨fr, hsub, hnew, hst⟩ := ST.out.on hbb; replace K5 := Aside0.mk (blk_below K5.out hbb); replace HK5 := Aside0.mk (hsub _ HK5.out); replace HQ := Aside0.mk (Kd.R_below HQ.out hbb); replace HQF := Aside0.mk (fun k hk => hsub k (HQF.out k hk)); have HKp := Aside0.mk (hnew gp (by rw [hg_]; exact Nat.le_refl _) (blk_lt hbox)); clear hg_ hsub hnew; (with_reducible refine gate_store_ rfl ?_); refine stU_ rfl rfl rfl rfl rfl hbox rfl (by kernel_rfl) (by simp [Value.oneCell']) ?_; intro W7 hW1 hW2; clear hbox hbb; replace ST := Aside0.mk (hst.put hW2 HKp.out hwg); have Kp := Aside0.mk hW1; replace K5 := Aside0.mk (hW2.blk K5.out hn5); replace HQ := Aside0.mk (R_off HQ.out hW2 hq); clear hst hwg hW1 hW2 hq hn5; clear u1; obtain ⟨-, u1, -, -, -, -, -⟩ := cells7 K5.out))
  go_upto_region 35 with (fail)
  obtain ⟨okr, vr, hnr⟩ := ST.out.rat
  obtain ⟨hL, cap, hv, -, -, -⟩ := Kd.S_form hnr.2.2.2 HI0.out
  subst hv
  have HY1 := Aside0.mk (show W7.cell? ⟨h, 1, none⟩ = some (.slice (some ⟨hL, 0, none⟩) L.length cap) from hnr.cells.2.1)
  obtain ⟨cs, -, hM, hcc⟩ := Kd.S_get hnr.2.2.2 (0, 0, []) iI HBI.out.1 HBI.out.2
  rw [HP.out] at hM
  obtain ⟨vb, rfl, hR⟩ := npk_inv hM
  obtain ⟨Ab, cb, rfl, hlb, hCb⟩ := Kd.R_reads hR
  have HZ0 := Aside0.mk (show W7.cell? ⟨hL, iI.toNat * 3, none⟩ = some (.int .i64 p.1) from by have := hcc 0 _ rfl; rwa [add_plain] at this)
  have HZ1 := Aside0.mk (show W7.cell? ⟨hL, iI.toNat * 3 + 1, none⟩ = some (.int .i64 p.2.1) from by have := hcc 1 _ rfl; rwa [add_plain] at this)
  have HZ2 := Aside0.mk (show W7.cell? ⟨hL, iI.toNat * 3 + 2, none⟩ = some (.slice Ab p.2.2.length cb) from by have := hcc 2 _ rfl; rwa [add_plain] at this)
  have HCb := Aside0.mk hCb
  have HLb := Aside0.mk hlb
  have HU1 := Aside0.mk u1
  clear hnr hM hcc hR hlb hCb u1
  have HSAME : Aside0 (pelotonref17_Same.f p.1 p.2.1 p.2.2 p.1 p.2.1 p.2.2 = some true) := ⟨by unfold pelotonref17_Same.f; simp⟩
  have HCy := Aside0.mk (Kd.R_reads' HQ.out).2.2
  have HLy := Aside0.mk (Kd.R_reads' HQ.out).2.1
  have HB0 := Aside0.mk (show W7.cell? ⟨gp, 0, none⟩ = some (.int .i64 p.1) from (cells3 Kp.out).1)
  have HB1 := Aside0.mk (show W7.cell? ⟨gp, 1, none⟩ = some (.int .i64 p.2.1) from (cells3 Kp.out).2.1)
  have HB2 := Aside0.mk (show W7.cell? ⟨gp, 2, none⟩ = some (.slice Ay p.2.2.length cy) from (cells3 Kp.out).2.2.1)
  clear HQ HQF Kp HKp K5 HK5
  refine start_ (n := 13) (S := fun W_ => W_.cell? ⟨h, 1, none⟩ = some (.slice (some ⟨hL, 0, none⟩) L.length cap) ∧ W_.cell? ⟨g5, 1, none⟩ = some (.int .i64 at_) ∧ W_.cell? ⟨hL, iI.toNat * 3, none⟩ = some (.int .i64 p.1) ∧ W_.cell? ⟨hL, iI.toNat * 3 + 1, none⟩ = some (.int .i64 p.2.1) ∧ W_.cell? ⟨hL, iI.toNat * 3 + 2, none⟩ = some (.slice Ab p.2.2.length cb) ∧ W_.cell? ⟨gp, 0, none⟩ = some (.int .i64 p.1) ∧ W_.cell? ⟨gp, 1, none⟩ = some (.int .i64 p.2.1) ∧ W_.cell? ⟨gp, 2, none⟩ = some (.slice Ay p.2.2.length cy)) (ds := []) #[false, false, false, false, false, false, false, false, false, false, false, false, false] (by kernel_rfl) rfl rfl ⟨pw_cell_below (below_drew (Below.refl _ _)) HY1.out, pw_cell_below (below_drew (Below.refl _ _)) HU1.out, pw_cell_below (below_drew (Below.refl _ _)) HZ0.out, pw_cell_below (below_drew (Below.refl _ _)) HZ1.out, pw_cell_below (below_drew (Below.refl _ _)) HZ2.out, pw_cell_below (below_drew (Below.refl _ _)) HB0.out, pw_cell_below (below_drew (Below.refl _ _)) HB1.out, pw_cell_below (below_drew (Below.refl _ _)) HB2.out⟩ (fun hHeld => ?_); refine with_tabW does.tab35 does.bits35 (fun HT_ HW_ => ?_)
  have HBv := Aside0.mk (below_drew (Below.refl W7.heap.size W7))
  have hHeld := hHeld
  generalize W7.drew = wv at *
  refine take_ (i := 0) (N := some 215) (v := ?_) (a' := ?_) #[true, false, false, false, false, false, false, false, false, false, false, false, false] rfl rfl (take_ofW HT_.out HW_.out (by kernel_rfl)) (fun _ _ _ h => h) (Or.inl ⟨by rfl, ?_⟩) hHeld ?_ ?_
  rotate_left
  ·
    rintro w' ⟨s0, s1, s2, s3, s4, s5, s6, s7⟩
    go_simp
    with_reducible rfl
  rotate_left
  ·
    simp only [Act.put, l_1, l_2, l_3, i64_w, i32_w]
    rfl
  refine pure_ (i := 1) (N := some 216) (v := ?_) (a' := ?_) #[true, true, false, false, false, false, false, false, false, false, false, false, false] rfl rfl (any_of HT_.out (by kernel_rfl)) (fun _ _ _ h => h) (Or.inl ⟨by rfl, ?_⟩) ?_ ?_
  rotate_left
  ·
    intro w'
    go_simp
    with_reducible rfl
  rotate_left
  ·
    simp only [Act.put, l_1, l_2, l_3, i64_w, i32_w]
    rfl
  refine pure_ (i := 2) (N := some 217) (v := ?_) (a' := ?_) #[true, true, true, false, false, false, false, false, false, false, false, false, false] rfl rfl (any_of HT_.out (by kernel_rfl)) (fun _ _ _ h => h) (Or.inl ⟨by rfl, ?_⟩) ?_ ?_
  rotate_left
  ·
    intro w'
    go_simp
    with_reducible rfl
  rotate_left
  ·
    simp only [Act.put, l_1, l_2, l_3, i64_w, i32_w]
    rfl
  refine pure_ (i := 3) (N := some 218) (v := ?_) (a' := ?_) #[true, true, true, true, false, false, false, false, false, false, false, false, false] rfl rfl (any_of HT_.out (by kernel_rfl)) (fun _ _ _ h => h) (Or.inl ⟨by rfl, ?_⟩) ?_ ?_
  rotate_left
  ·
    intro w'
    go_simp
    with_reducible rfl
  rotate_left
  ·
    simp only [Act.put, l_1, l_2, l_3, i64_w, i32_w]
    rfl
  refine take_ (i := 4) (N := some 219) (v := ?_) (a' := ?_) #[true, true, true, true, true, false, false, false, false, false, false, false, false] rfl rfl (take_ofW HT_.out HW_.out (by kernel_rfl)) (fun _ _ _ h => h) (Or.inl ⟨by rfl, ?_⟩) hHeld ?_ ?_
  rotate_left
  ·
    rintro w' ⟨s0, s1, s2, s3, s4, s5, s6, s7⟩
    go_simp
    with_reducible rfl
  rotate_left
  ·
    simp only [Act.put, l_1, l_2, l_3, i64_w, i32_w]
    rfl
  refine pure_ (i := 5) (N := some 220) (v := ?_) (a' := ?_) #[true, true, true, true, true, true, false, false, false, false, false, false, false] rfl rfl (any_of HT_.out (by kernel_rfl)) (fun _ _ _ h => h) (Or.inl ⟨by rfl, ?_⟩) ?_ ?_
  rotate_left
  ·
    intro w'
    go_simp
    with_reducible rfl
  rotate_left
  ·
    simp only [Act.put, l_1, l_2, l_3, i64_w, i32_w]
    rfl
  refine take_ (i := 6) (N := some 221) (v := ?_) (a' := ?_) #[true, true, true, true, true, true, true, false, false, false, false, false, false] rfl rfl (take_ofW HT_.out HW_.out (by kernel_rfl)) (fun _ _ _ h => h) (Or.inl ⟨by rfl, ?_⟩) hHeld ?_ ?_
  rotate_left
  ·
    rintro w' ⟨s0, s1, s2, s3, s4, s5, s6, s7⟩
    go_simp
    with_reducible rfl
  rotate_left
  ·
    simp only [Act.put, l_1, l_2, l_3, i64_w, i32_w]
    rfl
  refine pure_ (i := 7) (N := some 222) (v := ?_) (a' := ?_) #[true, true, true, true, true, true, true, true, false, false, false, false, false] rfl rfl (any_of HT_.out (by kernel_rfl)) (fun _ _ _ h => h) (Or.inl ⟨by rfl, ?_⟩) ?_ ?_
  rotate_left
  ·
    intro w'
    go_simp
    with_reducible rfl
  rotate_left
  ·
    simp only [Act.put, l_1, l_2, l_3, i64_w, i32_w]
    rfl
  refine one_ (i := 8) (N := some 223) #[true, true, true, true, true, true, true, true, true, false, false, false, false] rfl rfl (one_of HT_.out (by kernel_rfl)) (by decide) (fun K hK => ?_)
  refine call_ 24 #[.int .i64 at_, .int .i64 L.length] (by rfl) rfl ?_ ?_
  · go_simp
  refine (pelotonref17_Rest.calls at_ L.length iI _ HREST.out).mono ?_
  rintro e wo ⟨rfl, hd⟩
  refine ⟨_, rfl, ?_⟩
  replace HBv := Aside0.mk (below_then HBv.out HBv.out.size hd.below)
  clear hd
  refine hK.out _ _ ⟨pw_cell_below HBv.out HY1.out, pw_cell_below HBv.out HU1.out, pw_cell_below HBv.out HZ0.out, pw_cell_below HBv.out HZ1.out, pw_cell_below HBv.out HZ2.out, pw_cell_below HBv.out HB0.out, pw_cell_below HBv.out HB1.out, pw_cell_below HBv.out HB2.out⟩ (fun hHeld => ?_)
  clear hK K
  refine norm_ (a' := ?_) ?_ ?_
  rotate_left
  ·
    show Act.put _ (some 223) _ = _
    simp only [Act.put, l_1, l_2, l_3, i64_w, i32_w]
    rfl
  refine pure_ (i := 9) (N := some 224) (v := ?_) (a' := ?_) #[true, true, true, true, true, true, true, true, true, true, false, false, false] rfl rfl (any_of HT_.out (by kernel_rfl)) (fun _ _ _ h => h) (Or.inl ⟨by rfl, ?_⟩) ?_ ?_
  rotate_left
  ·
    intro w'
    go_simp
    with_reducible rfl
  rotate_left
  ·
    simp only [Act.put, l_1, l_2, l_3, i64_w, i32_w]
    rfl
  refine take_ (i := 10) (N := some 225) (v := ?_) (a' := ?_) #[true, true, true, true, true, true, true, true, true, true, true, false, false] rfl rfl (take_ofW HT_.out HW_.out (by kernel_rfl)) (fun _ _ _ h => h) (Or.inl ⟨by rfl, ?_⟩) hHeld ?_ ?_
  rotate_left
  ·
    rintro w' ⟨s0, s1, s2, s3, s4, s5, s6, s7⟩
    go_simp
    with_reducible rfl
  rotate_left
  ·
    simp only [Act.put, l_1, l_2, l_3, i64_w, i32_w]
    rfl
  refine one_ (i := 11) (N := some 226) #[true, true, true, true, true, true, true, true, true, true, true, true, false] rfl rfl (one_of HT_.out (by kernel_rfl)) (by decide) (fun K hK => ?_)
  refine call_ 15 #[.agg #[.int .i64 p.1, .int .i64 p.2.1, .slice Ay p.2.2.length cy], .agg #[.int .i64 p.1, .int .i64 p.2.1, .slice Ab p.2.2.length cb]] (by rfl) rfl ?_ ?_
  · go_simp
  refine (pelotonref17_Same.calls p.1 p.2.1 Ay cy p.2.2 p.1 p.2.1 Ab cb p.2.2 true _ (Kd.C_below HCy.out HBv.out) HLy.out (Kd.C_below HCb.out HBv.out) HLb.out HSAME.out).mono ?_
  rintro e wo2 ⟨rfl, hd⟩
  refine ⟨_, rfl, ?_⟩
  replace HBv := Aside0.mk (below_then HBv.out HBv.out.size hd)
  clear hd
  refine hK.out _ _ ⟨pw_cell_below HBv.out HY1.out, pw_cell_below HBv.out HU1.out, pw_cell_below HBv.out HZ0.out, pw_cell_below HBv.out HZ1.out, pw_cell_below HBv.out HZ2.out, pw_cell_below HBv.out HB0.out, pw_cell_below HBv.out HB1.out, pw_cell_below HBv.out HB2.out⟩ (fun hHeld => ?_)
  clear hK K
  refine norm_ (a' := ?_) ?_ ?_
  rotate_left
  ·
    show Act.put _ (some 226) _ = _
    simp only [Act.put, l_1, l_2, l_3, i64_w, i32_w]
    rfl
  refine pure_ (i := 12) (N := some 6) (v := ?_) (a' := ?_) #[true, true, true, true, true, true, true, true, true, true, true, true, true] rfl rfl (any_of HT_.out (by kernel_rfl)) (fun _ _ _ h => h) (Or.inl ⟨by rfl, ?_⟩) ?_ ?_
  rotate_left
  ·
    intro w'
    go_simp
    with_reducible rfl
  rotate_left
  ·
    simp only [Act.put, l_1, l_2, l_3, i64_w, i32_w]
    rfl
  refine done_ (done_of HT_.out (by kernel_rfl)) ?_
  clear hHeld HT_ HW_
  obtain ⟨frz, -, -, hst⟩ := ST.out.on HBv.out
  replace ST := Aside0.mk hst
  clear hst
  go_wp2
  go_ret
  exact ⟨rfl, _, ST.out⟩
set_option maxHeartbeats 8000000 in
set_option maxRecDepth 100000 in
theorem does.k5s (at_ nn x fx tx : Int) (A : Option Addr) (c bn : Nat) {w W : World} {g h : Nat} {free : Nat → Prop} {room c0 c1 c2 c3 : Int} {L : List NP} (H : D2 w W g h free room L c0 c1 c2 c3 L c0 c1 c2 c3) (h0 : 0 < L.length) (h1 : (L.length : Int) ≤ 70000) (hbl : (L.getD (net_idx at_ L.length).toNat (0, 0, [])).2.2.length < 140737488355328) :
    Calls Try.prog 16 #[.pointer (some ⟨g, 0, none⟩), .pointer (some ⟨h, 0, none⟩), .agg #[.int .i64 5, .int .i64 at_, .int .i64 nn, .int .u8 x, .int .i64 fx, .int .i64 tx, .slice A bn c]] W fun e w' => e = .returned (.bool true) ∧ ∃ fr : Nat → Prop, D2 w w' g h fr room (net_spoil L (net_idx at_ L.length).toNat nn x) c0 c1 c2 c3 (net_spoil L (net_idx at_ L.length).toNat nn x) c0 c1 c2 c3 := by
  have HI0 := Aside0.mk h0
  have HI1 := Aside0.mk h1
  have HREST : Aside0 (pelotonref17_Rest.f at_ L.length = some (net_idx at_ L.length)) := ⟨by unfold pelotonref17_Rest.f; rw [if_neg (by omega)]; rfl⟩
  obtain ⟨hi0, hi1⟩ := net_idx.bounds at_ L.length (by omega) (by omega)
  obtain ⟨iI, hi⟩ : ∃ iI, net_idx at_ L.length = iI := ⟨_, rfl⟩
  rw [hi] at hi0 hi1 HREST hbl
  try rw [hi]
  obtain ⟨p, hp⟩ : ∃ p, L.getD iI.toNat (0, 0, []) = p := ⟨_, rfl⟩
  rw [hp] at hbl
  try rw [hp]
  have HP := Aside0.mk hp
  have HI := Aside0.mk (show (net_idx at_ L.length).toNat = iI.toNat from by rw [hi])
  have HBI := Aside0.mk (And.intro hi0 hi1)
  have HBL := Aside0.mk hbl
  have q1 : decide (0 < (L.length : Int)) = true := decide_eq_true (by omega)
  have q3 : decide (0 < L.length) = true := decide_eq_true h0
  have v0 : decide (0 ≤ iI) = true := decide_eq_true hi0
  have v1 : decide (iI < (L.length : Int)) = true := decide_eq_true hi1
  have v2 : (0 ≤ iI ∧ iI < (L.length : Int)) = True := eq_true ⟨hi0, hi1⟩
  have v3 : (0 ≤ iI) = True := eq_true hi0
  have v4 : (iI < (L.length : Int)) = True := eq_true hi1
  have v5 : ((L.length : Int) = 0) = False := eq_false (by omega)
  have v6 : decide ((L.length : Int) = 0) = false := decide_eq_false (by omega)
  have v7 : ((L.length : Int) == 0) = false := beq_eq_false_iff_ne.2 (by omega)
  have v8 : (L.length = 0) = False := eq_false (by omega)
  clear hp hi hi0 hi1 h0 h1 hbl
  obtain ⟨okr0, vr0, hnr⟩ := H.rat
  obtain ⟨AL, cL, hv, _⟩ := hnr.slice_
  subst hv
  have y1 : W.cell? ⟨h, 1, none⟩ = some (.slice AL L.length cL) := hnr.cells.2.1
  have ST := Aside0.mk H
  clear hnr H
  have hu31 := Try.underlying31
  go_enter Try.func16, Try.ntmps16
  go_upto_region 2 with (first
    | ((with_reducible refine gate_dst (N := 5) rfl ?_); refine box_event ?hg (N := 5) ?hd (cs := #[.int .i64 5, .int .i64 at_, .int .i64 nn, .int .u8 x, .int .i64 fx, .int .i64 tx, .slice A bn c]) (t := 47) ?hr ?_; (case hd => rfl); (case hg => rfl); (case hr => first | (go_simp; done) | (go_simp; rfl)); intro g5 hg_ wb hbox hbb; have hwg : w.heap.size ≤ g5 := (by rw [hg_]; exact ST.out.bel.size); obtain ⟨fr, hsub, hnew, hst⟩ := ST.out.on hbb; have HK5 := Aside0.mk (hnew g5 (by rw [hg_]; exact Nat.le_refl _) (blk_lt hbox)); have K5 := Aside0.mk hbox; replace ST := Aside0.mk hst; replace y1 := pw_cell_below hbb y1; clear hwg hg_ hsub hnew hbox hbb hst; obtain ⟨u0, u1, u2, u3, -, -, -⟩ := cells7 K5.out))
  clear y1
  go_upto_region 25 with (fail)
  clear u0
  go_upto_region 26 with (fail)
  clear u2 u3
  obtain ⟨okr, vr, hnr, hfr, -, hup⟩ := ST.out.ref
  obtain ⟨hL, cap, hv, -, -, -⟩ := Kd.S_form hnr.2.2.2 HI0.out
  subst hv
  have HY1 := Aside0.mk (show wb.cell? ⟨h, 1, none⟩ = some (.slice (some ⟨hL, 0, none⟩) L.length cap) from hnr.cells.2.1)
  obtain ⟨cs, -, hM, hcc⟩ := Kd.S_get hnr.2.2.2 (0, 0, []) iI HBI.out.1 HBI.out.2
  rw [HP.out] at hM
  obtain ⟨vb, rfl, hR⟩ := npk_inv hM
  obtain ⟨Ab, cb, rfl, hlb, hCb⟩ := Kd.R_reads hR
  have HZ0 := Aside0.mk (show wb.cell? ⟨hL, iI.toNat * 3, none⟩ = some (.int .i64 p.1) from by have := hcc 0 _ rfl; rwa [add_plain] at this)
  have HZ1 := Aside0.mk (show wb.cell? ⟨hL, iI.toNat * 3 + 1, none⟩ = some (.int .i64 p.2.1) from by have := hcc 1 _ rfl; rwa [add_plain] at this)
  have HZ2 := Aside0.mk (show wb.cell? ⟨hL, iI.toNat * 3 + 2, none⟩ = some (.slice Ab p.2.2.length cb) from by have := hcc 2 _ rfl; rwa [add_plain] at this)
  have HCb := Aside0.mk hCb
  have HLb := Aside0.mk hlb
  have HU1 := Aside0.mk u1
  have HNR := Aside0.mk hnr
  have HFR := Aside0.mk hfr
  have HUP := Aside0.mk @hup
  clear hfr hup hnr hM hcc hR hlb hCb u1
  refine start_ (n := 12) (S := fun W_ => W_.cell? ⟨h, 1, none⟩ = some (.slice (some ⟨hL, 0, none⟩) L.length cap) ∧ W_.cell? ⟨g5, 1, none⟩ = some (.int .i64 at_) ∧ W_.cell? ⟨hL, iI.toNat * 3 + 2, none⟩ = some (.slice Ab p.2.2.length cb)) (ds := []) #[false, false, false, false, false, false, false, false, false, false, false, false] (by kernel_rfl) rfl rfl ⟨pw_cell_below (below_drew (Below.refl _ _)) HY1.out, pw_cell_below (below_drew (Below.refl _ _)) HU1.out, pw_cell_below (below_drew (Below.refl _ _)) HZ2.out⟩ (fun hHeld => ?_); refine with_tabW does.tab26 does.bits26 (fun HT_ HW_ => ?_)
  have HBv := Aside0.mk (below_drew (Below.refl wb.heap.size wb))
  have hHeld := hHeld
  generalize wb.drew = wv at *
  refine pure_ (i := 0) (N := some 154) (v := ?_) (a' := ?_) #[true, false, false, false, false, false, false, false, false, false, false, false] rfl rfl (any_of HT_.out (by kernel_rfl)) (fun _ _ _ h => h) (Or.inl ⟨by rfl, ?_⟩) ?_ ?_
  rotate_left
  ·
    intro w'
    go_simp
    with_reducible rfl
  rotate_left
  ·
    simp only [Act.put, l_1, l_2, l_3, i64_w, i32_w]
    rfl
  refine pure_ (i := 1) (N := some 155) (v := ?_) (a' := ?_) #[true, true, false, false, false, false, false, false, false, false, false, false] rfl rfl (any_of HT_.out (by kernel_rfl)) (fun _ _ _ h => h) (Or.inl ⟨by rfl, ?_⟩) ?_ ?_
  rotate_left
  ·
    intro w'
    go_simp
    with_reducible rfl
  rotate_left
  ·
    simp only [Act.put, l_1, l_2, l_3, i64_w, i32_w]
    rfl
  refine pure_ (i := 2) (N := some 156) (v := ?_) (a' := ?_) #[true, true, true, false, false, false, false, false, false, false, false, false] rfl rfl (any_of HT_.out (by kernel_rfl)) (fun _ _ _ h => h) (Or.inl ⟨by rfl, ?_⟩) ?_ ?_
  rotate_left
  ·
    intro w'
    go_simp
    with_reducible rfl
  rotate_left
  ·
    simp only [Act.put, l_1, l_2, l_3, i64_w, i32_w]
    rfl
  refine take_ (i := 3) (N := some 157) (v := ?_) (a' := ?_) #[true, true, true, true, false, false, false, false, false, false, false, false] rfl rfl (take_ofW HT_.out HW_.out (by kernel_rfl)) (fun _ _ _ h => h) (Or.inl ⟨by rfl, ?_⟩) hHeld ?_ ?_
  rotate_left
  ·
    rintro w' ⟨s0, s1, s2⟩
    go_simp
    with_reducible rfl
  rotate_left
  ·
    simp only [Act.put, l_1, l_2, l_3, i64_w, i32_w]
    rfl
  refine pure_ (i := 4) (N := some 158) (v := ?_) (a' := ?_) #[true, true, true, true, true, false, false, false, false, false, false, false] rfl rfl (any_of HT_.out (by kernel_rfl)) (fun _ _ _ h => h) (Or.inl ⟨by rfl, ?_⟩) ?_ ?_
  rotate_left
  ·
    intro w'
    go_simp
    with_reducible rfl
  rotate_left
  ·
    simp only [Act.put, l_1, l_2, l_3, i64_w, i32_w]
    rfl
  refine take_ (i := 5) (N := some 159) (v := ?_) (a' := ?_) #[true, true, true, true, true, true, false, false, false, false, false, false] rfl rfl (take_ofW HT_.out HW_.out (by kernel_rfl)) (fun _ _ _ h => h) (Or.inl ⟨by rfl, ?_⟩) hHeld ?_ ?_
  rotate_left
  ·
    rintro w' ⟨s0, s1, s2⟩
    go_simp
    with_reducible rfl
  rotate_left
  ·
    simp only [Act.put, l_1, l_2, l_3, i64_w, i32_w]
    rfl
  refine pure_ (i := 6) (N := some 160) (v := ?_) (a' := ?_) #[true, true, true, true, true, true, true, false, false, false, false, false] rfl rfl (any_of HT_.out (by kernel_rfl)) (fun _ _ _ h => h) (Or.inl ⟨by rfl, ?_⟩) ?_ ?_
  rotate_left
  ·
    intro w'
    go_simp
    with_reducible rfl
  rotate_left
  ·
    simp only [Act.put, l_1, l_2, l_3, i64_w, i32_w]
    rfl
  refine one_ (i := 7) (N := some 161) #[true, true, true, true, true, true, true, true, false, false, false, false] rfl rfl (one_of HT_.out (by kernel_rfl)) (by decide) (fun K hK => ?_)
  refine call_ 24 #[.int .i64 at_, .int .i64 L.length] (by rfl) rfl ?_ ?_
  · go_simp
  refine (pelotonref17_Rest.calls at_ L.length iI _ HREST.out).mono ?_
  rintro e wo ⟨rfl, hd⟩
  refine ⟨_, rfl, ?_⟩
  replace HBv := Aside0.mk (below_then HBv.out HBv.out.size hd.below)
  clear hd
  refine hK.out _ _ ⟨pw_cell_below HBv.out HY1.out, pw_cell_below HBv.out HU1.out, pw_cell_below HBv.out HZ2.out⟩ (fun hHeld => ?_)
  clear hK K
  refine norm_ (a' := ?_) ?_ ?_
  rotate_left
  ·
    show Act.put _ (some 161) _ = _
    simp only [Act.put, l_1, l_2, l_3, i64_w, i32_w]
    rfl
  refine pure_ (i := 8) (N := some 162) (v := ?_) (a' := ?_) #[true, true, true, true, true, true, true, true, true, false, false, false] rfl rfl (any_of HT_.out (by kernel_rfl)) (fun _ _ _ h => h) (Or.inl ⟨by rfl, ?_⟩) ?_ ?_
  rotate_left
  ·
    intro w'
    go_simp
    with_reducible rfl
  rotate_left
  ·
    simp only [Act.put, l_1, l_2, l_3, i64_w, i32_w]
    rfl
  refine pure_ (i := 9) (N := some 163) (v := ?_) (a' := ?_) #[true, true, true, true, true, true, true, true, true, true, false, false] rfl rfl (any_of HT_.out (by kernel_rfl)) (fun _ _ _ h => h) (Or.inl ⟨by rfl, ?_⟩) ?_ ?_
  rotate_left
  ·
    intro w'
    go_simp
    with_reducible rfl
  rotate_left
  ·
    simp only [Act.put, l_1, l_2, l_3, i64_w, i32_w]
    rfl
  refine take_ (i := 10) (N := some 164) (v := ?_) (a' := ?_) #[true, true, true, true, true, true, true, true, true, true, true, false] rfl rfl (take_ofW HT_.out HW_.out (by kernel_rfl)) (fun _ _ _ h => h) (Or.inl ⟨by rfl, ?_⟩) hHeld ?_ ?_
  rotate_left
  ·
    rintro w' ⟨s0, s1, s2⟩
    go_simp
    with_reducible rfl
  rotate_left
  ·
    simp only [Act.put, l_1, l_2, l_3, i64_w, i32_w]
    rfl
  refine pure_ (i := 11) (N := some 18) (v := ?_) (a' := ?_) #[true, true, true, true, true, true, true, true, true, true, true, true] rfl rfl (any_of HT_.out (by kernel_rfl)) (fun _ _ _ h => h) (Or.inl ⟨by rfl, ?_⟩) ?_ ?_
  rotate_left
  ·
    intro w'
    go_simp
    with_reducible rfl
  rotate_left
  ·
    simp only [Act.put, l_1, l_2, l_3, i64_w, i32_w]
    rfl
  refine done_ (done_of HT_.out (by kernel_rfl)) ?_
  clear hHeld HT_ HW_
  by_cases he : p.2.2 = []
  · have q5 : decide (0 < (p.2.2.length : Int)) = false := decide_eq_false (by rw [he]; simp)
    have q6 : decide (0 < p.2.2.length) = false := decide_eq_false (by rw [he]; simp)
    have HE : Aside0 (net_spoil L iI.toNat nn x = L) := ⟨by unfold net_spoil; rw [HP.out, if_pos he]⟩
    clear he HUP HFR HNR HCb HY1 HU1 HZ0 HZ1 HZ2
    obtain ⟨frz, hsub, -, hst⟩ := ST.out.on HBv.out
    replace K5 := Aside0.mk (blk_below K5.out HBv.out)
    replace HK5 := Aside0.mk (hsub _ HK5.out)
    replace ST := Aside0.mk hst
    clear hst hsub
    obtain ⟨-, u1, u2, u3, -, -, -⟩ := cells7 K5.out
    go_upto_region 30 with (fail)
    go_wp2_with (first
      | (go_at_call 13; refine (D2.spoil at_ nn x ST.out HI0.out HI1.out iI.toNat HI.out (by rw [HP.out]; exact HBL.out)).mono ?_; rintro e wt ⟨frn, rfl, hsub, hst, hu⟩; replace K5 := Aside0.mk (hu.blk K5.out (fun h => h HK5.out)); replace HK5 := Aside0.mk (hsub _ HK5.out); replace ST := Aside0.mk hst; clear hsub hst hu; clear u1 u2 u3; obtain ⟨-, u1, u2, u3, -, -, -⟩ := cells7 K5.out))
    go_ret
    exact ⟨rfl, _, by have h := ST.out; rw [HE.out] at h ⊢; exact h⟩
  · have hpos : 0 < p.2.2.length := List.length_pos_iff.2 he
    have hbl := HBL.out
    obtain ⟨hj0, hj1⟩ := net_idx.bounds nn p.2.2.length (by omega) (by omega)
    have HREST2 : Aside0 (pelotonref17_Rest.f nn p.2.2.length = some (net_idx nn p.2.2.length)) := ⟨by unfold pelotonref17_Rest.f; rw [if_neg (by omega)]; rfl⟩
    have HE : Aside0 (net_spoil L iI.toNat nn x = L.set iI.toNat (p.1, p.2.1, p.2.2.set (net_idx nn p.2.2.length).toNat (Go.bits .xor .u8 (rd p.2.2 (net_idx nn p.2.2.length)) x))) := ⟨by unfold net_spoil; rw [HP.out, if_neg he]⟩
    have q5 : decide (0 < (p.2.2.length : Int)) = true := decide_eq_true (by omega)
    have q6 : decide (0 < p.2.2.length) = true := decide_eq_true hpos
    have w5 : ((p.2.2.length : Int) = 0) = False := eq_false (by omega)
    have w6 : decide ((p.2.2.length : Int) = 0) = false := decide_eq_false (by omega)
    have w7 : ((p.2.2.length : Int) == 0) = false := beq_eq_false_iff_ne.2 (by omega)
    have w8 : (p.2.2.length = 0) = False := eq_false (by omega)
    obtain ⟨j, hj⟩ : ∃ j, net_idx nn p.2.2.length = j := ⟨_, rfl⟩
    rw [hj] at hj0 hj1 HREST2 HE
    have HPOS := Aside0.mk hpos
    have HJ := Aside0.mk (And.intro hj0 hj1)
    have s0 : decide (0 ≤ j) = true := decide_eq_true hj0
    have s1 : decide (j < (p.2.2.length : Int)) = true := decide_eq_true hj1
    have s2 : (0 ≤ j ∧ j < (p.2.2.length : Int)) = True := eq_true ⟨hj0, hj1⟩
    have s3 : (0 ≤ j) = True := eq_true hj0
    have s4 : (j < (p.2.2.length : Int)) = True := eq_true hj1
    clear hj hj0 hj1 hpos hbl he HCb HY1 HU1 HZ0 HZ1
    replace K5 := Aside0.mk (blk_below K5.out HBv.out)
    obtain ⟨-, -, u2, -, -, -, -⟩ := cells7 K5.out
    go_upto_region 29 with (first
      | (go_at_call 24; (with_reducible refine (pelotonref17_Rest.calls nn p.2.2.length j _ HREST2.out).mono ?_); rintro e wk ⟨rfl, hd⟩; replace HBv := Aside0.mk (below_then HBv.out HBv.out.size hd.below); replace K5 := Aside0.mk (blk_below K5.out hd.below); clear hd u2))
    obtain ⟨-, -, -, u3, -, -, -⟩ := cells7 K5.out
    have hnk := HNR.out.below HBv.out
    obtain ⟨oki, cs2, -, hM, hcc, hok, hback⟩ := Kd.S_borrow hnk.2.2.2 (0, 0, []) iI HBI.out.1 HBI.out.2
    rw [HP.out] at hM
    obtain ⟨vb, rfl, hR⟩ := npk_inv hM
    have hz2 : wk.cell? ⟨hL, iI.toNat * 3 + 2, none⟩ = some vb := by have := hcc 2 _ rfl; rwa [add_plain] at this
    have hvb := (pw_cell_below HBv.out HZ2.out).symm.trans hz2
    injection hvb with hvb
    subst hvb
    obtain ⟨hb_, cap_, hvb, -, hltb, -⟩ := Kd.R_form hR HPOS.out
    injection hvb with e1 e2 e3
    subst e1; subst e3
    obtain ⟨xc, xf⟩ := Kd.R_cell (0 : Int) hR j HJ.out.1 HJ.out.2
    have hput := Kd.R_putg hR j (Go.bits .xor .u8 (rd p.2.2 j) x)
    have HF := Aside0.mk (hback (x' := (p.1, p.2.1, p.2.2.set j.toNat (Go.bits .xor .u8 (rd p.2.2 j) x))) hput.2 (fun k e => by injection e with e; subst e; exact hR.1 _ rfl) (by
      have hm := npk_mk p.1 p.2.1 (e := 5) (base := w.heap.size) (ok := oki) hput.1
      exact hm))
    have HBO := Aside0.mk (show oki hb_ from hR.1 _ rfl)
    have hne : h ≠ hb_ := fun e => hnk.2.1 (by rw [e]; exact (hok _ HBO.out).1)
    have HNB := Aside0.mk (blk_far hnk.2.2.1 (p := ⟨hb_, j.toNat, none⟩) hne (.int .u8 (Go.bits .xor .u8 (rd p.2.2 j) x)))
    have HUX := Aside0.mk (Upd.of_set (S := fun k => okr k ∨ k = h) (w := wk) hb_ j.toNat (.int .u8 (Go.bits .xor .u8 (rd p.2.2 j) x)) (Or.inl (hok _ HBO.out).1))
    have HUV := Aside0.mk (((Upd.of_below (S := fun k => okr k ∨ k = h) HBv.out).trans HUX.out (fun _ _ hk => hk)).drew)
    have HN3 := Aside0.mk (And.intro hnk.1 hnk.2.1)
    have K5b := Aside0.mk (blk_drew (blk_far K5.out (p := ⟨hb_, j.toNat, none⟩) (fun e => (HFR.out g5 HK5.out).1 (by rw [e]; exact (hok _ HBO.out).1)) (.int .u8 (Go.bits .xor .u8 (rd p.2.2 j) x))))
    replace xc : wk.cell? ⟨hb_, j.toNat, none⟩ = some (.int .u8 (rd p.2.2 j)) := xc
    clear hput hback hR hltb hne hok hnk hM hcc hz2 HZ2
    go_still_tail 10, (by kernel_rfl)
    change wpList _ _ _ _ _ wk.drew
    go_upto_region 30 with (fail)
    obtain ⟨fr9, hs9, -, hst, -⟩ := HUP.out (okp := fun _ => False) (NetAt.drew ⟨HN3.out.1, HN3.out.2, HNB.out, HF.out⟩) (fun k hk => Or.inl hk) (fun k hk => hk.elim) HUV.out
    replace ST := Aside0.mk hst
    replace HK5 := Aside0.mk (hs9 _ HK5.out)
    clear K5
    have K5 := K5b
    clear K5b hst hs9 HUP HUV HUX HNB HF HN3 HBO HNR HFR xc xf u3
    obtain ⟨-, u1, u2, u3, -, -, -⟩ := cells7 K5.out
    go_wp2_with (first
      | (go_at_call 13; refine (D2.spoil at_ nn x ST.out HI0.out HI1.out iI.toNat HI.out (by rw [HP.out]; exact HBL.out)).mono ?_; rintro e wt ⟨frn, rfl, hsub, hst, hu⟩; replace K5 := Aside0.mk (hu.blk K5.out (fun h => h HK5.out)); replace HK5 := Aside0.mk (hsub _ HK5.out); replace ST := Aside0.mk hst; clear hsub hst hu; clear u1 u2 u3; obtain ⟨-, u1, u2, u3, -, -, -⟩ := cells7 K5.out))
    go_ret
    exact ⟨rfl, _, by have h := ST.out; rw [← HE.out] at h; exact h⟩
theorem held7 {W : World} {g t : Nat} {v0 v1 v2 v3 v4 v5 v6 : Value} (h : W.heap[g]? = some (.cells #[v0, v1, v2, v3, v4, v5, v6] t (0, 0))) : W.cell? ⟨g, 4, none⟩ = some v4 ∧ W.cell? ⟨g, 5, none⟩ = some v5 ∧ W.cell? ⟨g, 6, none⟩ = some v6 := ⟨(cells7 h).2.2.2.2.1, (cells7 h).2.2.2.2.2.1, (cells7 h).2.2.2.2.2.2⟩
set_option maxHeartbeats 8000000 in
set_option maxRecDepth 100000 in
theorem does.k0 (at_ nn x fx tx : Int) (A : Option Addr) (c : Nat) (b : List Int) {w W : World} {g h : Nat} {free : Nat → Prop} {room c0 c1 c2 c3 : Int} {L : List NP} (H : D2 w W g h free room L c0 c1 c2 c3 L c0 c1 c2 c3) (hB : Kd.F (Kd.int .u8) W free A b.length b) (hc : b.length ≤ c) (hbl : b.length < 140737488355328) (hroom : room ≤ 65536) (R : List NP × Int × Int × Int) (hR : net_send room [(fx, tx, b)] L c0 c1 0 = R) :
    Calls Try.prog 16 #[.pointer (some ⟨g, 0, none⟩), .pointer (some ⟨h, 0, none⟩), .agg #[.int .i64 0, .int .i64 at_, .int .i64 nn, .int .u8 x, .int .i64 fx, .int .i64 tx, .slice A b.length c]] W fun e w' => e = .returned (.bool true) ∧ ∃ fr : Nat → Prop, D2 w w' g h fr room R.1 R.2.1 R.2.2.1 c2 c3 R.1 R.2.1 R.2.2.1 c2 c3 := by
  have HX := Aside0.mk (And.intro hc (And.intro hbl hroom))
  have HR := Aside0.mk hR
  have HNF := Aside0.mk hB
  clear hc hbl hroom hR hB
  obtain ⟨okr0, vr0, hnr⟩ := H.rat
  obtain ⟨AL, cL, hv, _⟩ := hnr.slice_
  subst hv
  have y1 : W.cell? ⟨h, 1, none⟩ = some (.slice AL L.length cL) := hnr.cells.2.1
  have ST := Aside0.mk H
  clear hnr H
  have hu31 := Try.underlying31
  go_enter Try.func16, Try.ntmps16
  go_upto_region 2 with (first
    | ((with_reducible refine gate_dst (N := 5) rfl ?_); refine box_event ?hg (N := 5) ?hd (cs := #[.int .i64 0, .int .i64 at_, .int .i64 nn, .int .u8 x, .int .i64 fx, .int .i64 tx, .slice A b.length c]) (t := 47) ?hr ?_; (case hd => rfl); (case hg => rfl); (case hr => first | (go_simp; done) | (go_simp; rfl)); intro g5 hg_ wb hbox hbb; have hwg : w.heap.size ≤ g5 := (by rw [hg_]; exact ST.out.bel.size); obtain ⟨fr, hsub, hnew, hst⟩ := ST.out.on hbb; have HK5 := Aside0.mk (hnew g5 (by rw [hg_]; exact Nat.le_refl _) (blk_lt hbox)); have K5 := Aside0.mk hbox; replace ST := Aside0.mk hst; replace HNF := Aside0.mk (Kd.F_mono (Kd.F_below HNF.out hbb) hsub); replace y1 := pw_cell_below hbb y1; clear hwg hg_ hsub hnew hbox hbb hst; obtain ⟨u0, -, -, -, u4, u5, u6⟩ := cells7 K5.out))
  clear y1
  go_upto_region 4 with (fail)
  clear u0
  have HV4 := Aside0.mk u4
  have HV5 := Aside0.mk u5
  have HV6 := Aside0.mk u6
  clear u4 u5 u6
  refine start_ (n := 11) (S := fun W_ => W_.cell? ⟨g5, 4, none⟩ = some (.int .i64 fx) ∧ W_.cell? ⟨g5, 5, none⟩ = some (.int .i64 tx) ∧ W_.cell? ⟨g5, 6, none⟩ = some (.slice A b.length c)) (ds := []) #[false, false, false, false, false, false, false, false, false, false, false] (by kernel_rfl) rfl rfl ⟨pw_cell_below (below_drew (Below.refl _ _)) HV4.out, pw_cell_below (below_drew (Below.refl _ _)) HV5.out, pw_cell_below (below_drew (Below.refl _ _)) HV6.out⟩ (fun hHeld => ?_); refine with_tabW does.tab4 does.bits4 (fun HT_ HW_ => ?_)
  have HBv := Aside0.mk (below_drew (Below.refl wb.heap.size wb))
  have hHeld := hHeld
  
  replace ST := Aside0.mk ST.out.drw
  replace K5 := Aside0.mk (blk_drew K5.out)
  replace HNF := Aside0.mk (Kd.F_below HNF.out HBv.out)
  clear HBv HV4 HV5 HV6
  generalize wb.drew = wv at *
  refine pure_ (i := 0) (N := some 31) (v := ?_) (a' := ?_) #[true, false, false, false, false, false, false, false, false, false, false] rfl rfl (any_of HT_.out (by kernel_rfl)) (fun _ _ _ h => h) (Or.inl ⟨by rfl, ?_⟩) ?_ ?_
  rotate_left
  ·
    intro w'
    go_simp
    with_reducible rfl
  rotate_left
  ·
    simp only [Act.put, l_1, l_2, l_3, i64_w, i32_w]
    rfl
  refine pure_ (i := 1) (N := some 32) (v := ?_) (a' := ?_) #[true, true, false, false, false, false, false, false, false, false, false] rfl rfl (any_of HT_.out (by kernel_rfl)) (fun _ _ _ h => h) (Or.inl ⟨by rfl, ?_⟩) ?_ ?_
  rotate_left
  ·
    intro w'
    go_simp
    with_reducible rfl
  rotate_left
  ·
    simp only [Act.put, l_1, l_2, l_3, i64_w, i32_w]
    rfl
  refine take_ (i := 2) (N := some 33) (v := ?_) (a' := ?_) #[true, true, true, false, false, false, false, false, false, false, false] rfl rfl (take_ofW HT_.out HW_.out (by kernel_rfl)) (fun _ _ _ h => h) (Or.inl ⟨by rfl, ?_⟩) hHeld ?_ ?_
  rotate_left
  ·
    rintro w' ⟨s0, s1, s2⟩
    go_simp
    with_reducible rfl
  rotate_left
  ·
    simp only [Act.put, l_1, l_2, l_3, i64_w, i32_w]
    rfl
  refine pure_ (i := 5) (N := some 36) (v := ?_) (a' := ?_) #[true, true, true, false, false, true, false, false, false, false, false] rfl rfl (any_of HT_.out (by kernel_rfl)) (fun _ _ _ h => h) (Or.inl ⟨by rfl, ?_⟩) ?_ ?_
  rotate_left
  ·
    intro w'
    go_simp
    with_reducible rfl
  rotate_left
  ·
    simp only [Act.put, l_1, l_2, l_3, i64_w, i32_w]
    rfl
  refine pure_ (i := 6) (N := some 37) (v := ?_) (a' := ?_) #[true, true, true, false, false, true, true, false, false, false, false] rfl rfl (any_of HT_.out (by kernel_rfl)) (fun _ _ _ h => h) (Or.inl ⟨by rfl, ?_⟩) ?_ ?_
  rotate_left
  ·
    intro w'
    go_simp
    with_reducible rfl
  rotate_left
  ·
    simp only [Act.put, l_1, l_2, l_3, i64_w, i32_w]
    rfl
  refine take_ (i := 7) (N := some 38) (v := ?_) (a' := ?_) #[true, true, true, false, false, true, true, true, false, false, false] rfl rfl (take_ofW HT_.out HW_.out (by kernel_rfl)) (fun _ _ _ h => h) (Or.inl ⟨by rfl, ?_⟩) hHeld ?_ ?_
  rotate_left
  ·
    rintro w' ⟨s0, s1, s2⟩
    go_simp
    with_reducible rfl
  rotate_left
  ·
    simp only [Act.put, l_1, l_2, l_3, i64_w, i32_w]
    rfl
  refine one_ (i := 3) (N := some 34) #[true, true, true, true, false, true, true, true, false, false, false] rfl rfl (one_of HT_.out (by kernel_rfl)) (by decide) (fun K hK => ?_)
  refine event_step (by rfl) (bld31_ (e := 31) (.int .i64 0) (.int .i64 0) (.slice none 0 0) rfl rfl) ?_
  have hkl : (wv.alloc (.cells #[.int .i64 fx, .int .i64 tx, .slice A b.length c] 31)).heap[wv.heap.size]? = some (.cells #[.int .i64 fx, .int .i64 tx, .slice A b.length c] 31) := heap_alloc_last wv _
  have hbl : Below wv.heap.size wv (wv.alloc (.cells #[.int .i64 fx, .int .i64 tx, .slice A b.length c] 31)) := below_alloc (Below.refl _ _) _
  obtain ⟨fr1, hsub, hnew, hst⟩ := ST.out.on hbl
  replace K5 := Aside0.mk (blk_below K5.out hbl)
  replace HK5 := Aside0.mk (hsub _ HK5.out)
  replace HNF := Aside0.mk (Kd.F_mono (Kd.F_below HNF.out hbl) hsub)
  replace ST := Aside0.mk hst
  have HFP := Aside0.mk (Kd.F_mono (npk_F1 hkl HX.out.1 HNF.out) (fun k hk => hk.elim (fun e => hnew k (by rw [e]; exact Nat.le_refl _) (by rw [e]; exact blk_lt hkl)) (fun e => e)))
  clear hkl hbl hsub hnew hst
  generalize wv.alloc (.cells #[.int .i64 fx, .int .i64 tx, .slice A b.length c] 31) = wl at *
  refine hK.out _ _ (held7 K5.out) (fun hHeld => ?_)
  clear hK K
  refine norm_ (a' := ?_) ?_ ?_
  rotate_left
  ·
    show Act.put _ (some 34) _ = _
    simp only [Act.put, l_1, l_2, l_3, i64_w, i32_w]
    rfl
  refine one_ (i := 4) (N := some 35) #[true, true, true, true, true, true, true, true, false, false, false] rfl rfl (one_of HT_.out (by kernel_rfl)) (by decide) (fun K hK => ?_)
  refine call_ 8 #[.pointer (some ⟨g, 0, none⟩), .slice (some ⟨wv.heap.size, 0, none⟩) 1 1] (by rfl) rfl ?_ ?_
  · go_simp
  refine (D2.send 1 rfl ST.out HFP.out (Nat.le_refl _) HX.out.2.2 (by simp) (fun q hq => by simp only [List.mem_singleton] at hq; subst hq; exact HX.out.2.1) HR.out).mono ?_
  rintro e ws ⟨fr2, rfl, hsub, hst, hu⟩
  refine ⟨_, rfl, ?_⟩
  replace K5 := Aside0.mk (hu.blk K5.out (fun h => h HK5.out))
  replace HNF := Aside0.mk (Kd.F_mono (Kd.F_step HNF.out (fun k hk hlt => hu.2.2.2.2 k hlt (fun h => h hk))) hsub)
  replace HK5 := Aside0.mk (hsub _ HK5.out)
  replace ST := Aside0.mk hst
  clear hsub hst hu HFP
  refine hK.out _ _ (held7 K5.out) (fun hHeld => ?_)
  clear hK K
  refine norm_ (a' := ?_) ?_ ?_
  rotate_left
  ·
    show Act.put _ (some 35) _ = _
    simp only [Act.put, l_1, l_2, l_3, i64_w, i32_w]
    rfl
  refine one_ (i := 8) (N := some 39) #[true, true, true, true, true, true, true, true, true, false, false] rfl rfl (one_of HT_.out (by kernel_rfl)) (by decide) (fun K hK => ?_)
  refine call_ 21 #[.pointer (some ⟨h, 0, none⟩), .agg #[.int .i64 fx, .int .i64 tx, .slice A b.length c]] (by rfl) rfl ?_ ?_
  · go_simp
  refine (D2.rsend fx tx b A c ST.out HNF.out HX.out.1 HX.out.2.2 HX.out.2.1 HR.out).mono ?_
  rintro e wq ⟨fr3, rfl, hsub, hst, hu⟩
  refine ⟨_, rfl, ?_⟩
  replace K5 := Aside0.mk (hu.blk K5.out (fun h => h HK5.out))
  replace ST := Aside0.mk hst
  clear hsub hst hu HNF HK5
  refine hK.out _ _ (held7 K5.out) (fun hHeld => ?_)
  clear hK K
  refine norm_ (a' := ?_) ?_ ?_
  rotate_left
  ·
    show Act.put _ (some 39) _ = _
    simp only [Act.put, l_1, l_2, l_3, i64_w, i32_w]
    rfl
  refine pure_ (i := 9) (N := some 40) (v := ?_) (a' := ?_) #[true, true, true, true, true, true, true, true, true, true, false] rfl rfl (any_of HT_.out (by kernel_rfl)) (fun _ _ _ h => h) (Or.inl ⟨by rfl, ?_⟩) ?_ ?_
  rotate_left
  ·
    intro w'
    go_simp
    with_reducible rfl
  rotate_left
  ·
    simp only [Act.put, l_1, l_2, l_3, i64_w, i32_w]
    rfl
  refine pure_ (i := 10) (N := some 6) (v := ?_) (a' := ?_) #[true, true, true, true, true, true, true, true, true, true, true] rfl rfl (any_of HT_.out (by kernel_rfl)) (fun _ _ _ h => h) (Or.inl ⟨by rfl, ?_⟩) ?_ ?_
  rotate_left
  ·
    intro w'
    go_simp
    with_reducible rfl
  rotate_left
  ·
    simp only [Act.put, l_1, l_2, l_3, i64_w, i32_w]
    rfl
  refine done_ (done_of HT_.out (by kernel_rfl)) ?_
  clear hHeld HT_ HW_
  go_wp2
  go_ret
  exact ⟨by simp, _, ST.out⟩
end Go.Proofs.Ytpaamdppobcmnaa.QNetActs
