-- Written by a program of this session (a turned copy of the print) out of the translation. Lean checks it.
import Derived.Test.YtpaamdppobcmnaaQNetOrdersx0
import Derived.Test.YtpaamdppobcmnaaQNetOrdersx1
namespace Go.Proofs.Ytpaamdppobcmnaa.QNetOrders
open Go.RowKit Go.Proofs.YtpaamdppobcmnaaW.PrintWords Go.Proofs.YtpaamdppobcmnaaW.PrintLast Go.Proofs.YtpaamdppobcmnaaW.PrintMore
attribute [local go_sem] max2_int min2_int max_two min_two max_three min_three max_four min_four   -- for this text's walks alone
open Go.Proofs.YtpaamdppobcmnaaW.PrintWords renaming below_alloc → b_a, pw_below_drewN → b_n, below_drew1 → b_d, below_set → b_s, blk_drewN → k_n, blk_drew → k_d, blk_alloc → k_a
open List renaming setIfInBounds_toArray → l_1, set_cons_zero → l_2, set_cons_succ → l_3, map_toArray → l_4, map_cons → l_5, map_nil → l_6, length_drop → l_7, length_take → l_8
set_option linter.unusedVariables false
set_option linter.unusedSimpArgs false

/-! ### pelotonlaw17_awake: function 6, by hand -/
theorem konst_ {P : Program} {ops : Array Oper} {rest : List Oper} {o1 o2 : Oper} {a : Act} {Q : Exit → Act → World → Prop} {W : World} (s : Tmp) (n : Nat) (C : Array Value) (t e : TypeId) (h1 : o1.guard = none) (h2 : o2.guard = none) (hd1 : o1.dst = some s) (hr1 : (execOp a.eval o1).run P W = .ok (.value (.slice (some ⟨W.heap.size, 0, none⟩) n n)) (W.alloc (.cells C e)))
    (ho2 : o2.op = .convert t t (.tmp s)) (hev : (a.put (some s) (.slice (some ⟨W.heap.size, 0, none⟩) n n)).eval (.tmp s) = .slice (some ⟨W.heap.size, 0, none⟩) n n) (ht : P.underlying t = some (.slice e)) (he : P.underlying e = some (.int .u8))
    (h : ∀ g W', g = W.heap.size → W'.heap[g]? = some (.cells C e (C.size, C.size + 1)) → Below W.heap.size W W' → wpList P ops Q rest ((a.put (some s) (.slice (some ⟨g, 0, none⟩) n n)).put o2.dst (.slice (some ⟨g, 0, none⟩) n n)) W') : wpList P ops Q (o1 :: o2 :: rest) a W := by
  refine Kd.event_run h1 hr1 ?_
  rw [hd1]
  have hr2 : (execOp (a.put (some s) (.slice (some ⟨W.heap.size, 0, none⟩) n n)).eval o2).run P (W.alloc (.cells C e)) = .ok (.value (.slice (some ⟨W.heap.size, 0, none⟩) n n)) (W.alloc (.cells C e (C.size, C.size + 1))) := by
    unfold execOp
    simp only [ho2, hev, Sem.run_bind, Lib.run_convert_bytes_const W t e C n n ht he, Result.andThen_ok]
    rfl
  exact Kd.event_run h2 hr2 (h _ _ rfl (heap_alloc_last W _) (below_alloc (Below.refl _ _) _))
theorem blkF {k : IntKind} {w : World} {g : Nat} {l : List Int} {t : TypeId} {fr : Nat × Nat} (hn : l.length ≤ 9223372036854775807) (h : w.heap[g]? = some (.cells (l.map (Value.int k)).toArray t fr)) : Kd.F (Kd.int k) w (fun j => j = g) (some ⟨g, 0, none⟩) l.length l :=
  fun W' hW => C_blk hn ((hW g rfl (blk_lt h)).trans h)
theorem npk_F {W : World} {gl t : Nat} {fr : Nat × Nat} {ok : Nat → Prop} (ls : List (NP × Option Addr × Nat)) (cs : List Value) (hcs : ∀ (j : Nat) (x : NP × Option Addr × Nat), ls[j]? = some x → (cs.drop (j * 3)).take 3 = [.int .i64 x.1.1, .int .i64 x.1.2.1, .slice x.2.1 x.1.2.2.length x.2.2]) (hb : W.heap[gl]? = some (.cells cs.toArray t fr)) (hF : ∀ (j : Nat) (x : NP × Option Addr × Nat), ls[j]? = some x → x.1.2.2.length ≤ x.2.2 ∧ Kd.F (Kd.int .u8) W ok x.2.1 x.1.2.2.length x.1.2.2) (hn : ls.length ≤ 9223372036854775807) :
    Kd.F (npk 5) W (fun k => k = gl ∨ ok k) (some ⟨gl, 0, none⟩) ls.length (ls.map (·.1)) := by
  intro W' hW
  have hb' : W'.heap[gl]? = some (.cells cs.toArray t fr) := (hW gl (Or.inl rfl) (blk_lt hb)).trans hb
  refine ⟨by simp, hn, fun _ => ⟨⟨gl, 0, none⟩, rfl, fun j p hj => ?_⟩⟩
  rw [List.getElem?_map] at hj
  obtain ⟨x, hx, rfl⟩ := Option.map_eq_some_iff.1 hj
  obtain ⟨h1, h2⟩ := hF j x hx
  refine ⟨(cs.drop (j * 3)).take 3, by rw [hcs j x hx]; rfl, by rw [hcs j x hx]; exact npk_mkK _ _ h1 (h2 W' (fun k hk hlt => hW k (Or.inr hk) hlt)), fun i u hu => ?_⟩
  rw [List.getElem?_take] at hu
  split at hu
  · rw [List.getElem?_drop] at hu
    show W'.cell? ((⟨gl, 0, none⟩ : Addr).add (j * 3 + i)) = some u
    rw [add_plain, cell_of_row W' gl _ _ t fr hb']
    simpa using hu
  · cases hu
theorem npk_F3 {W : World} {gl t : Nat} {fr : Nat × Nat} {ok : Nat → Prop} {x0 y0 x1 y1 x2 y2 : Int} {b0 b1 b2 : List Int} {A0 A1 A2 : Option Addr} {c0 c1 c2 : Nat} (hb : W.heap[gl]? = some (.cells #[.int .i64 x0, .int .i64 y0, .slice A0 b0.length c0, .int .i64 x1, .int .i64 y1, .slice A1 b1.length c1, .int .i64 x2, .int .i64 y2, .slice A2 b2.length c2] t fr)) (h0 : b0.length ≤ c0) (h1 : b1.length ≤ c1) (h2 : b2.length ≤ c2) (f0 : Kd.F (Kd.int .u8) W ok A0 b0.length b0) (f1 : Kd.F (Kd.int .u8) W ok A1 b1.length b1) (f2 : Kd.F (Kd.int .u8) W ok A2 b2.length b2) :
    Kd.F (npk 5) W (fun k => k = gl ∨ ok k) (some ⟨gl, 0, none⟩) 3 [(x0, y0, b0), (x1, y1, b1), (x2, y2, b2)] :=
  npk_F [((x0, y0, b0), A0, c0), ((x1, y1, b1), A1, c1), ((x2, y2, b2), A2, c2)] [.int .i64 x0, .int .i64 y0, .slice A0 b0.length c0, .int .i64 x1, .int .i64 y1, .slice A1 b1.length c1, .int .i64 x2, .int .i64 y2, .slice A2 b2.length c2]
    (fun j x hj => by
      match j with
      | 0 => obtain rfl := Option.some.inj hj; rfl
      | 1 => obtain rfl := Option.some.inj hj; rfl
      | 2 => obtain rfl := Option.some.inj hj; rfl
      | j + 3 => cases hj) hb
    (fun j x hj => by
      match j with
      | 0 => obtain rfl := Option.some.inj hj; exact ⟨h0, f0⟩
      | 1 => obtain rfl := Option.some.inj hj; exact ⟨h1, f1⟩
      | 2 => obtain rfl := Option.some.inj hj; exact ⟨h2, f2⟩
      | j + 3 => cases hj) (by simp)
theorem npk_F1 {W : World} {gl t : Nat} {fr : Nat × Nat} {ok : Nat → Prop} {x0 y0 : Int} {b0 : List Int} {A0 : Option Addr} {c0 : Nat} (hb : W.heap[gl]? = some (.cells #[.int .i64 x0, .int .i64 y0, .slice A0 b0.length c0] t fr)) (h0 : b0.length ≤ c0) (f0 : Kd.F (Kd.int .u8) W ok A0 b0.length b0) :
    Kd.F (npk 5) W (fun k => k = gl ∨ ok k) (some ⟨gl, 0, none⟩) 1 [(x0, y0, b0)] :=
  npk_F [((x0, y0, b0), A0, c0)] [.int .i64 x0, .int .i64 y0, .slice A0 b0.length c0]
    (fun j x hj => by
      match j with
      | 0 => obtain rfl := Option.some.inj hj; rfl
      | j + 1 => cases hj) hb
    (fun j x hj => by
      match j with
      | 0 => obtain rfl := Option.some.inj hj; exact ⟨h0, f0⟩
      | j + 1 => cases hj) (by simp)
theorem lit_ {P : Program} {ops : Array Oper} {rest : List Oper} {o : Oper} {a : Act} {Q : Exit → Act → World → Prop} {W : World} (hgd : o.guard = none) {N : Tmp} (hd : o.dst = some N) {cells : Array Value} {n : Nat} {e : TypeId} (hrun : (execOp a.eval o).run P W = .ok (.value (.slice (some ⟨W.heap.size, 0, none⟩) n n)) (W.alloc (.cells cells e)))
    (h : ∀ g W', g = W.heap.size → W'.heap[g]? = some (.cells cells e (0, 0)) → Below W.heap.size W W' → wpList P ops Q rest (a.put (some N) (.slice (some ⟨g, 0, none⟩) n n)) W') : wpList P ops Q (o :: rest) a W := by
  refine Kd.event_run hgd hrun ?_
  rw [hd]
  exact h _ _ rfl (heap_alloc_last W _) (below_alloc (Below.refl _ _) _)
theorem bld33_ {P : Program} {ev : Operand → Value} {o : Oper} {W : World} {t e : TypeId} {x y z : Operand} {v0 v1 v2 u0 u1 u2 t0 t1 t2 : Value} (z0 z1 z2 : Value) (ho : o.op = .buildSlice t 3 #[(0, x), (1, y), (2, z)]) (hx : ev x = .agg #[v0, v1, v2]) (hy : ev y = .agg #[u0, u1, u2]) (hz : ev z = .agg #[t0, t1, t2]) (hu : P.underlying t = some (.slice e) := by kernel_rfl) (hi : (P.info? e).map (fun i => (i.zero, i.size)) = some (some (.agg #[z0, z1, z2]), 3) := by kernel_rfl) :
    (execOp ev o).run P W = .ok (.value (.slice (some ⟨W.heap.size, 0, none⟩) 3 3)) (W.alloc (.cells #[v0, v1, v2, u0, u1, u2, t0, t1, t2] e)) :=
  bld_ 3 (.agg #[z0, z1, z2]) ho rfl (by simp only [l_4, l_5, l_6, List.map_toArray, List.map_cons, List.map_nil, hx, hy, hz]; kernel_rfl) hu hi rfl rfl
/-! a law's own state with one net: what is free is none of the net's -/
def LS (w W : World) (g : Nat) (free : Nat → Prop) (room : Int) (L : List NP) (c0 c1 c2 c3 : Int) : Prop :=
  Below w.heap.size w W ∧ (w.heap.size ≤ g ∧ ¬ free g ∧ ∀ k, free k → k < W.heap.size) ∧ ∃ (ok : Nat → Prop) (v : Value), NetAt 52 31 5 W w.heap.size g ok room L c0 c1 c2 c3 v ∧ ∀ k, ok k → w.heap.size ≤ k ∧ k < W.heap.size ∧ ¬ free k
section
variable {w W W' : World} {g gb : Nat} {free free' : Nat → Prop} {room c0 c1 c2 c3 : Int} {L : List NP}
theorem LS.below (h : LS w W g free room L c0 c1 c2 c3) (hb : Below W.heap.size W W') : LS w W' g (fun k => free k ∨ (W.heap.size ≤ k ∧ k < W'.heap.size)) room L c0 c1 c2 c3 := by
  obtain ⟨h1, h2, ok, v, hn, h3⟩ := h
  have hg := blk_lt hn.2.2.1
  exact ⟨below_step h1 hb, ⟨h2.1, fun e => e.elim h2.2.1 (fun e => by omega), fun k hk => hk.elim (fun e => Nat.lt_of_lt_of_le (h2.2.2 k e) hb.size) (fun e => e.2)⟩, ok, v, hn.below hb, fun k hk => ⟨(h3 k hk).1, Nat.lt_of_lt_of_le (h3 k hk).2.1 hb.size, fun e => e.elim (h3 k hk).2.2 (fun e => by have := (h3 k hk).2.1; omega)⟩⟩
theorem LS.on (h : LS w W g free room L c0 c1 c2 c3) (hb : Below W.heap.size W W') : ∃ fr : Nat → Prop, (∀ k, free k → fr k) ∧ (∀ k, W.heap.size ≤ k → k < W'.heap.size → fr k) ∧ LS w W' g fr room L c0 c1 c2 c3 :=
  ⟨_, fun k hk => Or.inl hk, fun k h1 h2 => Or.inr ⟨h1, h2⟩, h.below hb⟩
theorem LS.less (h : LS w W g free room L c0 c1 c2 c3) (hf : ∀ k, free' k → free k) : LS w W g free' room L c0 c1 c2 c3 :=
  ⟨h.1, ⟨h.2.1.1, fun e => h.2.1.2.1 (hf _ e), fun k hk => h.2.1.2.2 k (hf k hk)⟩, h.2.2.choose, h.2.2.choose_spec.choose, h.2.2.choose_spec.choose_spec.1, fun k hk => ⟨(h.2.2.choose_spec.choose_spec.2 k hk).1, (h.2.2.choose_spec.choose_spec.2 k hk).2.1, fun e => (h.2.2.choose_spec.choose_spec.2 k hk).2.2 (hf k e)⟩⟩
theorem LS.put (h : LS w W g free room L c0 c1 c2 c3) (hu : Upd (fun k => k = gb) W W') (hf : free gb) (hb : w.heap.size ≤ gb) : LS w W' g free room L c0 c1 c2 c3 := by
  obtain ⟨h1, h2, ok, v, hn, h3⟩ := h
  exact ⟨Upd.belowB h1 h1.size hu (fun k e => by have e' : k = gb := e; omega), ⟨h2.1, h2.2.1, fun k hk => Nat.lt_of_lt_of_le (h2.2.2 k hk) hu.size⟩, ok, v, hn.upd hu (fun k hk _ e => (h3 k hk).2.2 (by have e' : k = gb := e; rw [e']; exact hf)) (fun e => h2.2.1 (by have e' : g = gb := e; rw [e']; exact hf)), fun k hk => ⟨(h3 k hk).1, Nat.lt_of_lt_of_le (h3 k hk).2.1 hu.size, (h3 k hk).2.2⟩⟩
theorem LS.new (h0 : Below w.heap.size w W) (h1 : 0 ≤ room) (h2 : room ≤ 65536) : Calls Try.prog 7 #[.int .i64 room] W fun e w' => ∃ g, e = .returned (.tuple #[.pointer (some ⟨g, 0, none⟩), .int .i64 0]) ∧ LS w w' g (fun k => k < W.heap.size) room [] 0 0 0 0 ∧ Below W.heap.size W w' := by
  refine (net_New.good room W w.heap.size h0.size h1 h2).mono ?_
  rintro e w' ⟨g, he, hn, hb, hg⟩
  exact ⟨g, he, ⟨below_step h0 hb, ⟨by rw [hg]; exact h0.size, fun e => by omega, fun k hk => Nat.lt_of_lt_of_le hk hb.size⟩, _, _, hn, fun k hk => hk.elim⟩, hb⟩
theorem LS.take (a : Int) (h : LS w W g free room L c0 c1 c2 c3) (h0 : 0 < L.length) (h1 : (L.length : Int) ≤ 70000) (i : Nat) (p : NP) (hi : (net_idx a L.length).toNat = i) (hp : L.getD i (0, 0, []) = p) :
    Calls Try.prog 10 #[.pointer (some ⟨g, 0, none⟩), .int .i64 a] W fun e w' => ∃ (A : Option Addr) (c : Nat) (free' : Nat → Prop), e = .returned (.tuple #[.agg #[.int .i64 p.1, .int .i64 p.2.1, .slice A p.2.2.length c], .bool true]) ∧ (∀ k, free k → free' k) ∧ p.2.2.length ≤ c ∧ Kd.F (Kd.int .u8) w' free' A p.2.2.length p.2.2 ∧ LS w w' g free' room (L.eraseIdx i) c0 c1 (wrap64 (c2 + 1)) c3 ∧ Upd (fun k => ¬ free k) W w' := by
  obtain ⟨h2, h3, ok, v, hn, h4⟩ := h
  subst hi; subst hp
  refine (net_Net_Take.some_ a room c0 c1 c2 c3 L v _ g ok W hn h0 (by omega)).mono ?_
  rintro e w' ⟨okp, vb, v', he, hR, hok, hn', hu⟩
  obtain ⟨A, c, rfl, hl, _⟩ := Kd.R_reads hR
  have hR2 := Kd.R_bound hR
  refine ⟨A, c, fun k => free k ∨ (okp k ∧ k < w'.heap.size), he, fun k hk => Or.inl hk, hl, ?_, ⟨Upd.belowB h2 h2.size hu (fun k hk => hk.elim (fun e => (h4 k e).1) (fun e => by have e' : k = g := e; omega)), ⟨h3.1, fun e => e.elim h3.2.1 (fun e => hn.2.1 (hok g e.1)), fun k hk => hk.elim (fun e => Nat.lt_of_lt_of_le (h3.2.2 k e) hu.size) (fun e => e.2)⟩, _, v', hn'.bound, fun k hk => ⟨(h4 k hk.1.1).1, hk.2, fun e => e.elim (h4 k hk.1.1).2.2 (fun e => hk.1.2 e.1)⟩⟩, hu.mono (fun k _ hk => hk.elim (fun e => (h4 k e).2.2) (fun e => by have e' : k = g := e; rw [e']; exact h3.2.1))⟩
  intro W2 hW2
  have h5 := Kd.R_step (w1 := W2) hR2 (fun k hk hlt => hW2 k (Or.inr ⟨hk.1, hk.2.2.1⟩) hlt)
  exact (Kd.R_reads' h5).2.2
theorem LS.take0 (a : Int) (h : LS w W g free room [] c0 c1 c2 c3) :
    Calls Try.prog 10 #[.pointer (some ⟨g, 0, none⟩), .int .i64 a] W fun e w' => e = .returned (.tuple #[.agg #[.int .i64 0, .int .i64 0, .slice none 0 0], .bool false]) ∧ Below W.heap.size W w' := by
  obtain ⟨h2, h3, ok, v, hn, h4⟩ := h
  exact net_Net_Take.none_ a room c0 c1 c2 c3 v _ g ok W hn
theorem LS.send {A : Option Addr} {c : Nat} {ps : List NP} {R : List NP × Int × Int × Int} (n : Nat) (hn_ : n = ps.length) (h : LS w W g free room L c0 c1 c2 c3) (hF : Kd.F (npk 5) W free A ps.length ps) (hc : n ≤ c) (hroom : room ≤ 65536) (hps : ps.length ≤ 4611686018427387903) (hbl : ∀ p ∈ ps, p.2.2.length < 140737488355328) (hR : net_send room ps L c0 c1 0 = R) :
    Calls Try.prog 8 #[.pointer (some ⟨g, 0, none⟩), .slice A n c] W fun e w' => e = .returned (.int .i64 R.2.2.2) ∧ LS w w' g free room R.1 R.2.1 R.2.2.1 c2 c3 ∧ Upd (fun k => ¬ free k) W w' := by
  subst hn_
  obtain ⟨h2, h3, ok, v, hn, h4⟩ := h
  refine (net_Net_Send.some_ room c0 c1 c2 c3 L v _ g ok free A c ps R W hn h2.size hF hc (fun k hk => ⟨fun e => (h4 k e).2.2 hk, fun e => h3.2.1 (by rw [← e]; exact hk)⟩) hroom hps hbl hR).mono ?_
  rintro e w' ⟨v', he, hn', hu⟩
  exact ⟨he, ⟨Upd.belowB h2 h2.size hu (fun k hk => hk.elim (fun e => (h4 k e).1) (fun e => by have e' : k = g := e; omega)), ⟨h3.1, h3.2.1, fun k hk => Nat.lt_of_lt_of_le (h3.2.2 k hk) hu.size⟩, _, v', hn'.bound, fun k hk => ⟨hk.1.elim (fun e => (h4 k e).1) (fun e => Nat.le_trans h2.size e), hk.2, fun e => hk.1.elim (fun e2 => (h4 k e2).2.2 e) (fun e2 => by have := h3.2.2 k e; omega)⟩⟩, hu.mono (fun k _ hk => hk.elim (fun e => (h4 k e).2.2) (fun e => by have e' : k = g := e; rw [e']; exact h3.2.1))⟩
end
set_option maxHeartbeats 8000000 in
set_option maxRecDepth 100000 in
theorem pelotonlaw17_awake.good (w : World) :
    Calls Try.prog 6 #[] w fun e w' => e = .returned (.bool true) ∧ Below w.heap.size w w' := by
  have hu31 := Try.underlying31
  go_enter Try.func6, Try.ntmps6
  go_upto_region 4 with (first
    | (go_at_call 7; (with_reducible refine (LS.new (w := w) (room := 2) (Below.refl _ _) (by omega) (by omega)).mono ?_); rintro e w1 ⟨g, rfl, hn, hb⟩; have ST := Aside0.mk hn; clear hn hb))
  go_upto_region 5 with (first
    | ((with_reducible refine gate_dst (N := 21) rfl ?_); refine konst_ 21 1 #[.int .u8 97] 28 5 rfl rfl rfl ?hr rfl rfl Try.underlying28 Try.underlying5 ?_; (case hr => first | (go_simp; done) | (go_simp; rfl)); intro ga wa hga hka hba; obtain ⟨fr, hsub, hnew, hst⟩ := ST.out.on hba; replace ST := Aside0.mk hst;  have FA := Aside0.mk (Kd.F_mono (blkF (l := [97]) (by simp) hka) (fun k (e : k = ga) => hnew k (by rw [e, hga]; exact Nat.le_refl _) (by rw [e]; exact blk_lt hka))); clear hga hka hba hsub hnew hst)
    | ((with_reducible refine gate_dst (N := 24) rfl ?_); refine konst_ 24 1 #[.int .u8 98] 28 5 rfl rfl rfl ?hr rfl rfl Try.underlying28 Try.underlying5 ?_; (case hr => first | (go_simp; done) | (go_simp; rfl)); intro gb wb hgb hkb hbb; obtain ⟨fr, hsub, hnew, hst⟩ := ST.out.on hbb; replace ST := Aside0.mk hst; replace FA := Aside0.mk (Kd.F_mono (Kd.F_below FA.out hbb) hsub); have FB := Aside0.mk (Kd.F_mono (blkF (l := [98]) (by simp) hkb) (fun k (e : k = gb) => hnew k (by rw [e, hgb]; exact Nat.le_refl _) (by rw [e]; exact blk_lt hkb))); clear hgb hkb hbb hsub hnew hst)
    | ((with_reducible refine gate_dst (N := 27) rfl ?_); refine konst_ 27 1 #[.int .u8 99] 28 5 rfl rfl rfl ?hr rfl rfl Try.underlying28 Try.underlying5 ?_; (case hr => first | (go_simp; done) | (go_simp; rfl)); intro gc wc hgc hkc hbc; obtain ⟨fr, hsub, hnew, hst⟩ := ST.out.on hbc; replace ST := Aside0.mk hst; replace FA := Aside0.mk (Kd.F_mono (Kd.F_below FA.out hbc) hsub); replace FB := Aside0.mk (Kd.F_mono (Kd.F_below FB.out hbc) hsub); have FC := Aside0.mk (Kd.F_mono (blkF (l := [99]) (by simp) hkc) (fun k (e : k = gc) => hnew k (by rw [e, hgc]; exact Nat.le_refl _) (by rw [e]; exact blk_lt hkc))); clear hgc hkc hbc hsub hnew hst)
    | ((with_reducible refine gate_dst (N := 30) rfl ?_); refine lit_ rfl rfl (bld33_ (e := 31) (.int .i64 0) (.int .i64 0) (.slice none 0 0) rfl rfl rfl rfl) ?_; intro gl wl hgl hkl hbl; obtain ⟨fr, hsub, hnew, hst⟩ := ST.out.on hbl; replace ST := Aside0.mk hst; have HF := Aside0.mk (npk_F3 hkl (Nat.le_refl 1) (Nat.le_refl 1) (Nat.le_refl 1) (Kd.F_below FA.out hbl) (Kd.F_below FB.out hbl) (Kd.F_below FC.out hbl)); have HF2 := Aside0.mk (Kd.F_mono HF.out (fun k hk => hk.elim (fun e => hnew k (by rw [e, hgl]; exact Nat.le_refl _) (by rw [e]; exact blk_lt hkl)) (hsub k))); clear hgl hkl hbl FA FB FC HF hsub hnew hst)
    | (go_at_call 8; refine (LS.send (R := ([(0, 0, [97]), (0, 0, [98])], 3, 1, 2)) 3 rfl ST.out HF2.out ?s1 ?s3 ?s4 ?s5 ?s6).mono ?_; (case s1 => exact Nat.le_refl _); (case s3 => omega); (case s4 => simp); (case s5 => (intro p hp; simp only [List.mem_cons, List.not_mem_nil, or_false] at hp; rcases hp with rfl | rfl | rfl <;> simp)); (case s6 => decide +kernel); rintro e ws ⟨rfl, hn, hu⟩; replace ST := Aside0.mk hn; clear hn hu HF2))
  go_upto_region 6 with (first
    | (go_at_call 10; refine (LS.take 1 ST.out (by simp) (by simp) 1 (0, 0, [98]) (by decide +kernel) rfl).mono ?_; rintro e wt ⟨Ab, cb, fr, rfl, hsub, hl, hF, hst, hu⟩; obtain ⟨frb, hx⟩ : ∃ fx : Nat → Prop, fx = fr := ⟨_, rfl⟩; have NFb := Aside0.mk (show Kd.F (Kd.int .u8) wt frb Ab _ _ from by rw [hx]; exact hF); have HSb : Aside0 (∀ k, frb k → fr k) := ⟨fun k hk => by rw [hx] at hk; exact hk⟩; have HLb := Aside0.mk hl; replace ST := Aside0.mk hst; clear hsub hl hF hst hu hx)
    | ((with_reducible refine gate_dst (N := 4) rfl ?_); refine box_event ?hg (N := 4) ?hd (cs := #[.int .i64 0, .int .i64 0, .slice none 0 0]) (t := 31) ?hr ?_; (case hd => rfl); (case hg => rfl); (case hr => first | (go_simp; done) | (go_simp; rfl)); intro g4 hg_ wb hbox hbb; have hwg : w.heap.size ≤ g4 := (by rw [hg_]; exact ST.out.1.size); have hfb : ∀ k, frb k → k ≠ g4 := (fun k hk e => by have h5 := ST.out.2.1.2.2 k (HSb.out k hk); rw [e, hg_] at h5; exact absurd h5 (Nat.lt_irrefl _)); obtain ⟨fr, hsub, hnew, hst⟩ := ST.out.on hbb; replace NFb := Aside0.mk (Kd.F_below NFb.out hbb); replace HSb := Aside0.mk (fun k hk => hsub k (HSb.out k hk)); have HK4 := Aside0.mk (hnew g4 (by rw [hg_]; exact Nat.le_refl _) (blk_lt hbox)); clear hg_ hsub hnew; (with_reducible refine gate_store_ rfl ?_); refine stU_ rfl rfl rfl rfl rfl hbox rfl (by kernel_rfl) (by simp [Value.oneCell']) ?_; intro W7 hW1 hW2; clear hbox hbb; replace ST := Aside0.mk (hst.put hW2 HK4.out hwg); have K4 := Aside0.mk hW1; replace NFb := Aside0.mk (Kd.F_step NFb.out (fun k hk hlt => hW2.2.2.2.2 k hlt (hfb k hk))); clear hst hwg hW1 hW2 hfb))
  go_upto_region 7 with (first
    | (go_at_call 10; refine (LS.take 1 ST.out (by simp) (by simp) 0 (0, 0, [97]) (by decide +kernel) rfl).mono ?_; rintro e wt ⟨Aa, ca, fr, rfl, hsub, hl, hF, hst, hu⟩; replace K4 := Aside0.mk (hu.blk K4.out (fun h => h HK4.out)); replace HK4 := Aside0.mk (hsub _ HK4.out); replace NFb := Aside0.mk (Kd.F_step NFb.out (fun k hk hlt => hu.2.2.2.2 k hlt (fun h => h (HSb.out k hk)))); replace HSb := Aside0.mk (fun k hk => hsub k (HSb.out k hk)); obtain ⟨fra, hx⟩ : ∃ fx : Nat → Prop, fx = fr := ⟨_, rfl⟩; have NFa := Aside0.mk (show Kd.F (Kd.int .u8) wt fra Aa _ _ from by rw [hx]; exact hF); have HSa : Aside0 (∀ k, fra k → fr k) := ⟨fun k hk => by rw [hx] at hk; exact hk⟩; have HLa := Aside0.mk hl; replace ST := Aside0.mk hst; clear hsub hl hF hst hu hx)
    | ((with_reducible refine gate_dst (N := 6) rfl ?_); refine box_event ?hg (N := 6) ?hd (cs := #[.int .i64 0, .int .i64 0, .slice none 0 0]) (t := 31) ?hr ?_; (case hd => rfl); (case hg => rfl); (case hr => first | (go_simp; done) | (go_simp; rfl)); intro g6 hg_ wb hbox hbb; have hwg : w.heap.size ≤ g6 := (by rw [hg_]; exact ST.out.1.size); have hn4 : g4 ≠ g6 := (by rw [hg_]; exact Nat.ne_of_lt (blk_lt K4.out)); have hfb : ∀ k, frb k → k ≠ g6 := (fun k hk e => by have h5 := ST.out.2.1.2.2 k (HSb.out k hk); rw [e, hg_] at h5; exact absurd h5 (Nat.lt_irrefl _)); have hfa : ∀ k, fra k → k ≠ g6 := (fun k hk e => by have h5 := ST.out.2.1.2.2 k (HSa.out k hk); rw [e, hg_] at h5; exact absurd h5 (Nat.lt_irrefl _)); obtain ⟨fr, hsub, hnew, hst⟩ := ST.out.on hbb; replace K4 := Aside0.mk (blk_below K4.out hbb); replace HK4 := Aside0.mk (hsub _ HK4.out); replace NFb := Aside0.mk (Kd.F_below NFb.out hbb); replace HSb := Aside0.mk (fun k hk => hsub k (HSb.out k hk)); replace NFa := Aside0.mk (Kd.F_below NFa.out hbb); replace HSa := Aside0.mk (fun k hk => hsub k (HSa.out k hk)); have HK6 := Aside0.mk (hnew g6 (by rw [hg_]; exact Nat.le_refl _) (blk_lt hbox)); clear hg_ hsub hnew; (with_reducible refine gate_store_ rfl ?_); refine stU_ rfl rfl rfl rfl rfl hbox rfl (by kernel_rfl) (by simp [Value.oneCell']) ?_; intro W7 hW1 hW2; clear hbox hbb; replace ST := Aside0.mk (hst.put hW2 HK6.out hwg); have K6 := Aside0.mk hW1; replace K4 := Aside0.mk (hW2.blk K4.out hn4); replace NFb := Aside0.mk (Kd.F_step NFb.out (fun k hk hlt => hW2.2.2.2.2 k hlt (hfb k hk))); replace NFa := Aside0.mk (Kd.F_step NFa.out (fun k hk hlt => hW2.2.2.2.2 k hlt (hfa k hk))); clear hst hwg hW1 hW2 hn4 hfb hfa))
  go_upto_region 8 with (first
    | (go_at_call 10; refine (LS.take0 0 ST.out).mono ?_; rintro e wt ⟨rfl, hb⟩; obtain ⟨fr, hsub, hnew, hst⟩ := ST.out.on hb; replace K4 := Aside0.mk (blk_below K4.out hb); replace HK4 := Aside0.mk (hsub _ HK4.out); replace K6 := Aside0.mk (blk_below K6.out hb); replace HK6 := Aside0.mk (hsub _ HK6.out); replace NFb := Aside0.mk (Kd.F_below NFb.out hb); replace HSb := Aside0.mk (fun k hk => hsub k (HSb.out k hk)); replace NFa := Aside0.mk (Kd.F_below NFa.out hb); replace HSa := Aside0.mk (fun k hk => hsub k (HSa.out k hk));  replace ST := Aside0.mk hst; clear hsub hnew hst hb)
    | ((with_reducible refine gate_dst (N := 8) rfl ?_); refine box_event ?hg (N := 8) ?hd (cs := #[.int .i64 0, .int .i64 0, .slice none 0 0]) (t := 31) ?hr ?_; (case hd => rfl); (case hg => rfl); (case hr => first | (go_simp; done) | (go_simp; rfl)); intro g8 hg_ wb hbox hbb; have hwg : w.heap.size ≤ g8 := (by rw [hg_]; exact ST.out.1.size); have hn4 : g4 ≠ g8 := (by rw [hg_]; exact Nat.ne_of_lt (blk_lt K4.out)); have hn6 : g6 ≠ g8 := (by rw [hg_]; exact Nat.ne_of_lt (blk_lt K6.out)); have hfb : ∀ k, frb k → k ≠ g8 := (fun k hk e => by have h5 := ST.out.2.1.2.2 k (HSb.out k hk); rw [e, hg_] at h5; exact absurd h5 (Nat.lt_irrefl _)); have hfa : ∀ k, fra k → k ≠ g8 := (fun k hk e => by have h5 := ST.out.2.1.2.2 k (HSa.out k hk); rw [e, hg_] at h5; exact absurd h5 (Nat.lt_irrefl _)); obtain ⟨fr, hsub, hnew, hst⟩ := ST.out.on hbb; replace K4 := Aside0.mk (blk_below K4.out hbb); replace HK4 := Aside0.mk (hsub _ HK4.out); replace K6 := Aside0.mk (blk_below K6.out hbb); replace HK6 := Aside0.mk (hsub _ HK6.out); replace NFb := Aside0.mk (Kd.F_below NFb.out hbb); replace HSb := Aside0.mk (fun k hk => hsub k (HSb.out k hk)); replace NFa := Aside0.mk (Kd.F_below NFa.out hbb); replace HSa := Aside0.mk (fun k hk => hsub k (HSa.out k hk)); have HK8 := Aside0.mk (hnew g8 (by rw [hg_]; exact Nat.le_refl _) (blk_lt hbox)); clear hg_ hsub hnew; (with_reducible refine gate_store_ rfl ?_); refine stU_ rfl rfl rfl rfl rfl hbox rfl (by kernel_rfl) (by simp [Value.oneCell']) ?_; intro W7 hW1 hW2; clear hbox hbb; replace ST := Aside0.mk (hst.put hW2 HK8.out hwg); have K8 := Aside0.mk hW1; replace K4 := Aside0.mk (hW2.blk K4.out hn4); replace K6 := Aside0.mk (hW2.blk K6.out hn6); replace NFb := Aside0.mk (Kd.F_step NFb.out (fun k hk hlt => hW2.2.2.2.2 k hlt (hfb k hk))); replace NFa := Aside0.mk (Kd.F_step NFa.out (fun k hk hlt => hW2.2.2.2.2 k hlt (hfa k hk))); clear hst hwg hW1 hW2 hn4 hn6 hfb hfa))
  have hc1 : (convert 28 9 (.slice Ab 1 cb)).run Try.prog _ = .ok (.string ⟨#[98]⟩) _ := Kd.C_string (P := Try.prog) (A := Ab) (c := cb) Try.underlying28 Try.underlying5 Try.underlying9 (Foot.now NFb.out)
  have hc2 : (convert 28 9 (.slice Aa 1 ca)).run Try.prog _ = .ok (.string ⟨#[97]⟩) _ := Kd.C_string (P := Try.prog) (A := Aa) (c := ca) Try.underlying28 Try.underlying5 Try.underlying9 (Foot.now NFa.out)
  obtain ⟨x40, x41, x42, _⟩ := cells3 K4.out
  obtain ⟨x60, x61, x62, _⟩ := cells3 K6.out
  go_wp2
  go_ret
  exact ⟨rfl, ST.out.1⟩
/-! ### net_Net_Back: function 9, by hand -/
def net_Back.T3 : Bool × List (List Nat × List Nat) := (true, [([], []), ([], []), ([1], [1]), ([2], [2]), ([3], [3]), ([], []), ([5], [5]), ([4, 6], [4, 6]), ([0, 0, 1, 2, 3, 4, 5, 6, 7], [0]), ([8, 0, 1, 2, 3, 4, 5, 6, 7], [8]), ([9, 7, 7, 0, 1, 2, 3, 4, 5, 6, 7], [7, 9])])
def net_Back.B3 : List Nat := [0, 0, 2, 6, 14, 0, 32, 126, 255, 511, 1023]
theorem net_Back.tab3 : rtab .any (opsOf Try.f9 3) = net_Back.T3 := by kernel_rfl
theorem net_Back.bits3 : waitsOk net_Back.T3.2 net_Back.B3 = true := by kernel_rfl

def net_backed (w : World) (base g : Nat) (ok : Nat → Prop) (room c0 c1 c2 c3 : Int) (L : List NP) (e : Ending) (w' : World) : Prop :=
  ∃ v', e = .returned (.bool true) ∧ NetAt 52 31 5 w' base g (fun k => ok k ∨ w.heap.size ≤ k) room L c0 c1 c2 c3 v' ∧ Upd (fun k => ok k ∨ k = g) w w'
set_option maxHeartbeats 8000000 in
set_option maxRecDepth 100000 in
theorem net_Net_Back.some0_ (a room c0 c1 c2 c3 : Int) (L : List NP) (v : Value) (base g : Nat) (ok : Nat → Prop) (w : World) (hlt_ : ∀ k, ok k → k < w.heap.size) (hN : NetAt 52 31 5 w base g ok room L c0 c1 c2 c3 v) (hbw : base ≤ w.heap.size) (h0 : 0 < L.length) (h1 : (L.length : Int) ≤ 70000) :
    Calls Try.prog 9 #[.pointer (some ⟨g, 0, none⟩), .int .i64 a] w (net_backed w base g ok room c0 c1 c2 c3 (L.eraseIdx (net_idx a L.length).toNat ++ [L.getD (net_idx a L.length).toNat (0, 0, [])])) := by
  have HP := Aside0.mk (fun (W : World) (hN : NetAt 52 31 5 W base g ok room L c0 c1 c2 c3 v) => net_Net_pull.some_ a room c0 c1 c2 c3 L _ base g ok W hN h0 (by omega))
  have HLEN : Aside0 (((L.eraseIdx (net_idx a L.length).toNat).length + 1) * 40 ≤ 140737488355328) := ⟨by have := List.length_eraseIdx_le L (net_idx a L.length).toNat; omega⟩
  generalize (net_idx a L.length).toNat = i at *
  obtain ⟨p, hp⟩ : ∃ p, L.getD i (0, 0, []) = p := ⟨_, rfl⟩
  rw [hp] at HP ⊢
  have HLT := Aside0.mk hlt_
  have HBW0 := Aside0.mk hbw
  have HGL := Aside0.mk (show g < w.heap.size from blk_lt hN.2.2.1)
  have HS := Aside0.mk hN
  clear hp hN hlt_ h0 h1 hbw
  have hu31 := Try.underlying31
  go_enter Try.func9, Try.ntmps9
  go_upto_region 2 with (first
    | (go_at_call 19; (with_reducible refine (HP.out _ HS.out).mono ?_); rintro e wp ⟨okp, vb, vL, rfl, hR, hok, hn, hu⟩; obtain ⟨Ab, cb, rfl⟩ := Kd.R_slice hR;
       have NR := Aside0.mk hR; have HOK := Aside0.mk hok; have NA := Aside0.mk hn; have NU := Aside0.mk hu; have HWP := Aside0.mk hu.size; clear hR hok hn hu)
    | ((with_reducible refine gate_dst (N := 5) rfl ?_); refine box_event ?hg (N := 5) ?hd (cs := #[.int .i64 0, .int .i64 0, .slice none 0 0]) (t := 31) ?hr ?_; (case hd => rfl); (case hg => rfl); (case hr => first | (go_simp; done) | (go_simp; rfl)); intro gp hg_ wb hbox hbb; have HG5 := Aside0.mk (show w.heap.size ≤ gp from by rw [hg_]; exact HWP.out); replace NA := Aside0.mk (NA.out.below hbb); replace NR := Aside0.mk (Kd.R_below NR.out hbb); replace NU := Aside0.mk (NU.out.trans (Upd.of_below (S := fun k => ok k ∨ k = g) hbb) (fun _ _ hk => hk)); have HWS1 := Aside0.mk (Nat.le_trans HWP.out hbb.size); clear hg_ hbb;
       (with_reducible refine gate_store_ rfl ?_); refine stU_ rfl rfl rfl rfl rfl hbox rfl (by kernel_rfl) (by simp [Value.oneCell']) ?_; intro W7 hW1 hW2; clear hbox;
       have hB : ∀ k, ok k → ¬ k = gp := (fun k hk e => by have := HLT.out k hk; have := HG5.out; omega);
       have NA7 := Aside0.mk (NA.out.upd hW2 (fun k hk _ => hB k hk.1) (fun e => by have := HG5.out; have := HGL.out; omega)); replace NR := Aside0.mk (Kd.R_step (w1 := W7) NR.out (fun k hk hlt => hW2.2.2.2.2 k hlt (hB k (HOK.out k hk)))); have NU7 := Aside0.mk (NU.out.trans hW2 (fun k hk e => by have := HG5.out; omega)); have HWS0 := Aside0.mk (Nat.le_trans HWS1.out hW2.size);
       replace HBW0 := Aside0.mk (Nat.le_trans HBW0.out HWS0.out); have PQ := Aside0.mk (show net_Box W7 base g gp (fun k => ok k ∧ ¬ okp k) room c0 c1 c2 c3 (L.eraseIdx i) vL p.1 p.2.1 (.slice Ab p.2.2.length cb) from ⟨NA7.out, hW1, fun k hk => hB k hk.1⟩); clear hW1 hW2 hB NA NU NA7 HWS1 HWP))
  obtain ⟨okA, hA⟩ : ∃ okA : Nat → Prop, okA = fun k => ok k ∧ ¬ okp k := ⟨_, rfl⟩
  have HOP : Aside0 (∀ k, okp k → ¬ okA k ∧ k ≠ g) := ⟨fun k hk => ⟨fun h2 => by rw [hA] at h2; exact h2.2 hk, fun e => HS.out.2.1 (by rw [← e]; exact HOK.out k hk)⟩⟩
  have HSUB : Aside0 (∀ k, okA k → ok k) := ⟨fun k hk => by rw [hA] at hk; exact hk.1⟩
  rw [← hA] at PQ
  clear HP hA
  go_upto_region 3 with (fail)
  refine start_ (n := 11) (S := fun W_ => W_.cell? ⟨g, 1, none⟩ = some vL ∧ W_.cell? ⟨gp, 0, none⟩ = some (.int .i64 p.1) ∧ W_.cell? ⟨gp, 1, none⟩ = some (.int .i64 p.2.1) ∧ W_.cell? ⟨gp, 2, none⟩ = some (.slice Ab p.2.2.length cb)) (ds := [10]) #[false, false, false, false, false, false, false, false, false, false, false] (by kernel_rfl) rfl rfl (PQ.out.held (below_drew (Below.refl _ _))) (fun hHeld => ?_); refine with_tabW net_Back.tab3 net_Back.bits3 (fun HT_ HW_ => ?_)
  replace PQ := Aside0.mk (PQ.out.below (below_drew (Below.refl _ _)))
  have HDR := Aside0.mk (below_drew (Below.refl W7.heap.size W7))
  revert PQ hHeld HDR
  generalize W7.drew = wv
  intro hHeld PQ HDR
  refine pure_ (i := 0) (N := some 14) (v := ?_) (a' := ?_) #[true, false, false, false, false, false, false, false, false, false, false] rfl rfl (any_of HT_.out (by kernel_rfl)) (fun _ _ _ h => h) (Or.inl ⟨by rfl, ?_⟩) ?_ ?_
  rotate_left
  ·
    intro w'
    go_simp
    with_reducible rfl
  rotate_left
  ·
    simp only [Act.put, l_1, l_2, l_3, i64_w, i32_w]
    rfl
  refine pure_ (i := 1) (N := some 15) (v := ?_) (a' := ?_) #[true, true, false, false, false, false, false, false, false, false, false] rfl rfl (any_of HT_.out (by kernel_rfl)) (fun _ _ _ h => h) (Or.inl ⟨by rfl, ?_⟩) ?_ ?_
  rotate_left
  ·
    intro w'
    go_simp
    with_reducible rfl
  rotate_left
  ·
    simp only [Act.put, l_1, l_2, l_3, i64_w, i32_w]
    rfl
  refine pure_ (i := 2) (N := some 16) (v := ?_) (a' := ?_) #[true, true, true, false, false, false, false, false, false, false, false] rfl rfl (any_of HT_.out (by kernel_rfl)) (fun _ _ _ h => h) (Or.inl ⟨by rfl, ?_⟩) ?_ ?_
  rotate_left
  ·
    intro w'
    go_simp
    with_reducible rfl
  rotate_left
  ·
    simp only [Act.put, l_1, l_2, l_3, i64_w, i32_w]
    rfl
  refine pure_ (i := 3) (N := some 17) (v := ?_) (a' := ?_) #[true, true, true, true, false, false, false, false, false, false, false] rfl rfl (any_of HT_.out (by kernel_rfl)) (fun _ _ _ h => h) (Or.inl ⟨by rfl, ?_⟩) ?_ ?_
  rotate_left
  ·
    intro w'
    go_simp
    with_reducible rfl
  rotate_left
  ·
    simp only [Act.put, l_1, l_2, l_3, i64_w, i32_w]
    rfl
  refine take_ (i := 4) (N := some 18) (v := ?_) (a' := ?_) #[true, true, true, true, true, false, false, false, false, false, false] rfl rfl (take_ofW HT_.out HW_.out (by kernel_rfl)) (fun _ _ _ h => h) (Or.inl ⟨by rfl, ?_⟩) hHeld ?_ ?_
  rotate_left
  ·
    rintro w' ⟨s0, s1, s2, s3⟩
    go_simp
    with_reducible rfl
  rotate_left
  ·
    simp only [Act.put, l_1, l_2, l_3, i64_w, i32_w]
    rfl
  refine take_ (i := 5) (N := some 19) (v := ?_) (a' := ?_) #[true, true, true, true, true, true, false, false, false, false, false] rfl rfl (take_ofW HT_.out HW_.out (by kernel_rfl)) (fun _ _ _ h => h) (Or.inl ⟨by rfl, ?_⟩) hHeld ?_ ?_
  rotate_left
  ·
    rintro w' ⟨s0, s1, s2, s3⟩
    go_simp
    with_reducible rfl
  rotate_left
  ·
    simp only [Act.put, l_1, l_2, l_3, i64_w, i32_w]
    rfl
  replace NR := Aside0.mk (Kd.R_below NR.out HDR.out)
  have HBW := Aside0.mk (Nat.le_trans HBW0.out HDR.out.size)
  have NU := Aside0.mk (NU7.out.trans (Upd.of_below (S := fun k => ok k ∨ k = g) HDR.out) (fun _ _ hk => hk))
  have HWS := Aside0.mk (Nat.le_trans HWS0.out HDR.out.size)
  clear HDR NU7 HBW0 HWS0
  refine one_ (i := 6) (N := some 20) #[true, true, true, true, true, true, true, false, false, false, false] rfl rfl (one_of HT_.out (by kernel_rfl)) (by decide) (fun K hK => ?_)
  refine event_step (by rfl) (bld31_ (e := 31) (.int .i64 0) (.int .i64 0) (.slice none 0 0) rfl rfl) ?_
  refine hK.out _ _ (PQ.out.held (below_alloc (Below.refl _ _) _)) (fun hHeld => ?_)
  clear hK K
  refine norm_ (a' := ?_) ?_ ?_
  rotate_left
  ·
    show Act.put _ (some 20) _ = _
    simp only [Act.put, l_1, l_2, l_3, i64_w, i32_w]
    rfl
  refine one_ (i := 7) (N := some 21) #[true, true, true, true, true, true, true, true, false, false, false] rfl rfl (one_of HT_.out (by kernel_rfl)) (by decide) (fun K hK => ?_)
  refine Kd.S_append_step (npk 5) (w0 := wv) base (by rfl) (.tmp 18) (.tmp 20) 42 31 (.agg #[.int .i64 0, .int .i64 0, .slice none 0 0]) 40 rfl Try.underlying42 net_info31 rfl (by decide) (by decide) vL (L.eraseIdx i) p [.int .i64 p.1, .int .i64 p.2.1, .slice Ab p.2.2.length cb] (fun k => (okA k ∨ okp k) ∨ wv.heap.size ≤ k) okp rfl rfl (npk_mk p.1 p.2.1 NR.out) ?a1 ?a2 ?a3 (Below.refl _ _) HBW.out ?a4 ?_
  case a1 => exact fun k hk => ⟨Or.inl (Or.inr hk), fun e => (HOP.out k hk).1 (by obtain ⟨f, h0, _⟩ := PQ.out.1.2.2.2; exact h0 k e.symm)⟩
  case a2 => exact fun k hk => Or.inr hk
  case a3 => exact Kd.S_mono PQ.out.1.2.2.2 (fun k hk => ⟨Or.inl (Or.inl hk), fun h2 => (HOP.out k h2).1 hk⟩)
  case a4 => exact HLEN.out
  intro v1 wn hS hb1 hg1 hat1
  obtain ⟨Av, cv, hv1⟩ := Kd.S_slice hS
  rw [List.length_append, List.length_singleton] at hv1
  subst hv1
  have SM := Aside0.mk (PQ.out.grown (ok1 := fun k => (okA k ∨ okp k) ∨ wv.heap.size ≤ k) hS hg1 (net_ok1 PQ.out.1.2.1 HOP.out (blk_lt PQ.out.1.2.2.1)))
  clear hS hb1 hg1 hat1
  refine hK.out _ _ SM.out.1 (fun hHeld => ?_)
  clear hK K
  refine norm_ (a' := ?_) ?_ ?_
  rotate_left
  ·
    show Act.put _ (some 21) _ = _
    simp only [Act.put, l_1, l_2, l_3, i64_w, i32_w]
    rfl
  refine pure_ (i := 8) (N := some 22) (v := ?_) (a' := ?_) #[true, true, true, true, true, true, true, true, true, false, false] rfl rfl (any_of HT_.out (by kernel_rfl)) (fun _ _ _ h => h) (Or.inl ⟨by rfl, ?_⟩) ?_ ?_
  rotate_left
  ·
    intro w'
    go_simp
    with_reducible rfl
  rotate_left
  ·
    simp only [Act.put, l_1, l_2, l_3, i64_w, i32_w]
    rfl
  refine pure_ (i := 9) (N := some 23) (v := ?_) (a' := ?_) #[true, true, true, true, true, true, true, true, true, true, false] rfl rfl (any_of HT_.out (by kernel_rfl)) (fun _ _ _ h => h) (Or.inl ⟨by rfl, ?_⟩) ?_ ?_
  rotate_left
  ·
    intro w'
    go_simp
    with_reducible rfl
  rotate_left
  ·
    simp only [Act.put, l_1, l_2, l_3, i64_w, i32_w]
    rfl
  have z1 := SM.out.1.1
  have z2 := SM.out.2.1
  refine last_ (i := 10) (N := none) #[true, true, true, true, true, true, true, true, true, true, true] rfl rfl (one_of HT_.out (by kernel_rfl)) (by decide) (fun K hK => ?_)
  refine skip_ (w1 := ?_) (by rfl) rfl ?_ ?_
  rotate_left
  ·
    go_simp
    rfl
  refine hK.out _ _ ?_
  clear hK K
  refine done_ (done_of HT_.out (by kernel_rfl)) ?_
  clear hHeld HT_ HW_ z1 z2
  have NF := Aside0.mk (show NetAt 52 31 5 (wn.setCell ⟨g, 1, none⟩ (.slice Av ((L.eraseIdx i).length + 1) cv)) base g (fun k => ok k ∨ w.heap.size ≤ k) room (L.eraseIdx i ++ [p]) c0 c1 c2 c3 (.slice Av ((L.eraseIdx i).length + 1) cv) from
    SM.out.2.2.1.mono (fun k hk => by
      rcases hk with (hk | hk) | hk
      · exact Or.inl (HSUB.out k hk)
      · exact Or.inl (HOK.out k hk)
      · exact Or.inr (Nat.le_trans HWS.out hk)) (fun hk => hk.elim HS.out.2.1 (fun h2 => absurd HGL.out (Nat.not_lt.2 h2))))
  have NU2 := Aside0.mk (NU.out.trans SM.out.2.2.2.1 (fun k _ hk => hk.imp (HSUB.out k) id))
  clear SM NU PQ NR
  generalize wn.setCell ⟨g, 1, none⟩ (.slice Av ((L.eraseIdx i).length + 1) cv) = W9 at *
  go_wp2
  go_ret
  exact ⟨_, rfl, NF.out, NU2.out⟩
theorem net_Net_Back.some_ (a room c0 c1 c2 c3 : Int) (L : List NP) (v : Value) (base g : Nat) (ok : Nat → Prop) (w : World) (hN : NetAt 52 31 5 w base g ok room L c0 c1 c2 c3 v) (hbw : base ≤ w.heap.size) (h0 : 0 < L.length) (h1 : (L.length : Int) ≤ 70000) :
    Calls Try.prog 9 #[.pointer (some ⟨g, 0, none⟩), .int .i64 a] w (net_backed w base g ok room c0 c1 c2 c3 (L.eraseIdx (net_idx a L.length).toNat ++ [L.getD (net_idx a L.length).toNat (0, 0, [])])) := by
  refine (net_Net_Back.some0_ a room c0 c1 c2 c3 L v base g (fun k => ok k ∧ k < w.heap.size) w (fun k hk => hk.2) hN.bound hbw h0 h1).mono ?_
  rintro e w' ⟨v', he, hn, hu⟩
  exact ⟨v', he, hn.mono (fun k hk => hk.imp (·.1) id) (fun hk => hk.elim hN.2.1 (fun h2 => absurd (blk_lt hN.2.2.1) (Nat.not_lt.2 h2))), hu.mono (fun k _ hk => hk.imp (·.1) id)⟩
section
variable {w W W' : World} {g gb : Nat} {free free' : Nat → Prop} {room c0 c1 c2 c3 : Int} {L : List NP}
theorem LS.back (a : Int) (h : LS w W g free room L c0 c1 c2 c3) (h0 : 0 < L.length) (h1 : (L.length : Int) ≤ 70000) :
    Calls Try.prog 9 #[.pointer (some ⟨g, 0, none⟩), .int .i64 a] W fun e w' => e = .returned (.bool true) ∧ LS w w' g free room (L.eraseIdx (net_idx a L.length).toNat ++ [L.getD (net_idx a L.length).toNat (0, 0, [])]) c0 c1 c2 c3 ∧ Upd (fun k => ¬ free k) W w' := by
  obtain ⟨h2, h3, ok, v, hn, h4⟩ := h
  refine (net_Net_Back.some_ a room c0 c1 c2 c3 L v _ g ok W hn h2.size h0 h1).mono ?_
  rintro e w' ⟨v', he, hn', hu⟩
  exact ⟨he, ⟨Upd.belowB h2 h2.size hu (fun k hk => hk.elim (fun e => (h4 k e).1) (fun e => by have e' : k = g := e; omega)), ⟨h3.1, h3.2.1, fun k hk => Nat.lt_of_lt_of_le (h3.2.2 k hk) hu.size⟩, _, v', hn'.bound, fun k hk => ⟨hk.1.elim (fun e => (h4 k e).1) (fun e => Nat.le_trans h2.size e), hk.2, fun e => hk.1.elim (fun e2 => (h4 k e2).2.2 e) (fun e2 => by have := h3.2.2 k e; omega)⟩⟩, hu.mono (fun k _ hk => hk.elim (fun e => (h4 k e).2.2) (fun e => by have e' : k = g := e; rw [e']; exact h3.2.1))⟩
end
/-! ### net_Net_Len: function 11, by hand -/
set_option maxHeartbeats 8000000 in
set_option maxRecDepth 100000 in
theorem net_Net_Len.good (room c0 c1 c2 c3 : Int) (L : List NP) (v : Value) (base g : Nat) (ok : Nat → Prop) (w : World) (hN : NetAt 52 31 5 w base g ok room L c0 c1 c2 c3 v) :
    Calls Try.prog 11 #[.pointer (some ⟨g, 0, none⟩)] w fun e w' => e = .returned (.int .i64 L.length) ∧ w = w' := by
  obtain ⟨x0, x1, x2, x3, x4, x5, _⟩ := hN.cells
  obtain ⟨A, c, rfl, hl, _⟩ := hN.slice_
  clear hN hl x0 x2 x3 x4 x5
  go_enter Try.func11, Try.ntmps11
  go_wp2
  go_ret
  exact ⟨rfl, rfl⟩
section
variable {w W W' : World} {g gb : Nat} {free free' : Nat → Prop} {room c0 c1 c2 c3 : Int} {L : List NP}
theorem LS.len (h : LS w W g free room L c0 c1 c2 c3) : Calls Try.prog 11 #[.pointer (some ⟨g, 0, none⟩)] W fun e w' => e = .returned (.int .i64 L.length) ∧ W = w' := by
  obtain ⟨h2, h3, ok, v, hn, h4⟩ := h
  exact net_Net_Len.good room c0 c1 c2 c3 L v _ g ok W hn
end
/-! ### pelotonlaw17_NetOrders: function 3, by hand -/
def pk17 (l : List (List Int)) (i : Nat) : List NP := (List.range i).map fun (j : Nat) => ((j : Int), 1, l.getD j [])
theorem pk17_len (l : List (List Int)) (i : Nat) : (pk17 l i).length = i := by simp [pk17]
theorem pk17_succ (l : List (List Int)) (i : Nat) : pk17 l (i + 1) = pk17 l i ++ [((i : Int), 1, l.getD i [])] := by simp [pk17, List.range_succ]
theorem pk17_get (l : List (List Int)) (n i : Nat) (h : i < n) : (pk17 l n).getD i (0, 0, []) = ((i : Int), 1, l.getD i []) := by simp [pk17, List.getD, h]
def ord17 (l : List (List Int)) (k n : Nat) : List NP := (pk17 l n).eraseIdx k ++ [(pk17 l n).getD k (0, 0, [])]
theorem ord17_len (l : List (List Int)) (k n : Nat) (h : k < n) : (ord17 l k n).length = n := by
  unfold ord17
  rw [List.length_append, List.length_eraseIdx_of_lt (by rw [pk17_len]; exact h), pk17_len, List.length_singleton]; omega
theorem ord17_get (l : List (List Int)) (k n i : Nat) (hk : k < n) (hi : i < n) : (ord17 l k n).getD i (0, 0, []) = (((if i + 1 = n then k else if k ≤ i then i + 1 else i : Nat) : Int), 1, l.getD (if i + 1 = n then k else if k ≤ i then i + 1 else i) []) := by
  unfold ord17
  rw [pk17_get l n k hk]
  have hel : ((pk17 l n).eraseIdx k).length = n - 1 := by rw [List.length_eraseIdx_of_lt (by rw [pk17_len]; exact hk), pk17_len]
  by_cases h1 : i + 1 = n
  · rw [if_pos h1, List.getD_eq_getElem?_getD, List.getElem?_append_right (by omega), hel]
    have : i - (n - 1) = 0 := by omega
    simp [this]
  · rw [if_neg h1, List.getD_eq_getElem?_getD, List.getElem?_append_left (by omega), List.getElem?_eraseIdx]
    by_cases h2 : k ≤ i
    · rw [if_pos h2, if_neg (by omega), ← List.getD_eq_getElem?_getD, pk17_get l n (i + 1) (by omega)]
    · rw [if_neg h2, if_pos (by omega), ← List.getD_eq_getElem?_getD, pk17_get l n i (by omega)]
theorem ord17_next (L : List NP) (i : Nat) (h : i < L.length) : (L.drop i).getD 0 (0, 0, []) = L.getD i (0, 0, []) ∧ (L.drop i).eraseIdx 0 = L.drop (i + 1) := by
  rw [List.drop_eq_getElem_cons h]
  simp [List.getD, h]
theorem idx17_0 (n : Nat) (h : 0 < n) (h1 : n ≤ 70000) : (net_idx 0 (n : Int)).toNat = 0 := by
  unfold net_idx
  rw [Int.zero_tmod, show wrap64 (0 + (n : Int)) = n from by unfold wrap64; omega, Int.tmod_self]
  rfl
theorem row17 {w : World} {A : Option Addr} {n : Nat} {xs : List (List Int)} (h : Kd.C (Kd.slice 5 (Kd.int .u8)) w A n xs) (i : Int) (h0 : 0 ≤ i) (h1 : i < n) : ∃ ad A0 c0, A = some ad ∧ w.cell? (ad.add i.toNat) = some (.slice A0 (xs.getD i.toNat []).length c0) ∧ (xs.getD i.toNat []).length ≤ c0 ∧ (Kd.int .u8).C w A0 (xs.getD i.toNat []).length (xs.getD i.toNat []) := by
  obtain ⟨ad, c, e, _, hK, hc0⟩ := Kd.C_get h ([] : List Int) i h0 h1
  have hc : ∀ j u, c[j]? = some u → w.cell? (ad.add (i.toNat * 1 + j)) = some u := hc0
  obtain ⟨A0, c0, rfl, l0, g0⟩ := hK
  exact ⟨ad, A0, c0, e, by have hq := hc 0 _ rfl; rwa [Nat.mul_one, Nat.add_zero] at hq, l0, g0⟩
theorem net_send1 {room : Int} {L : List NP} {c0 c1 : Int} (p : NP) (h : (L.length : Int) < room) : net_send room [p] L c0 c1 0 = (L ++ [p], wrap64 (c0 + 1), c1, 1) := by
  rw [net_send, if_neg (by omega), net_send, show wrap64 (0 + 1) = 1 by decide +kernel]
def pelotonlaw17_NetOrders.f (l0 : List (List Int)) (a1 : Int) : Option Bool := some true
set_option maxHeartbeats 8000000 in
set_option maxRecDepth 100000 in
theorem pelotonlaw17_NetOrders.calls (A0 : Option Addr) (c0 : Nat) (l0 : List (List Int)) (a1 : Int) (r : Bool) (w : World) (hr0 : Kd.C (Kd.slice 5 (Kd.int .u8)) w A0 l0.length l0) (hc0 : l0.length ≤ c0) (h : pelotonlaw17_NetOrders.f l0 a1 = some r) :
    Calls Try.prog 3 #[.slice A0 l0.length c0, .int .i64 a1] w fun e w' => e = .returned (.bool r) ∧ Below w.heap.size w w' := by
  obtain rfl := Option.some.inj h
  clear h
  have HR := Aside0.mk hr0
  have HC0 := Aside0.mk hc0
  clear hr0 hc0
  have hu31 := Try.underlying31
  by_cases cA : 40 < (l0.length : Int) ∨ (l0.length : Int) = 0
  · have HB := Aside0.mk (Below.refl w.heap.size w)
    by_cases cB : 40 < (l0.length : Int)
    · have q1 : decide (40 < (l0.length : Int)) = true := decide_eq_true cB
      clear cA cB
      go_enter Try.func3, Try.ntmps3
      go_wp2_with (first | (go_at_call 6; (with_reducible refine (pelotonlaw17_awake.good _).mono ?_); rintro e wa ⟨rfl, hb⟩; replace HB := Aside0.mk (below_step HB.out hb); clear hb))
      go_ret
      exact ⟨rfl, HB.out⟩
    · have q1 : decide (40 < (l0.length : Int)) = false := decide_eq_false cB
      have e0 : l0 = [] := List.length_eq_zero_iff.1 (by omega)
      subst e0
      clear cA cB
      go_enter Try.func3, Try.ntmps3
      go_wp2_with (first | (go_at_call 6; (with_reducible refine (pelotonlaw17_awake.good _).mono ?_); rintro e wa ⟨rfl, hb⟩; replace HB := Aside0.mk (below_step HB.out hb); clear hb))
      go_ret
      exact ⟨rfl, HB.out⟩
  · have q1 : decide (40 < (l0.length : Int)) = false := decide_eq_false (by omega)
    have q2 : ((l0.length : Int) == 0) = false := beq_eq_false_iff_ne.2 (by omega)
    have q3 : decide ((l0.length : Int) = 0) = false := decide_eq_false (by omega)
    have q4 : ((l0.length : Int) = 0) = False := eq_false (by omega)
    have q5 : (l0.length = 0) = False := eq_false (by omega)
    have HN := Aside0.mk (show 0 < l0.length ∧ l0.length ≤ 40 from by omega)
    have HB := Aside0.mk (Below.refl w.heap.size w)
    clear cA
    obtain ⟨kk, hkk⟩ : ∃ kk, net_idx a1 l0.length = kk := ⟨_, rfl⟩
    have HK := Aside0.mk (show 0 ≤ kk ∧ kk < l0.length from by rw [← hkk]; exact net_idx.bounds a1 l0.length (by have := HN.out; omega) (by have := HN.out; omega))
    have HKK := Aside0.mk hkk
    have hk2 : Int.tmod (wrap64 (Int.tmod a1 l0.length + l0.length)) l0.length = kk := hkk
    clear hkk
    go_enter Try.func3, Try.ntmps3
    go_upto_block 0 with (first
      | (go_at_call 6; (with_reducible refine (pelotonlaw17_awake.good _).mono ?_); rintro e wa ⟨rfl, hb⟩; replace HB := Aside0.mk (below_step HB.out hb); clear hb)
      | (go_at_call 7; (with_reducible refine (LS.new (w := w) (room := 40) HB.out (by omega) (by omega)).mono ?_); rintro e w1 ⟨g, rfl, hn, hb⟩; have ST := Aside0.mk hn; have HW := Aside0.mk (show ∀ k, k < w.heap.size → k < _ from fun k hk => Nat.lt_of_lt_of_le hk HB.out.size); clear hn hb))
    obtain ⟨fr, hfr⟩ : ∃ fr : Nat → Prop, fr = fun k => k < wa.heap.size := ⟨_, rfl⟩
    replace ST := Aside0.mk (show LS w w1 g fr 40 (pk17 l0 (0 : Int).toNat) 0 0 0 0 from by rw [hfr]; exact ST.out)
    replace HW : Aside0 (∀ k, k < w.heap.size → fr k) := ⟨fun k hk => by rw [hfr]; exact HW.out k hk⟩
    clear hfr
    go_wp2
    go_loopg [7] l0.length (fun m v7 W => ∃ (i : Int) (fr : Nat → Prop) (c0 c1 : Int), v7 = .int .i64 i ∧ 0 ≤ i ∧ Aside0 (i + m = l0.length) ∧ Aside0 (LS w W g fr 40 (pk17 l0 i.toNat) c0 c1 0 0) ∧ Aside0 (∀ k, k < w.heap.size → fr k))
    case atStart => exact ⟨0, fr, 0, 0, rfl, by omega, ⟨by omega⟩, ST, HW⟩
    case round =>
      clear ST HW HB
      obtain ⟨i, fr, d0, d1, rfl, hi0, HI, ST, HW⟩ := hrel
      cases gk with
      | zero =>
        have hin : i = l0.length := by have := HI.out; omega
        have q6 : decide (i < (l0.length : Int)) = false := decide_eq_false (by omega)
        rw [hin, Int.toNat_natCast] at ST
        have HLN := Aside0.mk (show (pk17 l0 l0.length).length = l0.length from pk17_len _ _)
        have HID : Aside0 ((net_idx a1 (pk17 l0 l0.length).length).toNat = kk.toNat) := ⟨by rw [pk17_len, HKK.out]⟩
        clear hin hi0 HI
        go_upto_block 2 with (first
          | (go_at_call 9; refine (LS.back a1 ST.out (by rw [pk17_len]; exact HN.out.1) (by rw [pk17_len]; have := HN.out; omega)).mono ?_; rintro e wb ⟨rfl, hst, hu⟩; replace ST := Aside0.mk (show LS w wb g fr 40 (ord17 l0 kk.toNat l0.length) d0 d1 0 0 from by unfold ord17; rw [← HID.out]; exact hst); clear hst hu))
        go_wp2
        go_loopg [9] l0.length (fun m v9 W => ∃ (i : Int) (fr : Nat → Prop) (c2 : Int), v9 = .int .i64 i ∧ 0 ≤ i ∧ Aside0 (i + m = l0.length) ∧ Aside0 (LS w W g fr 40 ((ord17 l0 kk.toNat l0.length).drop i.toNat) d0 d1 c2 0) ∧ Aside0 (∀ k, k < w.heap.size → fr k))
        case atStart => exact ⟨0, fr, 0, rfl, by omega, ⟨by omega⟩, ST, HW⟩
        case round =>
          clear ST HW q6 HLN HID
          obtain ⟨i, fr, d2, rfl, hi0, HI, ST, HW⟩ := hrel
          cases gk with
          | zero =>
            have hin : i = l0.length := by have := HI.out; omega
            have q6 : decide (i < (l0.length : Int)) = false := decide_eq_false (by omega)
            have hnil : (ord17 l0 kk.toNat l0.length).drop i.toNat = [] := List.drop_of_length_le (by rw [ord17_len _ _ _ (by have := HK.out; omega)]; omega)
            rw [hnil] at ST
            clear hin hi0 HI hnil
            go_wp2_with (first
              | (go_at_call 11; (refine (LS.len ST.out).mono ?_); rintro e wb ⟨rfl, rfl⟩))
            go_ret
            exact ⟨rfl, ST.out.1⟩
          | succ m =>
            have hi1 : i < (l0.length : Int) := by have := HI.out; omega
            have q6 : decide (i < (l0.length : Int)) = true := decide_eq_true hi1
            have hw : IntKind.i64.wrap (i + 1) = i + 1 := by rw [i64_w]; have := HN.out; unfold wrap64; omega
            have hw2 : IntKind.i64.wrap ((l0.length : Int) - 1) = l0.length - 1 := by rw [i64_w]; have := HN.out; unfold wrap64; omega
            have HKN := Aside0.mk (show kk.toNat < l0.length from by have := HK.out; omega)
            have hOL := ord17_len l0 kk.toNat l0.length HKN.out
            have hnx := ord17_next (ord17 l0 kk.toNat l0.length) i.toNat (by rw [hOL]; omega)
            have HX2 : Aside0 (0 < ((ord17 l0 kk.toNat l0.length).drop i.toNat).length) := ⟨by rw [List.length_drop, hOL]; omega⟩
            have HX3 : Aside0 ((((ord17 l0 kk.toNat l0.length).drop i.toNat).length : Int) ≤ 70000) := ⟨by rw [List.length_drop, hOL]; have := HN.out; omega⟩
            have HX0 : Aside0 ((net_idx 0 ((ord17 l0 kk.toNat l0.length).drop i.toNat).length).toNat = 0) := ⟨idx17_0 _ HX2.out (by have := HX3.out; omega)⟩
            have HG := Aside0.mk (hnx.1.trans (ord17_get l0 kk.toNat l0.length i.toNat HKN.out (by omega)))
            have HNX := Aside0.mk hnx.2
            have HI2 := Aside0.mk (show 0 ≤ i ∧ i < (l0.length : Int) from ⟨hi0, hi1⟩)
            clear hOL hnx
            by_cases ck : kk ≤ i
            · have q11 : decide (kk ≤ i) = true := decide_eq_true ck
              by_cases cl : i = (l0.length : Int) - 1
              · have q12 : decide (i = (l0.length : Int) - 1) = true := decide_eq_true cl
                have q13 : (i == (l0.length : Int) - 1) = true := beq_iff_eq.2 cl
                have HE := Aside0.mk (show (if i.toNat + 1 = l0.length then kk.toNat else if kk.toNat ≤ i.toNat then i.toNat + 1 else i.toNat) = kk.toNat from by rw [if_pos (by omega)])
                have HE2 := Aside0.mk (show 0 ≤ kk ∧ kk < (l0.length : Int) from HK.out)
                clear ck cl
                obtain ⟨ad, Ab, cb, e, hx0, hlb, hCb⟩ := row17 HR.out kk HE2.out.1 HE2.out.2
                cases e
                have HX1 := HG.out
                rw [HE.out] at HX1
                obtain ⟨b, hb⟩ : ∃ b, l0.getD (kk).toNat [] = b := ⟨_, rfl⟩
                rw [hb, show (((kk).toNat : Nat) : Int) = kk from by have := HE2.out; omega] at HX1
                rw [hb] at hx0 hlb hCb
                replace HX1 := Aside0.mk HX1
                have HCB := Aside0.mk hCb
                have HX0B := Aside0.mk hx0
                obtain ⟨s, hs⟩ : ∃ s, strOfNums b = s := ⟨_, rfl⟩
                have HSS := Aside0.mk hs
                have p1 : (kk != kk) = false := by simp
                have p2 : (kk == kk) = true := by simp
                have p3 : decide (kk = kk) = true := by simp
                have p4 : decide (0 ≤ kk) = true := decide_eq_true HE2.out.1
                have p5 : decide (kk < (l0.length : Int)) = true := decide_eq_true HE2.out.2
                have p6 : (0 ≤ kk) = True := eq_true HE2.out.1
                have p7 : (kk < (l0.length : Int)) = True := eq_true HE2.out.2
                clear hx0 hlb hCb hb hs
                go_upto_region 24 with (first
                  | (go_at_call 10; refine (LS.take 0 ST.out HX2.out HX3.out 0 (kk, 1, b) HX0.out HX1.out).mono ?_; rintro e wt ⟨At, ct, fr, rfl, hsub, hl, hF, hst, hu⟩; replace HW := Aside0.mk (fun k hk => hsub k (HW.out k hk)); obtain ⟨frt, hx⟩ : ∃ fx : Nat → Prop, fx = fr := ⟨_, rfl⟩; have NFt := Aside0.mk (show Kd.F (Kd.int .u8) wt frt At _ _ from by rw [hx]; exact hF); have HSt : Aside0 (∀ k, frt k → fr k) := ⟨fun k hk => by rw [hx] at hk; exact hk⟩; have HLt := Aside0.mk hl; replace ST := Aside0.mk hst; clear hsub hl hF hst hu hx)
                  | ((with_reducible refine gate_dst (N := 11) rfl ?_); refine box_event ?hg (N := 11) ?hd (cs := #[.int .i64 0, .int .i64 0, .slice none 0 0]) (t := 31) ?hr ?_; (case hd => rfl); (case hg => rfl); (case hr => first | (go_simp; done) | (go_simp; rfl)); intro g11 hg_ wb hbox hbb; have hwg : w.heap.size ≤ g11 := (by rw [hg_]; exact ST.out.1.size); have hft : ∀ k, frt k → k ≠ g11 := (fun k hk e => by have h5 := ST.out.2.1.2.2 k (HSt.out k hk); rw [e, hg_] at h5; exact absurd h5 (Nat.lt_irrefl _)); obtain ⟨fr, hsub, hnew, hst⟩ := ST.out.on hbb; replace HW := Aside0.mk (fun k hk => hsub k (HW.out k hk)); replace NFt := Aside0.mk (Kd.F_below NFt.out hbb); replace HSt := Aside0.mk (fun k hk => hsub k (HSt.out k hk)); have HK11 := Aside0.mk (hnew g11 (by rw [hg_]; exact Nat.le_refl _) (blk_lt hbox)); clear hg_ hsub hnew; (with_reducible refine gate_store_ rfl ?_); refine stU_ rfl rfl rfl rfl rfl hbox rfl (by kernel_rfl) (by simp [Value.oneCell']) ?_; intro W7 hW1 hW2; clear hbox hbb; replace ST := Aside0.mk (hst.put hW2 HK11.out hwg); have K11 := Aside0.mk hW1; replace NFt := Aside0.mk (Kd.F_step NFt.out (fun k hk hlt => hW2.2.2.2.2 k hlt (hft k hk))); clear hst hwg hW1 hW2 hft))
                have hc1 : ∀ n, (convert 28 9 (.slice At b.length ct)).run Try.prog (W7.drewN n) = .ok (.string s) (W7.drewN n) := fun n => by rw [← HSS.out]; exact Kd.C_string (P := Try.prog) (A := At) (c := ct) Try.underlying28 Try.underlying5 Try.underlying9 (Kd.C_drewN (Foot.now NFt.out) n)
                have hc2 : ∀ n, (convert 28 9 (.slice Ab b.length cb)).run Try.prog (W7.drewN n) = .ok (.string s) (W7.drewN n) := fun n => by rw [← HSS.out]; exact Kd.C_string (P := Try.prog) (A := Ab) (c := cb) Try.underlying28 Try.underlying5 Try.underlying9 (Kd.C_drewN (Kd.C_below HCB.out ST.out.1) n)
                obtain ⟨x110, x111, x112, _⟩ := cells3 K11.out
                have hx := (ST.out.1.cell (World.block_lt_of_cell? w _ HX0B.out)).trans HX0B.out
                go_quiet (fail)
                go_wp2
                have STQ := Aside0.mk (ST.out.below (pw_below_drewN (Below.refl _ _) nq))
                go_roundg m
                case measure => omega
                case rel => exact ⟨i + 1, _, _, by first | rfl | rw [hw] | rw [hwv], by have := HI2.out; omega, ⟨by have := HI.out; omega⟩, ⟨by have h5 := STQ.out; rw [HNX.out] at h5; rw [show (i + 1).toNat = i.toNat + 1 by have := HI2.out; omega]; exact h5⟩, ⟨fun k hk => Or.inl (HW.out k hk)⟩⟩
              · have q12 : decide (i = (l0.length : Int) - 1) = false := decide_eq_false cl
                have q13 : (i == (l0.length : Int) - 1) = false := beq_eq_false_iff_ne.2 cl
                have HE := Aside0.mk (show (if i.toNat + 1 = l0.length then kk.toNat else if kk.toNat ≤ i.toNat then i.toNat + 1 else i.toNat) = (i + 1).toNat from by rw [if_neg (by omega), if_pos (by omega)]; omega)
                have HE2 := Aside0.mk (show 0 ≤ i + 1 ∧ i + 1 < (l0.length : Int) from by omega)
                clear ck cl
                obtain ⟨wv, hwv⟩ : ∃ wv, i + 1 = wv := ⟨_, rfl⟩
                rw [hwv] at HE HE2
                rw [hwv] at hw
                obtain ⟨ad, Ab, cb, e, hx0, hlb, hCb⟩ := row17 HR.out wv HE2.out.1 HE2.out.2
                cases e
                have HX1 := HG.out
                rw [HE.out] at HX1
                obtain ⟨b, hb⟩ : ∃ b, l0.getD (wv).toNat [] = b := ⟨_, rfl⟩
                rw [hb, show (((wv).toNat : Nat) : Int) = wv from by have := HE2.out; omega] at HX1
                rw [hb] at hx0 hlb hCb
                replace HX1 := Aside0.mk HX1
                have HCB := Aside0.mk hCb
                have HX0B := Aside0.mk hx0
                obtain ⟨s, hs⟩ : ∃ s, strOfNums b = s := ⟨_, rfl⟩
                have HSS := Aside0.mk hs
                have p1 : (wv != wv) = false := by simp
                have p2 : (wv == wv) = true := by simp
                have p3 : decide (wv = wv) = true := by simp
                have p4 : decide (0 ≤ wv) = true := decide_eq_true HE2.out.1
                have p5 : decide (wv < (l0.length : Int)) = true := decide_eq_true HE2.out.2
                have p6 : (0 ≤ wv) = True := eq_true HE2.out.1
                have p7 : (wv < (l0.length : Int)) = True := eq_true HE2.out.2
                clear hx0 hlb hCb hb hs
                go_upto_region 24 with (first
                  | (go_at_call 10; refine (LS.take 0 ST.out HX2.out HX3.out 0 (wv, 1, b) HX0.out HX1.out).mono ?_; rintro e wt ⟨At, ct, fr, rfl, hsub, hl, hF, hst, hu⟩; replace HW := Aside0.mk (fun k hk => hsub k (HW.out k hk)); obtain ⟨frt, hx⟩ : ∃ fx : Nat → Prop, fx = fr := ⟨_, rfl⟩; have NFt := Aside0.mk (show Kd.F (Kd.int .u8) wt frt At _ _ from by rw [hx]; exact hF); have HSt : Aside0 (∀ k, frt k → fr k) := ⟨fun k hk => by rw [hx] at hk; exact hk⟩; have HLt := Aside0.mk hl; replace ST := Aside0.mk hst; clear hsub hl hF hst hu hx)
                  | ((with_reducible refine gate_dst (N := 11) rfl ?_); refine box_event ?hg (N := 11) ?hd (cs := #[.int .i64 0, .int .i64 0, .slice none 0 0]) (t := 31) ?hr ?_; (case hd => rfl); (case hg => rfl); (case hr => first | (go_simp; done) | (go_simp; rfl)); intro g11 hg_ wb hbox hbb; have hwg : w.heap.size ≤ g11 := (by rw [hg_]; exact ST.out.1.size); have hft : ∀ k, frt k → k ≠ g11 := (fun k hk e => by have h5 := ST.out.2.1.2.2 k (HSt.out k hk); rw [e, hg_] at h5; exact absurd h5 (Nat.lt_irrefl _)); obtain ⟨fr, hsub, hnew, hst⟩ := ST.out.on hbb; replace HW := Aside0.mk (fun k hk => hsub k (HW.out k hk)); replace NFt := Aside0.mk (Kd.F_below NFt.out hbb); replace HSt := Aside0.mk (fun k hk => hsub k (HSt.out k hk)); have HK11 := Aside0.mk (hnew g11 (by rw [hg_]; exact Nat.le_refl _) (blk_lt hbox)); clear hg_ hsub hnew; (with_reducible refine gate_store_ rfl ?_); refine stU_ rfl rfl rfl rfl rfl hbox rfl (by kernel_rfl) (by simp [Value.oneCell']) ?_; intro W7 hW1 hW2; clear hbox hbb; replace ST := Aside0.mk (hst.put hW2 HK11.out hwg); have K11 := Aside0.mk hW1; replace NFt := Aside0.mk (Kd.F_step NFt.out (fun k hk hlt => hW2.2.2.2.2 k hlt (hft k hk))); clear hst hwg hW1 hW2 hft))
                have hc1 : ∀ n, (convert 28 9 (.slice At b.length ct)).run Try.prog (W7.drewN n) = .ok (.string s) (W7.drewN n) := fun n => by rw [← HSS.out]; exact Kd.C_string (P := Try.prog) (A := At) (c := ct) Try.underlying28 Try.underlying5 Try.underlying9 (Kd.C_drewN (Foot.now NFt.out) n)
                have hc2 : ∀ n, (convert 28 9 (.slice Ab b.length cb)).run Try.prog (W7.drewN n) = .ok (.string s) (W7.drewN n) := fun n => by rw [← HSS.out]; exact Kd.C_string (P := Try.prog) (A := Ab) (c := cb) Try.underlying28 Try.underlying5 Try.underlying9 (Kd.C_drewN (Kd.C_below HCB.out ST.out.1) n)
                obtain ⟨x110, x111, x112, _⟩ := cells3 K11.out
                have hx := (ST.out.1.cell (World.block_lt_of_cell? w _ HX0B.out)).trans HX0B.out
                go_quiet (fail)
                go_wp2
                have STQ := Aside0.mk (ST.out.below (pw_below_drewN (Below.refl _ _) nq))
                go_roundg m
                case measure => omega
                case rel => exact ⟨i + 1, _, _, by first | rfl | rw [hw] | rw [hwv], by have := HI2.out; omega, ⟨by have := HI.out; omega⟩, ⟨by have h5 := STQ.out; rw [HNX.out] at h5; rw [show (i + 1).toNat = i.toNat + 1 by have := HI2.out; omega]; exact h5⟩, ⟨fun k hk => Or.inl (HW.out k hk)⟩⟩
            · have q11 : decide (kk ≤ i) = false := decide_eq_false ck
              by_cases cl : i = (l0.length : Int) - 1
              · have q12 : decide (i = (l0.length : Int) - 1) = true := decide_eq_true cl
                have q13 : (i == (l0.length : Int) - 1) = true := beq_iff_eq.2 cl
                have HE := Aside0.mk (show (if i.toNat + 1 = l0.length then kk.toNat else if kk.toNat ≤ i.toNat then i.toNat + 1 else i.toNat) = kk.toNat from by rw [if_pos (by omega)])
                have HE2 := Aside0.mk (show 0 ≤ kk ∧ kk < (l0.length : Int) from HK.out)
                clear ck cl
                obtain ⟨ad, Ab, cb, e, hx0, hlb, hCb⟩ := row17 HR.out kk HE2.out.1 HE2.out.2
                cases e
                have HX1 := HG.out
                rw [HE.out] at HX1
                obtain ⟨b, hb⟩ : ∃ b, l0.getD (kk).toNat [] = b := ⟨_, rfl⟩
                rw [hb, show (((kk).toNat : Nat) : Int) = kk from by have := HE2.out; omega] at HX1
                rw [hb] at hx0 hlb hCb
                replace HX1 := Aside0.mk HX1
                have HCB := Aside0.mk hCb
                have HX0B := Aside0.mk hx0
                obtain ⟨s, hs⟩ : ∃ s, strOfNums b = s := ⟨_, rfl⟩
                have HSS := Aside0.mk hs
                have p1 : (kk != kk) = false := by simp
                have p2 : (kk == kk) = true := by simp
                have p3 : decide (kk = kk) = true := by simp
                have p4 : decide (0 ≤ kk) = true := decide_eq_true HE2.out.1
                have p5 : decide (kk < (l0.length : Int)) = true := decide_eq_true HE2.out.2
                have p6 : (0 ≤ kk) = True := eq_true HE2.out.1
                have p7 : (kk < (l0.length : Int)) = True := eq_true HE2.out.2
                clear hx0 hlb hCb hb hs
                go_upto_region 24 with (first
                  | (go_at_call 10; refine (LS.take 0 ST.out HX2.out HX3.out 0 (kk, 1, b) HX0.out HX1.out).mono ?_; rintro e wt ⟨At, ct, fr, rfl, hsub, hl, hF, hst, hu⟩; replace HW := Aside0.mk (fun k hk => hsub k (HW.out k hk)); obtain ⟨frt, hx⟩ : ∃ fx : Nat → Prop, fx = fr := ⟨_, rfl⟩; have NFt := Aside0.mk (show Kd.F (Kd.int .u8) wt frt At _ _ from by rw [hx]; exact hF); have HSt : Aside0 (∀ k, frt k → fr k) := ⟨fun k hk => by rw [hx] at hk; exact hk⟩; have HLt := Aside0.mk hl; replace ST := Aside0.mk hst; clear hsub hl hF hst hu hx)
                  | ((with_reducible refine gate_dst (N := 11) rfl ?_); refine box_event ?hg (N := 11) ?hd (cs := #[.int .i64 0, .int .i64 0, .slice none 0 0]) (t := 31) ?hr ?_; (case hd => rfl); (case hg => rfl); (case hr => first | (go_simp; done) | (go_simp; rfl)); intro g11 hg_ wb hbox hbb; have hwg : w.heap.size ≤ g11 := (by rw [hg_]; exact ST.out.1.size); have hft : ∀ k, frt k → k ≠ g11 := (fun k hk e => by have h5 := ST.out.2.1.2.2 k (HSt.out k hk); rw [e, hg_] at h5; exact absurd h5 (Nat.lt_irrefl _)); obtain ⟨fr, hsub, hnew, hst⟩ := ST.out.on hbb; replace HW := Aside0.mk (fun k hk => hsub k (HW.out k hk)); replace NFt := Aside0.mk (Kd.F_below NFt.out hbb); replace HSt := Aside0.mk (fun k hk => hsub k (HSt.out k hk)); have HK11 := Aside0.mk (hnew g11 (by rw [hg_]; exact Nat.le_refl _) (blk_lt hbox)); clear hg_ hsub hnew; (with_reducible refine gate_store_ rfl ?_); refine stU_ rfl rfl rfl rfl rfl hbox rfl (by kernel_rfl) (by simp [Value.oneCell']) ?_; intro W7 hW1 hW2; clear hbox hbb; replace ST := Aside0.mk (hst.put hW2 HK11.out hwg); have K11 := Aside0.mk hW1; replace NFt := Aside0.mk (Kd.F_step NFt.out (fun k hk hlt => hW2.2.2.2.2 k hlt (hft k hk))); clear hst hwg hW1 hW2 hft))
                have hc1 : ∀ n, (convert 28 9 (.slice At b.length ct)).run Try.prog (W7.drewN n) = .ok (.string s) (W7.drewN n) := fun n => by rw [← HSS.out]; exact Kd.C_string (P := Try.prog) (A := At) (c := ct) Try.underlying28 Try.underlying5 Try.underlying9 (Kd.C_drewN (Foot.now NFt.out) n)
                have hc2 : ∀ n, (convert 28 9 (.slice Ab b.length cb)).run Try.prog (W7.drewN n) = .ok (.string s) (W7.drewN n) := fun n => by rw [← HSS.out]; exact Kd.C_string (P := Try.prog) (A := Ab) (c := cb) Try.underlying28 Try.underlying5 Try.underlying9 (Kd.C_drewN (Kd.C_below HCB.out ST.out.1) n)
                obtain ⟨x110, x111, x112, _⟩ := cells3 K11.out
                have hx := (ST.out.1.cell (World.block_lt_of_cell? w _ HX0B.out)).trans HX0B.out
                go_quiet (fail)
                go_wp2
                have STQ := Aside0.mk (ST.out.below (pw_below_drewN (Below.refl _ _) nq))
                go_roundg m
                case measure => omega
                case rel => exact ⟨i + 1, _, _, by first | rfl | rw [hw] | rw [hwv], by have := HI2.out; omega, ⟨by have := HI.out; omega⟩, ⟨by have h5 := STQ.out; rw [HNX.out] at h5; rw [show (i + 1).toNat = i.toNat + 1 by have := HI2.out; omega]; exact h5⟩, ⟨fun k hk => Or.inl (HW.out k hk)⟩⟩
              · have q12 : decide (i = (l0.length : Int) - 1) = false := decide_eq_false cl
                have q13 : (i == (l0.length : Int) - 1) = false := beq_eq_false_iff_ne.2 cl
                have HE := Aside0.mk (show (if i.toNat + 1 = l0.length then kk.toNat else if kk.toNat ≤ i.toNat then i.toNat + 1 else i.toNat) = i.toNat from by rw [if_neg (by omega), if_neg (by omega)])
                have HE2 := Aside0.mk (show 0 ≤ i ∧ i < (l0.length : Int) from HI2.out)
                clear ck cl
                obtain ⟨wv, hwv⟩ : ∃ wv, i = wv := ⟨_, rfl⟩
                rw [hwv] at HE HE2
                subst hwv
                obtain ⟨ad, Ab, cb, e, hx0, hlb, hCb⟩ := row17 HR.out i HE2.out.1 HE2.out.2
                cases e
                have HX1 := HG.out
                rw [HE.out] at HX1
                obtain ⟨b, hb⟩ : ∃ b, l0.getD (i).toNat [] = b := ⟨_, rfl⟩
                rw [hb, show (((i).toNat : Nat) : Int) = i from by have := HE2.out; omega] at HX1
                rw [hb] at hx0 hlb hCb
                replace HX1 := Aside0.mk HX1
                have HCB := Aside0.mk hCb
                have HX0B := Aside0.mk hx0
                obtain ⟨s, hs⟩ : ∃ s, strOfNums b = s := ⟨_, rfl⟩
                have HSS := Aside0.mk hs
                have p1 : (i != i) = false := by simp
                have p2 : (i == i) = true := by simp
                have p3 : decide (i = i) = true := by simp
                have p4 : decide (0 ≤ i) = true := decide_eq_true HE2.out.1
                have p5 : decide (i < (l0.length : Int)) = true := decide_eq_true HE2.out.2
                have p6 : (0 ≤ i) = True := eq_true HE2.out.1
                have p7 : (i < (l0.length : Int)) = True := eq_true HE2.out.2
                clear hx0 hlb hCb hb hs
                go_upto_region 24 with (first
                  | (go_at_call 10; refine (LS.take 0 ST.out HX2.out HX3.out 0 (i, 1, b) HX0.out HX1.out).mono ?_; rintro e wt ⟨At, ct, fr, rfl, hsub, hl, hF, hst, hu⟩; replace HW := Aside0.mk (fun k hk => hsub k (HW.out k hk)); obtain ⟨frt, hx⟩ : ∃ fx : Nat → Prop, fx = fr := ⟨_, rfl⟩; have NFt := Aside0.mk (show Kd.F (Kd.int .u8) wt frt At _ _ from by rw [hx]; exact hF); have HSt : Aside0 (∀ k, frt k → fr k) := ⟨fun k hk => by rw [hx] at hk; exact hk⟩; have HLt := Aside0.mk hl; replace ST := Aside0.mk hst; clear hsub hl hF hst hu hx)
                  | ((with_reducible refine gate_dst (N := 11) rfl ?_); refine box_event ?hg (N := 11) ?hd (cs := #[.int .i64 0, .int .i64 0, .slice none 0 0]) (t := 31) ?hr ?_; (case hd => rfl); (case hg => rfl); (case hr => first | (go_simp; done) | (go_simp; rfl)); intro g11 hg_ wb hbox hbb; have hwg : w.heap.size ≤ g11 := (by rw [hg_]; exact ST.out.1.size); have hft : ∀ k, frt k → k ≠ g11 := (fun k hk e => by have h5 := ST.out.2.1.2.2 k (HSt.out k hk); rw [e, hg_] at h5; exact absurd h5 (Nat.lt_irrefl _)); obtain ⟨fr, hsub, hnew, hst⟩ := ST.out.on hbb; replace HW := Aside0.mk (fun k hk => hsub k (HW.out k hk)); replace NFt := Aside0.mk (Kd.F_below NFt.out hbb); replace HSt := Aside0.mk (fun k hk => hsub k (HSt.out k hk)); have HK11 := Aside0.mk (hnew g11 (by rw [hg_]; exact Nat.le_refl _) (blk_lt hbox)); clear hg_ hsub hnew; (with_reducible refine gate_store_ rfl ?_); refine stU_ rfl rfl rfl rfl rfl hbox rfl (by kernel_rfl) (by simp [Value.oneCell']) ?_; intro W7 hW1 hW2; clear hbox hbb; replace ST := Aside0.mk (hst.put hW2 HK11.out hwg); have K11 := Aside0.mk hW1; replace NFt := Aside0.mk (Kd.F_step NFt.out (fun k hk hlt => hW2.2.2.2.2 k hlt (hft k hk))); clear hst hwg hW1 hW2 hft))
                have hc1 : ∀ n, (convert 28 9 (.slice At b.length ct)).run Try.prog (W7.drewN n) = .ok (.string s) (W7.drewN n) := fun n => by rw [← HSS.out]; exact Kd.C_string (P := Try.prog) (A := At) (c := ct) Try.underlying28 Try.underlying5 Try.underlying9 (Kd.C_drewN (Foot.now NFt.out) n)
                have hc2 : ∀ n, (convert 28 9 (.slice Ab b.length cb)).run Try.prog (W7.drewN n) = .ok (.string s) (W7.drewN n) := fun n => by rw [← HSS.out]; exact Kd.C_string (P := Try.prog) (A := Ab) (c := cb) Try.underlying28 Try.underlying5 Try.underlying9 (Kd.C_drewN (Kd.C_below HCB.out ST.out.1) n)
                obtain ⟨x110, x111, x112, _⟩ := cells3 K11.out
                have hx := (ST.out.1.cell (World.block_lt_of_cell? w _ HX0B.out)).trans HX0B.out
                go_quiet (fail)
                go_wp2
                have STQ := Aside0.mk (ST.out.below (pw_below_drewN (Below.refl _ _) nq))
                go_roundg m
                case measure => omega
                case rel => exact ⟨i + 1, _, _, by first | rfl | rw [hw] | rw [hwv], by have := HI2.out; omega, ⟨by have := HI.out; omega⟩, ⟨by have h5 := STQ.out; rw [HNX.out] at h5; rw [show (i + 1).toNat = i.toNat + 1 by have := HI2.out; omega]; exact h5⟩, ⟨fun k hk => Or.inl (HW.out k hk)⟩⟩
      | succ m =>
        have hi1 : i < (l0.length : Int) := by have := HI.out; omega
        have q6 : decide (i < (l0.length : Int)) = true := decide_eq_true hi1
        have q7 : decide (0 ≤ i) = true := decide_eq_true hi0
        have q8 : (0 ≤ i) = True := eq_true hi0
        have q9 : (i < (l0.length : Int)) = True := eq_true hi1
        have hw : IntKind.i64.wrap (i + 1) = i + 1 := by rw [i64_w]; have := HN.out; unfold wrap64; omega
        obtain ⟨ad, Ab, cb, e, hx0, hlb, hCb⟩ := row17 HR.out i hi0 hi1
        cases e
        have hx := (ST.out.1.cell (World.block_lt_of_cell? w _ hx0)).trans hx0
        have HBE : Aside0 (((i.toNat : Nat) : Int) = i) := ⟨by omega⟩
        have HSC := Aside0.mk (pk17_succ l0 i.toNat)
        obtain ⟨b, hb⟩ : ∃ b, l0.getD i.toNat [] = b := ⟨_, rfl⟩
        rw [hb] at hx hlb hCb HSC
        have HCb := Aside0.mk hlb
        have HFb := Aside0.mk (Kd.F_below (Kd.F_bound (C_F hCb)) ST.out.1)
        clear hx0 hb hlb hCb
        by_cases cl : 200 < (b.length : Int)
        · have q10 : decide (200 < (b.length : Int)) = true := decide_eq_true cl
          clear cl
          go_wp2
          go_ret
          exact ⟨rfl, ST.out.1⟩
        · have q10 : decide (200 < (b.length : Int)) = false := decide_eq_false cl
          have HBB : Aside0 (b.length < 140737488355328) := ⟨by omega⟩
          clear cl
          go_wp2_with (first
            | ((with_reducible refine gate_dst (N := 55) rfl ?_); refine lit_ rfl rfl (bld31_ (e := 31) (.int .i64 0) (.int .i64 0) (.slice none 0 0) rfl rfl) ?_; intro gl wl hgl hkl hbl; obtain ⟨fr, hsub, hnew, hst⟩ := ST.out.on hbl; have HW2 := Aside0.mk (fun k hk => hsub k (HW.out k hk)); have HF := Aside0.mk (Kd.F_mono (npk_F1 hkl HCb.out (Kd.F_below HFb.out hbl)) (fun k hk => hk.elim (fun e => hnew k (by rw [e, hgl]; exact Nat.le_refl _) (by rw [e]; exact blk_lt hkl)) (fun e => HW2.out k e.2))); replace ST := Aside0.mk hst; clear hgl hkl hbl hsub hnew hst)
            | (go_at_call 8; refine (LS.send 1 rfl ST.out HF.out (Nat.le_refl _) (by omega) (by simp) ?s5 (net_send1 _ ?s6)).mono ?_; (case s5 => (intro p hp; simp only [List.mem_cons, List.not_mem_nil, or_false] at hp; subst hp; exact HBB.out)); (case s6 => (rw [pk17_len]; have := HN.out; have := HI.out; omega)); rintro e ws ⟨rfl, hn, hu⟩; replace ST := Aside0.mk hn; clear hn hu HF))
          go_roundg m
          case measure => omega
          case rel => exact ⟨i + 1, fr, _, _, by first | rfl | rw [hw], by omega, ⟨by have := HI.out; omega⟩, ⟨by rw [show (i + 1).toNat = i.toNat + 1 by omega, HSC.out, HBE.out]; exact ST.out⟩, HW2⟩
/-- THE ONE PURE STATEMENT of pelotonlaw17_NetOrders. -/
def pelotonlaw17_NetOrders.Pure : Prop := ∀ (l0 : List (List Int)) (a1 : Int), (l0.length ≤ maxLen ∧ ∀ y0 ∈ l0, y0.length ≤ maxLen ∧ ∀ y1 ∈ y0, (Lit.int .u8 y1).wf = true) → ((Lit.int .i64 a1).wf = true) → pelotonlaw17_NetOrders.f l0 a1 = some true
end Go.Proofs.Ytpaamdppobcmnaa.QNetOrders
