-- Written by a program of this session (a turned copy of the print) out of the translation. Lean checks it.
import Derived.Test.YtpaamdppobcmnaaQNetActsx0
import Derived.Test.YtpaamdppobcmnaaQNetActsx1
namespace Go.Proofs.Ytpaamdppobcmnaa.QNetActs
open Go.RowKit Go.Proofs.YtpaamdppobcmnaaW.PrintWords Go.Proofs.YtpaamdppobcmnaaW.PrintLast Go.Proofs.YtpaamdppobcmnaaW.PrintMore
attribute [local go_sem] max2_int min2_int max_two min_two max_three min_three max_four min_four   -- for this text's walks alone
open Go.Proofs.YtpaamdppobcmnaaW.PrintWords renaming below_alloc → b_a, pw_below_drewN → b_n, below_drew1 → b_d, below_set → b_s, blk_drewN → k_n, blk_drew → k_d, blk_alloc → k_a
open List renaming setIfInBounds_toArray → l_1, set_cons_zero → l_2, set_cons_succ → l_3, map_toArray → l_4, map_cons → l_5, map_nil → l_6, length_drop → l_7, length_take → l_8
set_option linter.unusedVariables false
set_option linter.unusedSimpArgs false

/-! ### pelotonlaw17_awake: function 6, by hand -/
theorem konst_ {P : Program} {ops : Array Oper} {rest : List Oper} {o1 o2 : Oper} {a : Act} {Q : Exit → Act → World → Prop} {W : World} (s : Tmp) (n : Nat) (C : Array Value) (t e : TypeId) (h1 : o1.guard = none) (h2 : o2.guard = none) (hd1 : o1.dst = some s) (hr1 : (execOp a.eval o1).run P W = .ok (.value (.slice (some ⟨W.heap.size, 0, none⟩) n n)) (W.alloc (.cells C e)))
    (ho2 : o2.op = .convert t t (.tmp s)) (hev : (a.put (some s) (.slice (some ⟨W.heap.size, 0, none⟩) n n)).eval (.tmp s) = .slice (some ⟨W.heap.size, 0, none⟩) n n) (ht : P.underlying t = some (.slice e)) (he : P.underlying e = some (.int .u8))
    (h : ∀ g W', g = W.heap.size → W'.heap[g]? = some (.cells C e (C.size, C.size + 1)) → Below W.heap.size W W' → wpList P ops Q rest ((a.put (some s) (.slice (some ⟨g, 0, none⟩) n n)).put o2.dst (.slice (some ⟨g, 0, none⟩) n n)) W') : wpList P ops Q (o1 :: o2 :: rest) a W := by
  refine Kd.event_run h1 hr1 ?_
  rw [hd1]
  have hr2 : (execOp (a.put (some s) (.slice (some ⟨W.heap.size, 0, none⟩) n n)).eval o2).run P (W.alloc (.cells C e)) = .ok (.value (.slice (some ⟨W.heap.size, 0, none⟩) n n)) (W.alloc (.cells C e (C.size, C.size + 1))) := by
    unfold execOp
    simp only [ho2, hev, Sem.run_bind, Lib.run_convert_bytes_const W t e C n n ht he, Result.andThen_ok]
    rfl
  exact Kd.event_run h2 hr2 (h _ _ rfl (heap_alloc_last W _) (below_alloc (Below.refl _ _) _))
theorem blkF {k : IntKind} {w : World} {g : Nat} {l : List Int} {t : TypeId} {fr : Nat × Nat} (hn : l.length ≤ 9223372036854775807) (h : w.heap[g]? = some (.cells (l.map (Value.int k)).toArray t fr)) : Kd.F (Kd.int k) w (fun j => j = g) (some ⟨g, 0, none⟩) l.length l :=
  fun W' hW => C_blk hn ((hW g rfl (blk_lt h)).trans h)
theorem npk_F {W : World} {gl t : Nat} {fr : Nat × Nat} {ok : Nat → Prop} (ls : List (NP × Option Addr × Nat)) (cs : List Value) (hcs : ∀ (j : Nat) (x : NP × Option Addr × Nat), ls[j]? = some x → (cs.drop (j * 3)).take 3 = [.int .i64 x.1.1, .int .i64 x.1.2.1, .slice x.2.1 x.1.2.2.length x.2.2]) (hb : W.heap[gl]? = some (.cells cs.toArray t fr)) (hF : ∀ (j : Nat) (x : NP × Option Addr × Nat), ls[j]? = some x → x.1.2.2.length ≤ x.2.2 ∧ Kd.F (Kd.int .u8) W ok x.2.1 x.1.2.2.length x.1.2.2) (hn : ls.length ≤ 9223372036854775807) :
    Kd.F (npk 5) W (fun k => k = gl ∨ ok k) (some ⟨gl, 0, none⟩) ls.length (ls.map (·.1)) := by
  intro W' hW
  have hb' : W'.heap[gl]? = some (.cells cs.toArray t fr) := (hW gl (Or.inl rfl) (blk_lt hb)).trans hb
  refine ⟨by simp, hn, fun _ => ⟨⟨gl, 0, none⟩, rfl, fun j p hj => ?_⟩⟩
  rw [List.getElem?_map] at hj
  obtain ⟨x, hx, rfl⟩ := Option.map_eq_some_iff.1 hj
  obtain ⟨h1, h2⟩ := hF j x hx
  refine ⟨(cs.drop (j * 3)).take 3, by rw [hcs j x hx]; rfl, by rw [hcs j x hx]; exact npk_mkK _ _ h1 (h2 W' (fun k hk hlt => hW k (Or.inr hk) hlt)), fun i u hu => ?_⟩
  rw [List.getElem?_take] at hu
  split at hu
  · rw [List.getElem?_drop] at hu
    show W'.cell? ((⟨gl, 0, none⟩ : Addr).add (j * 3 + i)) = some u
    rw [add_plain, cell_of_row W' gl _ _ t fr hb']
    simpa using hu
  · cases hu
theorem npk_F3 {W : World} {gl t : Nat} {fr : Nat × Nat} {ok : Nat → Prop} {x0 y0 x1 y1 x2 y2 : Int} {b0 b1 b2 : List Int} {A0 A1 A2 : Option Addr} {c0 c1 c2 : Nat} (hb : W.heap[gl]? = some (.cells #[.int .i64 x0, .int .i64 y0, .slice A0 b0.length c0, .int .i64 x1, .int .i64 y1, .slice A1 b1.length c1, .int .i64 x2, .int .i64 y2, .slice A2 b2.length c2] t fr)) (h0 : b0.length ≤ c0) (h1 : b1.length ≤ c1) (h2 : b2.length ≤ c2) (f0 : Kd.F (Kd.int .u8) W ok A0 b0.length b0) (f1 : Kd.F (Kd.int .u8) W ok A1 b1.length b1) (f2 : Kd.F (Kd.int .u8) W ok A2 b2.length b2) :
    Kd.F (npk 5) W (fun k => k = gl ∨ ok k) (some ⟨gl, 0, none⟩) 3 [(x0, y0, b0), (x1, y1, b1), (x2, y2, b2)] :=
  npk_F [((x0, y0, b0), A0, c0), ((x1, y1, b1), A1, c1), ((x2, y2, b2), A2, c2)] [.int .i64 x0, .int .i64 y0, .slice A0 b0.length c0, .int .i64 x1, .int .i64 y1, .slice A1 b1.length c1, .int .i64 x2, .int .i64 y2, .slice A2 b2.length c2]
    (fun j x hj => by
      match j with
      | 0 => obtain rfl := Option.some.inj hj; rfl
      | 1 => obtain rfl := Option.some.inj hj; rfl
      | 2 => obtain rfl := Option.some.inj hj; rfl
      | j + 3 => cases hj) hb
    (fun j x hj => by
      match j with
      | 0 => obtain rfl := Option.some.inj hj; exact ⟨h0, f0⟩
      | 1 => obtain rfl := Option.some.inj hj; exact ⟨h1, f1⟩
      | 2 => obtain rfl := Option.some.inj hj; exact ⟨h2, f2⟩
      | j + 3 => cases hj) (by simp)
theorem npk_F1 {W : World} {gl t : Nat} {fr : Nat × Nat} {ok : Nat → Prop} {x0 y0 : Int} {b0 : List Int} {A0 : Option Addr} {c0 : Nat} (hb : W.heap[gl]? = some (.cells #[.int .i64 x0, .int .i64 y0, .slice A0 b0.length c0] t fr)) (h0 : b0.length ≤ c0) (f0 : Kd.F (Kd.int .u8) W ok A0 b0.length b0) :
    Kd.F (npk 5) W (fun k => k = gl ∨ ok k) (some ⟨gl, 0, none⟩) 1 [(x0, y0, b0)] :=
  npk_F [((x0, y0, b0), A0, c0)] [.int .i64 x0, .int .i64 y0, .slice A0 b0.length c0]
    (fun j x hj => by
      match j with
      | 0 => obtain rfl := Option.some.inj hj; rfl
      | j + 1 => cases hj) hb
    (fun j x hj => by
      match j with
      | 0 => obtain rfl := Option.some.inj hj; exact ⟨h0, f0⟩
      | j + 1 => cases hj) (by simp)
theorem lit_ {P : Program} {ops : Array Oper} {rest : List Oper} {o : Oper} {a : Act} {Q : Exit → Act → World → Prop} {W : World} (hgd : o.guard = none) {N : Tmp} (hd : o.dst = some N) {cells : Array Value} {n : Nat} {e : TypeId} (hrun : (execOp a.eval o).run P W = .ok (.value (.slice (some ⟨W.heap.size, 0, none⟩) n n)) (W.alloc (.cells cells e)))
    (h : ∀ g W', g = W.heap.size → W'.heap[g]? = some (.cells cells e (0, 0)) → Below W.heap.size W W' → wpList P ops Q rest (a.put (some N) (.slice (some ⟨g, 0, none⟩) n n)) W') : wpList P ops Q (o :: rest) a W := by
  refine Kd.event_run hgd hrun ?_
  rw [hd]
  exact h _ _ rfl (heap_alloc_last W _) (below_alloc (Below.refl _ _) _)
theorem bld33_ {P : Program} {ev : Operand → Value} {o : Oper} {W : World} {t e : TypeId} {x y z : Operand} {v0 v1 v2 u0 u1 u2 t0 t1 t2 : Value} (z0 z1 z2 : Value) (ho : o.op = .buildSlice t 3 #[(0, x), (1, y), (2, z)]) (hx : ev x = .agg #[v0, v1, v2]) (hy : ev y = .agg #[u0, u1, u2]) (hz : ev z = .agg #[t0, t1, t2]) (hu : P.underlying t = some (.slice e) := by kernel_rfl) (hi : (P.info? e).map (fun i => (i.zero, i.size)) = some (some (.agg #[z0, z1, z2]), 3) := by kernel_rfl) :
    (execOp ev o).run P W = .ok (.value (.slice (some ⟨W.heap.size, 0, none⟩) 3 3)) (W.alloc (.cells #[v0, v1, v2, u0, u1, u2, t0, t1, t2] e)) :=
  bld_ 3 (.agg #[z0, z1, z2]) ho rfl (by simp only [l_4, l_5, l_6, List.map_toArray, List.map_cons, List.map_nil, hx, hy, hz]; kernel_rfl) hu hi rfl rfl
/-! a law's own state with one net: what is free is none of the net's -/
def LS (w W : World) (g : Nat) (free : Nat → Prop) (room : Int) (L : List NP) (c0 c1 c2 c3 : Int) : Prop :=
  Below w.heap.size w W ∧ (w.heap.size ≤ g ∧ ¬ free g ∧ ∀ k, free k → k < W.heap.size) ∧ ∃ (ok : Nat → Prop) (v : Value), NetAt 52 31 5 W w.heap.size g ok room L c0 c1 c2 c3 v ∧ ∀ k, ok k → w.heap.size ≤ k ∧ k < W.heap.size ∧ ¬ free k
section
variable {w W W' : World} {g gb : Nat} {free free' : Nat → Prop} {room c0 c1 c2 c3 : Int} {L : List NP}
theorem LS.below (h : LS w W g free room L c0 c1 c2 c3) (hb : Below W.heap.size W W') : LS w W' g (fun k => free k ∨ (W.heap.size ≤ k ∧ k < W'.heap.size)) room L c0 c1 c2 c3 := by
  obtain ⟨h1, h2, ok, v, hn, h3⟩ := h
  have hg := blk_lt hn.2.2.1
  exact ⟨below_step h1 hb, ⟨h2.1, fun e => e.elim h2.2.1 (fun e => by omega), fun k hk => hk.elim (fun e => Nat.lt_of_lt_of_le (h2.2.2 k e) hb.size) (fun e => e.2)⟩, ok, v, hn.below hb, fun k hk => ⟨(h3 k hk).1, Nat.lt_of_lt_of_le (h3 k hk).2.1 hb.size, fun e => e.elim (h3 k hk).2.2 (fun e => by have := (h3 k hk).2.1; omega)⟩⟩
theorem LS.drw (h : LS w W g free room L c0 c1 c2 c3) : LS w W.drew g free room L c0 c1 c2 c3 :=
  ⟨below_drew h.1, h.2.1, h.2.2.choose, h.2.2.choose_spec.choose, h.2.2.choose_spec.choose_spec.1.drew, h.2.2.choose_spec.choose_spec.2⟩
theorem LS.on (h : LS w W g free room L c0 c1 c2 c3) (hb : Below W.heap.size W W') : ∃ fr : Nat → Prop, (∀ k, free k → fr k) ∧ (∀ k, W.heap.size ≤ k → k < W'.heap.size → fr k) ∧ LS w W' g fr room L c0 c1 c2 c3 :=
  ⟨_, fun k hk => Or.inl hk, fun k h1 h2 => Or.inr ⟨h1, h2⟩, h.below hb⟩
theorem LS.less (h : LS w W g free room L c0 c1 c2 c3) (hf : ∀ k, free' k → free k) : LS w W g free' room L c0 c1 c2 c3 :=
  ⟨h.1, ⟨h.2.1.1, fun e => h.2.1.2.1 (hf _ e), fun k hk => h.2.1.2.2 k (hf k hk)⟩, h.2.2.choose, h.2.2.choose_spec.choose, h.2.2.choose_spec.choose_spec.1, fun k hk => ⟨(h.2.2.choose_spec.choose_spec.2 k hk).1, (h.2.2.choose_spec.choose_spec.2 k hk).2.1, fun e => (h.2.2.choose_spec.choose_spec.2 k hk).2.2 (hf k e)⟩⟩
theorem LS.put (h : LS w W g free room L c0 c1 c2 c3) (hu : Upd (fun k => k = gb) W W') (hf : free gb) (hb : w.heap.size ≤ gb) : LS w W' g free room L c0 c1 c2 c3 := by
  obtain ⟨h1, h2, ok, v, hn, h3⟩ := h
  exact ⟨Upd.belowB h1 h1.size hu (fun k e => by have e' : k = gb := e; omega), ⟨h2.1, h2.2.1, fun k hk => Nat.lt_of_lt_of_le (h2.2.2 k hk) hu.size⟩, ok, v, hn.upd hu (fun k hk _ e => (h3 k hk).2.2 (by have e' : k = gb := e; rw [e']; exact hf)) (fun e => h2.2.1 (by have e' : g = gb := e; rw [e']; exact hf)), fun k hk => ⟨(h3 k hk).1, Nat.lt_of_lt_of_le (h3 k hk).2.1 hu.size, (h3 k hk).2.2⟩⟩
theorem LS.new (h0 : Below w.heap.size w W) (h1 : 0 ≤ room) (h2 : room ≤ 65536) : Calls Try.prog 7 #[.int .i64 room] W fun e w' => ∃ g, e = .returned (.tuple #[.pointer (some ⟨g, 0, none⟩), .int .i64 0]) ∧ LS w w' g (fun k => k < W.heap.size) room [] 0 0 0 0 ∧ Below W.heap.size W w' := by
  refine (net_New.good room W w.heap.size h0.size h1 h2).mono ?_
  rintro e w' ⟨g, he, hn, hb, hg⟩
  exact ⟨g, he, ⟨below_step h0 hb, ⟨by rw [hg]; exact h0.size, fun e => by omega, fun k hk => Nat.lt_of_lt_of_le hk hb.size⟩, _, _, hn, fun k hk => hk.elim⟩, hb⟩
theorem LS.take (a : Int) (h : LS w W g free room L c0 c1 c2 c3) (h0 : 0 < L.length) (h1 : (L.length : Int) ≤ 70000) (i : Nat) (p : NP) (hi : (net_idx a L.length).toNat = i) (hp : L.getD i (0, 0, []) = p) :
    Calls Try.prog 10 #[.pointer (some ⟨g, 0, none⟩), .int .i64 a] W fun e w' => ∃ (A : Option Addr) (c : Nat) (free' : Nat → Prop), e = .returned (.tuple #[.agg #[.int .i64 p.1, .int .i64 p.2.1, .slice A p.2.2.length c], .bool true]) ∧ (∀ k, free k → free' k) ∧ p.2.2.length ≤ c ∧ Kd.F (Kd.int .u8) w' free' A p.2.2.length p.2.2 ∧ LS w w' g free' room (L.eraseIdx i) c0 c1 (wrap64 (c2 + 1)) c3 ∧ Upd (fun k => ¬ free k) W w' := by
  obtain ⟨h2, h3, ok, v, hn, h4⟩ := h
  subst hi; subst hp
  refine (net_Net_Take.some_ a room c0 c1 c2 c3 L v _ g ok W hn h0 (by omega)).mono ?_
  rintro e w' ⟨okp, vb, v', he, hR, hok, hn', hu⟩
  obtain ⟨A, c, rfl, hl, _⟩ := Kd.R_reads hR
  have hR2 := Kd.R_bound hR
  refine ⟨A, c, fun k => free k ∨ (okp k ∧ k < w'.heap.size), he, fun k hk => Or.inl hk, hl, ?_, ⟨Upd.belowB h2 h2.size hu (fun k hk => hk.elim (fun e => (h4 k e).1) (fun e => by have e' : k = g := e; omega)), ⟨h3.1, fun e => e.elim h3.2.1 (fun e => hn.2.1 (hok g e.1)), fun k hk => hk.elim (fun e => Nat.lt_of_lt_of_le (h3.2.2 k e) hu.size) (fun e => e.2)⟩, _, v', hn'.bound, fun k hk => ⟨(h4 k hk.1.1).1, hk.2, fun e => e.elim (h4 k hk.1.1).2.2 (fun e => hk.1.2 e.1)⟩⟩, hu.mono (fun k _ hk => hk.elim (fun e => (h4 k e).2.2) (fun e => by have e' : k = g := e; rw [e']; exact h3.2.1))⟩
  intro W2 hW2
  have h5 := Kd.R_step (w1 := W2) hR2 (fun k hk hlt => hW2 k (Or.inr ⟨hk.1, hk.2.2.1⟩) hlt)
  exact (Kd.R_reads' h5).2.2
theorem LS.take0 (a : Int) (h : LS w W g free room [] c0 c1 c2 c3) :
    Calls Try.prog 10 #[.pointer (some ⟨g, 0, none⟩), .int .i64 a] W fun e w' => e = .returned (.tuple #[.agg #[.int .i64 0, .int .i64 0, .slice none 0 0], .bool false]) ∧ Below W.heap.size W w' := by
  obtain ⟨h2, h3, ok, v, hn, h4⟩ := h
  exact net_Net_Take.none_ a room c0 c1 c2 c3 v _ g ok W hn
theorem LS.send {A : Option Addr} {c : Nat} {ps : List NP} {R : List NP × Int × Int × Int} (n : Nat) (hn_ : n = ps.length) (h : LS w W g free room L c0 c1 c2 c3) (hF : Kd.F (npk 5) W free A ps.length ps) (hc : n ≤ c) (hroom : room ≤ 65536) (hps : ps.length ≤ 4611686018427387903) (hbl : ∀ p ∈ ps, p.2.2.length < 140737488355328) (hR : net_send room ps L c0 c1 0 = R) :
    Calls Try.prog 8 #[.pointer (some ⟨g, 0, none⟩), .slice A n c] W fun e w' => e = .returned (.int .i64 R.2.2.2) ∧ LS w w' g free room R.1 R.2.1 R.2.2.1 c2 c3 ∧ Upd (fun k => ¬ free k) W w' := by
  subst hn_
  obtain ⟨h2, h3, ok, v, hn, h4⟩ := h
  refine (net_Net_Send.some_ room c0 c1 c2 c3 L v _ g ok free A c ps R W hn h2.size hF hc (fun k hk => ⟨fun e => (h4 k e).2.2 hk, fun e => h3.2.1 (by rw [← e]; exact hk)⟩) hroom hps hbl hR).mono ?_
  rintro e w' ⟨v', he, hn', hu⟩
  exact ⟨he, ⟨Upd.belowB h2 h2.size hu (fun k hk => hk.elim (fun e => (h4 k e).1) (fun e => by have e' : k = g := e; omega)), ⟨h3.1, h3.2.1, fun k hk => Nat.lt_of_lt_of_le (h3.2.2 k hk) hu.size⟩, _, v', hn'.bound, fun k hk => ⟨hk.1.elim (fun e => (h4 k e).1) (fun e => Nat.le_trans h2.size e), hk.2, fun e => hk.1.elim (fun e2 => (h4 k e2).2.2 e) (fun e2 => by have := h3.2.2 k e; omega)⟩⟩, hu.mono (fun k _ hk => hk.elim (fun e => (h4 k e).2.2) (fun e => by have e' : k = g := e; rw [e']; exact h3.2.1))⟩
end
set_option maxHeartbeats 8000000 in
set_option maxRecDepth 100000 in
theorem pelotonlaw17_awake.good (w : World) :
    Calls Try.prog 6 #[] w fun e w' => e = .returned (.bool true) ∧ Below w.heap.size w w' := by
  have hu31 := Try.underlying31
  go_enter Try.func6, Try.ntmps6
  go_upto_region 4 with (first
    | (go_at_call 7; (with_reducible refine (LS.new (w := w) (room := 2) (Below.refl _ _) (by omega) (by omega)).mono ?_); rintro e w1 ⟨g, rfl, hn, hb⟩; have ST := Aside0.mk hn; clear hn hb))
  go_upto_region 5 with (first
    | ((with_reducible refine gate_dst (N := 21) rfl ?_); refine konst_ 21 1 #[.int .u8 97] 28 5 rfl rfl rfl ?hr rfl rfl Try.underlying28 Try.underlying5 ?_; (case hr => first | (go_simp; done) | (go_simp; rfl)); intro ga wa hga hka hba; obtain ⟨fr, hsub, hnew, hst⟩ := ST.out.on hba; replace ST := Aside0.mk hst;  have FA := Aside0.mk (Kd.F_mono (blkF (l := [97]) (by simp) hka) (fun k (e : k = ga) => hnew k (by rw [e, hga]; exact Nat.le_refl _) (by rw [e]; exact blk_lt hka))); clear hga hka hba hsub hnew hst)
    | ((with_reducible refine gate_dst (N := 24) rfl ?_); refine konst_ 24 1 #[.int .u8 98] 28 5 rfl rfl rfl ?hr rfl rfl Try.underlying28 Try.underlying5 ?_; (case hr => first | (go_simp; done) | (go_simp; rfl)); intro gb wb hgb hkb hbb; obtain ⟨fr, hsub, hnew, hst⟩ := ST.out.on hbb; replace ST := Aside0.mk hst; replace FA := Aside0.mk (Kd.F_mono (Kd.F_below FA.out hbb) hsub); have FB := Aside0.mk (Kd.F_mono (blkF (l := [98]) (by simp) hkb) (fun k (e : k = gb) => hnew k (by rw [e, hgb]; exact Nat.le_refl _) (by rw [e]; exact blk_lt hkb))); clear hgb hkb hbb hsub hnew hst)
    | ((with_reducible refine gate_dst (N := 27) rfl ?_); refine konst_ 27 1 #[.int .u8 99] 28 5 rfl rfl rfl ?hr rfl rfl Try.underlying28 Try.underlying5 ?_; (case hr => first | (go_simp; done) | (go_simp; rfl)); intro gc wc hgc hkc hbc; obtain ⟨fr, hsub, hnew, hst⟩ := ST.out.on hbc; replace ST := Aside0.mk hst; replace FA := Aside0.mk (Kd.F_mono (Kd.F_below FA.out hbc) hsub); replace FB := Aside0.mk (Kd.F_mono (Kd.F_below FB.out hbc) hsub); have FC := Aside0.mk (Kd.F_mono (blkF (l := [99]) (by simp) hkc) (fun k (e : k = gc) => hnew k (by rw [e, hgc]; exact Nat.le_refl _) (by rw [e]; exact blk_lt hkc))); clear hgc hkc hbc hsub hnew hst)
    | ((with_reducible refine gate_dst (N := 30) rfl ?_); refine lit_ rfl rfl (bld33_ (e := 31) (.int .i64 0) (.int .i64 0) (.slice none 0 0) rfl rfl rfl rfl) ?_; intro gl wl hgl hkl hbl; obtain ⟨fr, hsub, hnew, hst⟩ := ST.out.on hbl; replace ST := Aside0.mk hst; have HF := Aside0.mk (npk_F3 hkl (Nat.le_refl 1) (Nat.le_refl 1) (Nat.le_refl 1) (Kd.F_below FA.out hbl) (Kd.F_below FB.out hbl) (Kd.F_below FC.out hbl)); have HF2 := Aside0.mk (Kd.F_mono HF.out (fun k hk => hk.elim (fun e => hnew k (by rw [e, hgl]; exact Nat.le_refl _) (by rw [e]; exact blk_lt hkl)) (hsub k))); clear hgl hkl hbl FA FB FC HF hsub hnew hst)
    | (go_at_call 8; refine (LS.send (R := ([(0, 0, [97]), (0, 0, [98])], 3, 1, 2)) 3 rfl ST.out HF2.out ?s1 ?s3 ?s4 ?s5 ?s6).mono ?_; (case s1 => exact Nat.le_refl _); (case s3 => omega); (case s4 => simp); (case s5 => (intro p hp; simp only [List.mem_cons, List.not_mem_nil, or_false] at hp; rcases hp with rfl | rfl | rfl <;> simp)); (case s6 => decide +kernel); rintro e ws ⟨rfl, hn, hu⟩; replace ST := Aside0.mk hn; clear hn hu HF2))
  go_upto_region 6 with (first
    | (go_at_call 10; refine (LS.take 1 ST.out (by simp) (by simp) 1 (0, 0, [98]) (by decide +kernel) rfl).mono ?_; rintro e wt ⟨Ab, cb, fr, rfl, hsub, hl, hF, hst, hu⟩; obtain ⟨frb, hx⟩ : ∃ fx : Nat → Prop, fx = fr := ⟨_, rfl⟩; have NFb := Aside0.mk (show Kd.F (Kd.int .u8) wt frb Ab _ _ from by rw [hx]; exact hF); have HSb : Aside0 (∀ k, frb k → fr k) := ⟨fun k hk => by rw [hx] at hk; exact hk⟩; have HLb := Aside0.mk hl; replace ST := Aside0.mk hst; clear hsub hl hF hst hu hx)
    | ((with_reducible refine gate_dst (N := 4) rfl ?_); refine box_event ?hg (N := 4) ?hd (cs := #[.int .i64 0, .int .i64 0, .slice none 0 0]) (t := 31) ?hr ?_; (case hd => rfl); (case hg => rfl); (case hr => first | (go_simp; done) | (go_simp; rfl)); intro g4 hg_ wb hbox hbb; have hwg : w.heap.size ≤ g4 := (by rw [hg_]; exact ST.out.1.size); have hfb : ∀ k, frb k → k ≠ g4 := (fun k hk e => by have h5 := ST.out.2.1.2.2 k (HSb.out k hk); rw [e, hg_] at h5; exact absurd h5 (Nat.lt_irrefl _)); obtain ⟨fr, hsub, hnew, hst⟩ := ST.out.on hbb; replace NFb := Aside0.mk (Kd.F_below NFb.out hbb); replace HSb := Aside0.mk (fun k hk => hsub k (HSb.out k hk)); have HK4 := Aside0.mk (hnew g4 (by rw [hg_]; exact Nat.le_refl _) (blk_lt hbox)); clear hg_ hsub hnew; (with_reducible refine gate_store_ rfl ?_); refine stU_ rfl rfl rfl rfl rfl hbox rfl (by kernel_rfl) (by simp [Value.oneCell']) ?_; intro W7 hW1 hW2; clear hbox hbb; replace ST := Aside0.mk (hst.put hW2 HK4.out hwg); have K4 := Aside0.mk hW1; replace NFb := Aside0.mk (Kd.F_step NFb.out (fun k hk hlt => hW2.2.2.2.2 k hlt (hfb k hk))); clear hst hwg hW1 hW2 hfb))
  go_upto_region 7 with (first
    | (go_at_call 10; refine (LS.take 1 ST.out (by simp) (by simp) 0 (0, 0, [97]) (by decide +kernel) rfl).mono ?_; rintro e wt ⟨Aa, ca, fr, rfl, hsub, hl, hF, hst, hu⟩; replace K4 := Aside0.mk (hu.blk K4.out (fun h => h HK4.out)); replace HK4 := Aside0.mk (hsub _ HK4.out); replace NFb := Aside0.mk (Kd.F_step NFb.out (fun k hk hlt => hu.2.2.2.2 k hlt (fun h => h (HSb.out k hk)))); replace HSb := Aside0.mk (fun k hk => hsub k (HSb.out k hk)); obtain ⟨fra, hx⟩ : ∃ fx : Nat → Prop, fx = fr := ⟨_, rfl⟩; have NFa := Aside0.mk (show Kd.F (Kd.int .u8) wt fra Aa _ _ from by rw [hx]; exact hF); have HSa : Aside0 (∀ k, fra k → fr k) := ⟨fun k hk => by rw [hx] at hk; exact hk⟩; have HLa := Aside0.mk hl; replace ST := Aside0.mk hst; clear hsub hl hF hst hu hx)
    | ((with_reducible refine gate_dst (N := 6) rfl ?_); refine box_event ?hg (N := 6) ?hd (cs := #[.int .i64 0, .int .i64 0, .slice none 0 0]) (t := 31) ?hr ?_; (case hd => rfl); (case hg => rfl); (case hr => first | (go_simp; done) | (go_simp; rfl)); intro g6 hg_ wb hbox hbb; have hwg : w.heap.size ≤ g6 := (by rw [hg_]; exact ST.out.1.size); have hn4 : g4 ≠ g6 := (by rw [hg_]; exact Nat.ne_of_lt (blk_lt K4.out)); have hfb : ∀ k, frb k → k ≠ g6 := (fun k hk e => by have h5 := ST.out.2.1.2.2 k (HSb.out k hk); rw [e, hg_] at h5; exact absurd h5 (Nat.lt_irrefl _)); have hfa : ∀ k, fra k → k ≠ g6 := (fun k hk e => by have h5 := ST.out.2.1.2.2 k (HSa.out k hk); rw [e, hg_] at h5; exact absurd h5 (Nat.lt_irrefl _)); obtain ⟨fr, hsub, hnew, hst⟩ := ST.out.on hbb; replace K4 := Aside0.mk (blk_below K4.out hbb); replace HK4 := Aside0.mk (hsub _ HK4.out); replace NFb := Aside0.mk (Kd.F_below NFb.out hbb); replace HSb := Aside0.mk (fun k hk => hsub k (HSb.out k hk)); replace NFa := Aside0.mk (Kd.F_below NFa.out hbb); replace HSa := Aside0.mk (fun k hk => hsub k (HSa.out k hk)); have HK6 := Aside0.mk (hnew g6 (by rw [hg_]; exact Nat.le_refl _) (blk_lt hbox)); clear hg_ hsub hnew; (with_reducible refine gate_store_ rfl ?_); refine stU_ rfl rfl rfl rfl rfl hbox rfl (by kernel_rfl) (by simp [Value.oneCell']) ?_; intro W7 hW1 hW2; clear hbox hbb; replace ST := Aside0.mk (hst.put hW2 HK6.out hwg); have K6 := Aside0.mk hW1; replace K4 := Aside0.mk (hW2.blk K4.out hn4); replace NFb := Aside0.mk (Kd.F_step NFb.out (fun k hk hlt => hW2.2.2.2.2 k hlt (hfb k hk))); replace NFa := Aside0.mk (Kd.F_step NFa.out (fun k hk hlt => hW2.2.2.2.2 k hlt (hfa k hk))); clear hst hwg hW1 hW2 hn4 hfb hfa))
  go_upto_region 8 with (first
    | (go_at_call 10; refine (LS.take0 0 ST.out).mono ?_; rintro e wt ⟨rfl, hb⟩; obtain ⟨fr, hsub, hnew, hst⟩ := ST.out.on hb; replace K4 := Aside0.mk (blk_below K4.out hb); replace HK4 := Aside0.mk (hsub _ HK4.out); replace K6 := Aside0.mk (blk_below K6.out hb); replace HK6 := Aside0.mk (hsub _ HK6.out); replace NFb := Aside0.mk (Kd.F_below NFb.out hb); replace HSb := Aside0.mk (fun k hk => hsub k (HSb.out k hk)); replace NFa := Aside0.mk (Kd.F_below NFa.out hb); replace HSa := Aside0.mk (fun k hk => hsub k (HSa.out k hk));  replace ST := Aside0.mk hst; clear hsub hnew hst hb)
    | ((with_reducible refine gate_dst (N := 8) rfl ?_); refine box_event ?hg (N := 8) ?hd (cs := #[.int .i64 0, .int .i64 0, .slice none 0 0]) (t := 31) ?hr ?_; (case hd => rfl); (case hg => rfl); (case hr => first | (go_simp; done) | (go_simp; rfl)); intro g8 hg_ wb hbox hbb; have hwg : w.heap.size ≤ g8 := (by rw [hg_]; exact ST.out.1.size); have hn4 : g4 ≠ g8 := (by rw [hg_]; exact Nat.ne_of_lt (blk_lt K4.out)); have hn6 : g6 ≠ g8 := (by rw [hg_]; exact Nat.ne_of_lt (blk_lt K6.out)); have hfb : ∀ k, frb k → k ≠ g8 := (fun k hk e => by have h5 := ST.out.2.1.2.2 k (HSb.out k hk); rw [e, hg_] at h5; exact absurd h5 (Nat.lt_irrefl _)); have hfa : ∀ k, fra k → k ≠ g8 := (fun k hk e => by have h5 := ST.out.2.1.2.2 k (HSa.out k hk); rw [e, hg_] at h5; exact absurd h5 (Nat.lt_irrefl _)); obtain ⟨fr, hsub, hnew, hst⟩ := ST.out.on hbb; replace K4 := Aside0.mk (blk_below K4.out hbb); replace HK4 := Aside0.mk (hsub _ HK4.out); replace K6 := Aside0.mk (blk_below K6.out hbb); replace HK6 := Aside0.mk (hsub _ HK6.out); replace NFb := Aside0.mk (Kd.F_below NFb.out hbb); replace HSb := Aside0.mk (fun k hk => hsub k (HSb.out k hk)); replace NFa := Aside0.mk (Kd.F_below NFa.out hbb); replace HSa := Aside0.mk (fun k hk => hsub k (HSa.out k hk)); have HK8 := Aside0.mk (hnew g8 (by rw [hg_]; exact Nat.le_refl _) (blk_lt hbox)); clear hg_ hsub hnew; (with_reducible refine gate_store_ rfl ?_); refine stU_ rfl rfl rfl rfl rfl hbox rfl (by kernel_rfl) (by simp [Value.oneCell']) ?_; intro W7 hW1 hW2; clear hbox hbb; replace ST := Aside0.mk (hst.put hW2 HK8.out hwg); have K8 := Aside0.mk hW1; replace K4 := Aside0.mk (hW2.blk K4.out hn4); replace K6 := Aside0.mk (hW2.blk K6.out hn6); replace NFb := Aside0.mk (Kd.F_step NFb.out (fun k hk hlt => hW2.2.2.2.2 k hlt (hfb k hk))); replace NFa := Aside0.mk (Kd.F_step NFa.out (fun k hk hlt => hW2.2.2.2.2 k hlt (hfa k hk))); clear hst hwg hW1 hW2 hn4 hn6 hfb hfa))
  have hc1 : (convert 28 9 (.slice Ab 1 cb)).run Try.prog _ = .ok (.string ⟨#[98]⟩) _ := Kd.C_string (P := Try.prog) (A := Ab) (c := cb) Try.underlying28 Try.underlying5 Try.underlying9 (Foot.now NFb.out)
  have hc2 : (convert 28 9 (.slice Aa 1 ca)).run Try.prog _ = .ok (.string ⟨#[97]⟩) _ := Kd.C_string (P := Try.prog) (A := Aa) (c := ca) Try.underlying28 Try.underlying5 Try.underlying9 (Foot.now NFa.out)
  obtain ⟨x40, x41, x42, _⟩ := cells3 K4.out
  obtain ⟨x60, x61, x62, _⟩ := cells3 K6.out
  go_wp2
  go_ret
  exact ⟨rfl, ST.out.1⟩
/-! ### net_Net_Len: function 11, by hand -/
set_option maxHeartbeats 8000000 in
set_option maxRecDepth 100000 in
theorem net_Net_Len.good (room c0 c1 c2 c3 : Int) (L : List NP) (v : Value) (base g : Nat) (ok : Nat → Prop) (w : World) (hN : NetAt 52 31 5 w base g ok room L c0 c1 c2 c3 v) :
    Calls Try.prog 11 #[.pointer (some ⟨g, 0, none⟩)] w fun e w' => e = .returned (.int .i64 L.length) ∧ w = w' := by
  obtain ⟨x0, x1, x2, x3, x4, x5, _⟩ := hN.cells
  obtain ⟨A, c, rfl, hl, _⟩ := hN.slice_
  clear hN hl x0 x2 x3 x4 x5
  go_enter Try.func11, Try.ntmps11
  go_wp2
  go_ret
  exact ⟨rfl, rfl⟩
section
variable {w W W' : World} {g gb : Nat} {free free' : Nat → Prop} {room c0 c1 c2 c3 : Int} {L : List NP}
theorem LS.len (h : LS w W g free room L c0 c1 c2 c3) : Calls Try.prog 11 #[.pointer (some ⟨g, 0, none⟩)] W fun e w' => e = .returned (.int .i64 L.length) ∧ W = w' := by
  obtain ⟨h2, h3, ok, v, hn, h4⟩ := h
  exact net_Net_Len.good room c0 c1 c2 c3 L v _ g ok W hn
end
/-! ### net_Net_Look: function 12, by hand -/
set_option maxHeartbeats 8000000 in
set_option maxRecDepth 100000 in
theorem net_Net_Look.some_ (a room c0 c1 c2 c3 : Int) (L : List NP) (v : Value) (base g : Nat) (ok : Nat → Prop) (w : World) (hN : NetAt 52 31 5 w base g ok room L c0 c1 c2 c3 v) (h0 : 0 < L.length) (h1 : (L.length : Int) ≤ 4611686018427387904) (p : NP) (hp : L.getD (net_idx a L.length).toNat (0, 0, []) = p) (hbl : p.2.2.length < 140737488355328) :
    Calls Try.prog 12 #[.pointer (some ⟨g, 0, none⟩), .int .i64 a] w fun e w' => ∃ (A : Option Addr) (c : Nat), e = .returned (.tuple #[.agg #[.int .i64 p.1, .int .i64 p.2.1, .slice A p.2.2.length c], .bool true]) ∧ Kd.R (Kd.int .u8) 5 w' w.heap.size (fun _ => True) (.slice A p.2.2.length c) p.2.2 ∧ Below w.heap.size w w' := by
  obtain ⟨hi0, hi1⟩ := net_idx.bounds a L.length (by omega) h1
  obtain ⟨h, cap, hv, hbh, hlt, _⟩ := Kd.S_form hN.2.2.2 h0
  subst hv
  have HOF := Aside0.mk (fun (W : World) (hN : NetAt 52 31 5 W base g ok room L c0 c1 c2 c3 (.slice (some ⟨h, 0, none⟩) L.length cap)) => net_Net_of.some_ a room c0 c1 c2 c3 L _ base g ok W hN h0 h1)
  generalize net_idx a L.length = i at *
  obtain ⟨cs, hcl, hM, hcc⟩ := Kd.S_get hN.2.2.2 (0, 0, []) i hi0 hi1
  rw [hp] at hM
  obtain ⟨vb, rfl, hR⟩ := npk_inv hM
  obtain ⟨Ab, cb, rfl, hlb, hCb⟩ := Kd.R_reads hR
  have z0 : w.cell? ⟨h, i.toNat * 3, none⟩ = some (.int .i64 p.1) := by have := hcc 0 _ rfl; rwa [add_plain] at this
  have z1 : w.cell? ⟨h, i.toNat * 3 + 1, none⟩ = some (.int .i64 p.2.1) := by have := hcc 1 _ rfl; rwa [add_plain] at this
  have z2 : w.cell? ⟨h, i.toNat * 3 + 2, none⟩ = some (.slice Ab p.2.2.length cb) := by have := hcc 2 _ rfl; rwa [add_plain] at this
  have HS := Aside0.mk hN
  have HCb := Aside0.mk hCb
  have HLb := Aside0.mk hlb
  have HF := Aside0.mk (net_own_f (x := p.1) (y := p.2.1) hbl)
  have q0 : decide (0 ≤ i) = true := decide_eq_true hi0
  have q1 : decide (i < (L.length : Int)) = true := decide_eq_true hi1
  have q2 : (0 ≤ i ∧ i < (L.length : Int)) = True := eq_true ⟨hi0, hi1⟩
  have q3 : (0 ≤ i) = True := eq_true hi0
  have q4 : (i < (L.length : Int)) = True := eq_true hi1
  clear hp hcl hM hcc hR hN hlt hbh h0 h1 hi0 hi1 hlb hCb hbl
  have hu31 := Try.underlying31
  go_enter Try.func12, Try.ntmps12
  go_upto_region 4 with (first
    | ((with_reducible refine gate_dst (N := 4) rfl ?_); refine box_event ?hg (N := 4) ?hd (cs := #[.int .i64 0, .int .i64 0, .slice none 0 0]) (t := 31) ?hr ?_; (case hd => rfl); (case hg => rfl); (case hr => first | (go_simp; done) | (go_simp; rfl)); intro g4 hg_ w4 hbox hbb; have HG4 := Aside0.mk hg_; have K4 := Aside0.mk hbox; have HB := Aside0.mk hbb; replace HS := Aside0.mk (HS.out.below hbb); replace HCb := Aside0.mk (Kd.C_below HCb.out hbb); replace z0 := pw_cell_below hbb z0; replace z1 := pw_cell_below hbb z1; replace z2 := pw_cell_below hbb z2; clear hg_ hbox hbb)
    | (go_at_call 20; (with_reducible refine (HOF.out _ HS.out).mono ?_); rintro e wn ⟨rfl, rfl⟩))
  obtain ⟨y0, y1, y2, y3, y4, y5, f0, f1, f2, f3, f4, f5⟩ := cells6 HS.out.2.2.1
  clear y0 y2 y3 y4 y5 f0 f1 f2 f3 f4 f5 HOF
  go_wp2_with (first
    | (go_at_call 18; (with_reducible refine (net_own.calls p.1 p.2.1 Ab cb p.2.2 p.1 p.2.1 p.2.2 w4 HCb.out HLb.out HF.out).mono ?_); rintro e wo ⟨vo, rfl, hro, hbo⟩; obtain ⟨Ao, co, rfl⟩ := Kd.R_slice hro; have NR := Aside0.mk (Kd.R_lower hro HB.out.size); have HNE := Aside0.mk (show ∀ k, w4.heap.size ≤ k → k ≠ g4 from fun k hk e => by have := blk_lt K4.out; omega); have HRB := Aside0.mk (Kd.R_base hro); replace K4 := Aside0.mk (blk_below K4.out hbo); replace HB := Aside0.mk (below_step HB.out hbo); clear hro hbo z0 z1 z2 y1)
    | ((with_reducible refine gate_store_ rfl ?_); refine stU_ rfl rfl rfl rfl rfl K4.out rfl (by kernel_rfl) (by simp [Value.oneCell']) ?_; intro W7 hW1 hW2; replace HB := Aside0.mk (Upd.belowB HB.out HB.out.size hW2 (fun k hk => by have h5 : k = g4 := hk; have := HG4.out; omega)); replace NR := Aside0.mk (Kd.R_mono (Kd.R_step (w1 := W7) (Kd.R_tight rfl NR.out) (fun k hk hlt => hW2.2.2.2.2 k hlt (HNE.out k (HRB.out k hk.symm)))) (fun _ _ => trivial)); replace K4 := Aside0.mk hW1; clear hW1 hW2))
  refine bodyPost_ret (results_ct rfl _ _ g4 31 #[.int .i64 p.1, .int .i64 p.2.1, .slice Ao p.2.2.length co] (0, 0) _ rfl K4.out Try.underlying31 rfl (by kernel_rfl)) rfl ?_
  exact ⟨Ao, co, rfl, NR.out, HB.out⟩
set_option maxHeartbeats 8000000 in
set_option maxRecDepth 100000 in
theorem net_Net_Look.none_ (a room c0 c1 c2 c3 : Int) (v : Value) (base g : Nat) (ok : Nat → Prop) (w : World) (hN : NetAt 52 31 5 w base g ok room [] c0 c1 c2 c3 v) :
    Calls Try.prog 12 #[.pointer (some ⟨g, 0, none⟩), .int .i64 a] w fun e w' => e = .returned (.tuple #[.agg #[.int .i64 0, .int .i64 0, .slice none 0 0], .bool false]) ∧ Below w.heap.size w w' := by
  have HS := Aside0.mk hN
  have HB := Aside0.mk (Below.refl w.heap.size w)
  clear hN
  have hu31 := Try.underlying31
  go_enter Try.func12, Try.ntmps12
  go_wp2_with (first
    | ((with_reducible refine gate_dst (N := 4) rfl ?_); refine box_event ?hg (N := 4) ?hd (cs := #[.int .i64 0, .int .i64 0, .slice none 0 0]) (t := 31) ?hr ?_; (case hd => rfl); (case hg => rfl); (case hr => first | (go_simp; done) | (go_simp; rfl)); intro g4 hg_ w4 hbox hbb; have HG4 := Aside0.mk hg_; have K4 := Aside0.mk hbox; replace HS := Aside0.mk (HS.out.below hbb); replace HB := Aside0.mk hbb; clear hg_ hbox hbb)
    | (go_at_call 20; (with_reducible refine (net_Net_of.none_ a room c0 c1 c2 c3 _ base g ok _ HS.out).mono ?_); rintro e wn ⟨rfl, rfl⟩)
    | ((with_reducible refine gate_store_ rfl ?_); refine stU_ rfl rfl rfl rfl rfl K4.out rfl (by kernel_rfl) (by simp [Value.oneCell']) ?_; intro W7 hW1 hW2; replace HB := Aside0.mk (Upd.belowB HB.out HB.out.size hW2 (fun k hk => by have h5 : k = g4 := hk; have := HG4.out; omega)); replace K4 := Aside0.mk hW1; clear hW1 hW2))
  refine bodyPost_ret (results_ct rfl _ _ g4 31 #[.int .i64 0, .int .i64 0, .slice none 0 0] (0, 0) _ rfl K4.out Try.underlying31 rfl (by kernel_rfl)) rfl ?_
  exact ⟨rfl, HB.out⟩
section
variable {w W W' : World} {g gb : Nat} {free free' : Nat → Prop} {room c0 c1 c2 c3 : Int} {L : List NP}
theorem LS.look (a : Int) (h : LS w W g free room L c0 c1 c2 c3) (h0 : 0 < L.length) (h1 : (L.length : Int) ≤ 70000) (i : Nat) (p : NP) (hi : (net_idx a L.length).toNat = i) (hp : L.getD i (0, 0, []) = p) (hbl : p.2.2.length < 140737488355328) :
    Calls Try.prog 12 #[.pointer (some ⟨g, 0, none⟩), .int .i64 a] W fun e w' => ∃ (A : Option Addr) (c : Nat), e = .returned (.tuple #[.agg #[.int .i64 p.1, .int .i64 p.2.1, .slice A p.2.2.length c], .bool true]) ∧ Kd.R (Kd.int .u8) 5 w' W.heap.size (fun _ => True) (.slice A p.2.2.length c) p.2.2 ∧ Below W.heap.size W w' := by
  obtain ⟨h2, h3, ok, v, hn, h4⟩ := h
  subst hi
  exact net_Net_Look.some_ a room c0 c1 c2 c3 L v _ g ok W hn h0 (by omega) p hp hbl
end
/-! ### pelotonref17_Same: function 15 -/
def pelotonref17_Same.f (a0_0 : Int) (a0_1 : Int) (l0_2 : List Int) (a1_0 : Int) (a1_1 : Int) (l1_2 : List Int) : Option (Bool) := if a0_0 = a1_0 then (if a0_1 = a1_1 then (some ((strOfNums l0_2).toList == (strOfNums l1_2).toList)) else (some false)) else (some false)
set_option maxHeartbeats 60000000 in
set_option maxRecDepth 100000 in
theorem pelotonref17_Same.calls (a0_0 : Int) (a0_1 : Int) (A0_2 : Option Addr) (c0_2 : Nat) (l0_2 : List Int) (a1_0 : Int) (a1_1 : Int) (A1_2 : Option Addr) (c1_2 : Nat) (l1_2 : List Int) (r : Bool) (w : World) (hr0_2 : Kd.C (Kd.int .u8) w A0_2 l0_2.length l0_2) (hc0_2 : l0_2.length ≤ c0_2) (hr1_2 : Kd.C (Kd.int .u8) w A1_2 l1_2.length l1_2) (hc1_2 : l1_2.length ≤ c1_2) (h : pelotonref17_Same.f a0_0 a0_1 l0_2 a1_0 a1_1 l1_2 = some r) :
  Calls Try.prog 15 #[.agg #[.int .i64 a0_0, .int .i64 a0_1, .slice A0_2 l0_2.length c0_2], .agg #[.int .i64 a1_0, .int .i64 a1_1, .slice A1_2 l1_2.length c1_2]] w fun e w' => e = .returned (.bool r) ∧ Below w.heap.size w w' := by
 have hu31 := Try.underlying31
 have HR0_2 := Aside0.mk hr0_2
 have HC0_2 := Aside0.mk hc0_2
 clear hr0_2 hc0_2
 have HR1_2 := Aside0.mk hr1_2
 have HC1_2 := Aside0.mk hc1_2
 clear hr1_2 hc1_2
 have HB := Aside0.mk (Below.refl w.heap.size w)
 have H : (if a0_0 = a1_0 then (if a0_1 = a1_1 then (some ((strOfNums l0_2).toList == (strOfNums l1_2).toList)) else (some false)) else (some false)) = some r := h
 clear h
 by_cases c3 : a0_0 = a1_0
 rotate_left
 ·
  rw [if_neg c3] at H
  have c3b0 : (a0_0 == a1_0) = false := beq_eq_false_iff_ne.mpr c3
  have c3b1 : (a0_0 != a1_0) = true := bne_iff_ne.mpr c3
  obtain rfl := Option.some.inj H
  go_enter Try.func15, Try.ntmps15
  go_wp2_with (first | ((with_reducible refine gate_dst (N := 2) rfl ?_); refine box_event ?hg (N := 2) ?hd (cs := #[.int .i64 a0_0, .int .i64 a0_1, .slice A0_2 l0_2.length c0_2]) (t := 31) ?hr ?_; (case hd => rfl); (case hg => rfl); (case hr => first | (go_simp; done) | (go_simp; rfl)); intro gb112 hg w19 hbox hb; have BK112 := Aside0.mk (hbox); have GW112 := Aside0.mk ((by rw [hg]; exact (below_size (bw_ HB)) : w.heap.size ≤ gb112)); have GE112 := Aside0.mk ((by rw [hg]; exact (below_size (bw_ HB)) : w.heap.size ≤ gb112)); replace HB := Aside0.mk (below_step (bw_ HB) hb); clear hb hbox hg) | ((with_reducible refine gate_dst (N := 3) rfl ?_); refine box_event ?hg (N := 3) ?hd (cs := #[.int .i64 a1_0, .int .i64 a1_1, .slice A1_2 l1_2.length c1_2]) (t := 31) ?hr ?_; (case hd => rfl); (case hg => rfl); (case hr => first | (go_simp; done) | (go_simp; rfl)); intro gb113 hg w20 hbox hb; have BK113 := Aside0.mk (hbox); have GW113 := Aside0.mk ((by rw [hg]; exact (below_size (bw_ HB)) : w.heap.size ≤ gb113)); have GE113 := Aside0.mk ((by rw [hg]; exact (below_size (bw_ HB)) : w.heap.size ≤ gb113)); have NB112_113 := Aside0.mk ((by rw [hg]; exact Nat.ne_of_lt (blk_lt (tk_ BK112)) : gb112 ≠ gb113)); have NB113_112 := Aside0.mk ((by rw [hg]; exact Nat.ne_of_gt (blk_lt (tk_ BK112)) : gb113 ≠ gb112)); replace BK112 := Aside0.mk (blk_below (tk_ BK112) hb); replace HB := Aside0.mk (below_step (bw_ HB) hb); clear hb hbox hg; have hnb21 := NB112_113.out; have hnc21 := NB113_112.out; have hcz22_0 := bc_0 BK112; have hcz22_1 := bc_1 BK112; have hcz22_2 := bc_2 BK112; have hfz22_0 := blk_frozen BK112.out 0; have hfz22_1 := blk_frozen BK112.out 1; have hfz22_2 := blk_frozen BK112.out 2; have hcz23_0 := bc_0 BK113; have hcz23_1 := bc_1 BK113; have hcz23_2 := bc_2 BK113; have hfz23_0 := blk_frozen BK113.out 0; have hfz23_1 := blk_frozen BK113.out 1; have hfz23_2 := blk_frozen BK113.out 2))
  go_ret
  exact ⟨by first | rfl | (simp [errW_none, errW_some] <;> rfl) | (simp [*, errW_none, errW_some] <;> rfl), by repeat (first | (with_reducible first | exact HB.out | apply b_a | apply b_n | apply b_d | refine b_s ?_ GE112.out | refine b_s ?_ GE113.out) | exact HB.out)⟩

 rw [if_pos c3] at H
 have c3b0 : (a0_0 == a1_0) = true := beq_iff_eq.mpr c3
 have c3b1 : (a0_0 != a1_0) = false := bne_eq_false_iff_eq.mpr c3
 clear c3
 by_cases c4 : a0_1 = a1_1
 rotate_left
 ·
  rw [if_neg c4] at H
  have c4b0 : (a0_1 == a1_1) = false := beq_eq_false_iff_ne.mpr c4
  have c4b1 : (a0_1 != a1_1) = true := bne_iff_ne.mpr c4
  obtain rfl := Option.some.inj H
  go_enter Try.func15, Try.ntmps15
  go_wp2_with (first | ((with_reducible refine gate_dst (N := 2) rfl ?_); refine box_event ?hg (N := 2) ?hd (cs := #[.int .i64 a0_0, .int .i64 a0_1, .slice A0_2 l0_2.length c0_2]) (t := 31) ?hr ?_; (case hd => rfl); (case hg => rfl); (case hr => first | (go_simp; done) | (go_simp; rfl)); intro gb112 hg w14 hbox hb; have BK112 := Aside0.mk (hbox); have GW112 := Aside0.mk ((by rw [hg]; exact (below_size (bw_ HB)) : w.heap.size ≤ gb112)); have GE112 := Aside0.mk ((by rw [hg]; exact (below_size (bw_ HB)) : w.heap.size ≤ gb112)); replace HB := Aside0.mk (below_step (bw_ HB) hb); clear hb hbox hg) | ((with_reducible refine gate_dst (N := 3) rfl ?_); refine box_event ?hg (N := 3) ?hd (cs := #[.int .i64 a1_0, .int .i64 a1_1, .slice A1_2 l1_2.length c1_2]) (t := 31) ?hr ?_; (case hd => rfl); (case hg => rfl); (case hr => first | (go_simp; done) | (go_simp; rfl)); intro gb113 hg w15 hbox hb; have BK113 := Aside0.mk (hbox); have GW113 := Aside0.mk ((by rw [hg]; exact (below_size (bw_ HB)) : w.heap.size ≤ gb113)); have GE113 := Aside0.mk ((by rw [hg]; exact (below_size (bw_ HB)) : w.heap.size ≤ gb113)); have NB112_113 := Aside0.mk ((by rw [hg]; exact Nat.ne_of_lt (blk_lt (tk_ BK112)) : gb112 ≠ gb113)); have NB113_112 := Aside0.mk ((by rw [hg]; exact Nat.ne_of_gt (blk_lt (tk_ BK112)) : gb113 ≠ gb112)); replace BK112 := Aside0.mk (blk_below (tk_ BK112) hb); replace HB := Aside0.mk (below_step (bw_ HB) hb); clear hb hbox hg; have hnb16 := NB112_113.out; have hnc16 := NB113_112.out; have hcz17_0 := bc_0 BK112; have hcz17_1 := bc_1 BK112; have hcz17_2 := bc_2 BK112; have hfz17_0 := blk_frozen BK112.out 0; have hfz17_1 := blk_frozen BK112.out 1; have hfz17_2 := blk_frozen BK112.out 2; have hcz18_0 := bc_0 BK113; have hcz18_1 := bc_1 BK113; have hcz18_2 := bc_2 BK113; have hfz18_0 := blk_frozen BK113.out 0; have hfz18_1 := blk_frozen BK113.out 1; have hfz18_2 := blk_frozen BK113.out 2))
  go_ret
  exact ⟨by first | rfl | (simp [errW_none, errW_some] <;> rfl) | (simp [*, errW_none, errW_some] <;> rfl), by repeat (first | (with_reducible first | exact HB.out | apply b_a | apply b_n | apply b_d | refine b_s ?_ GE112.out | refine b_s ?_ GE113.out) | exact HB.out)⟩
 rw [if_pos c4] at H
 have c4b0 : (a0_1 == a1_1) = true := beq_iff_eq.mpr c4
 have c4b1 : (a0_1 != a1_1) = false := bne_eq_false_iff_eq.mpr c4
 clear c4
 obtain rfl := Option.some.inj H
 go_enter Try.func15, Try.ntmps15
 go_wp2_with (first | ((with_reducible refine gate_dst (N := 2) rfl ?_); refine box_event ?hg (N := 2) ?hd (cs := #[.int .i64 a0_0, .int .i64 a0_1, .slice A0_2 l0_2.length c0_2]) (t := 31) ?hr ?_; (case hd => rfl); (case hg => rfl); (case hr => first | (go_simp; done) | (go_simp; rfl)); intro gb112 hg w5 hbox hb; have BK112 := Aside0.mk (hbox); have GW112 := Aside0.mk ((by rw [hg]; exact (below_size (bw_ HB)) : w.heap.size ≤ gb112)); have GE112 := Aside0.mk ((by rw [hg]; exact (below_size (bw_ HB)) : w.heap.size ≤ gb112)); replace HB := Aside0.mk (below_step (bw_ HB) hb); clear hb hbox hg) | ((with_reducible refine gate_dst (N := 3) rfl ?_); refine box_event ?hg (N := 3) ?hd (cs := #[.int .i64 a1_0, .int .i64 a1_1, .slice A1_2 l1_2.length c1_2]) (t := 31) ?hr ?_; (case hd => rfl); (case hg => rfl); (case hr => first | (go_simp; done) | (go_simp; rfl)); intro gb113 hg w6 hbox hb; have BK113 := Aside0.mk (hbox); have GW113 := Aside0.mk ((by rw [hg]; exact (below_size (bw_ HB)) : w.heap.size ≤ gb113)); have GE113 := Aside0.mk ((by rw [hg]; exact (below_size (bw_ HB)) : w.heap.size ≤ gb113)); have NB112_113 := Aside0.mk ((by rw [hg]; exact Nat.ne_of_lt (blk_lt (tk_ BK112)) : gb112 ≠ gb113)); have NB113_112 := Aside0.mk ((by rw [hg]; exact Nat.ne_of_gt (blk_lt (tk_ BK112)) : gb113 ≠ gb112)); replace BK112 := Aside0.mk (blk_below (tk_ BK112) hb); replace HB := Aside0.mk (below_step (bw_ HB) hb); clear hb hbox hg; have hnb7 := NB112_113.out; have hnc7 := NB113_112.out; have hcz8_0 := bc_0 BK112; have hcz8_1 := bc_1 BK112; have hcz8_2 := bc_2 BK112; have hfz8_0 := blk_frozen BK112.out 0; have hfz8_1 := blk_frozen BK112.out 1; have hfz8_2 := blk_frozen BK112.out 2; have hcz9_0 := bc_0 BK113; have hcz9_1 := bc_1 BK113; have hcz9_2 := bc_2 BK113; have hfz9_0 := blk_frozen BK113.out 0; have hfz9_1 := blk_frozen BK113.out 1; have hfz9_2 := blk_frozen BK113.out 2; have hcv10 := Kd.C_string (P := Try.prog) (A := A0_2) (c := c0_2) Try.underlying28 Try.underlying5 Try.underlying9 (Kd.C_below HR0_2.out HB.out); have hcw11 := fun n_ : Nat => Kd.C_string (P := Try.prog) (A := A0_2) (c := c0_2) Try.underlying28 Try.underlying5 Try.underlying9 (Kd.C_drewN (Kd.C_below HR0_2.out HB.out) n_); have hcv12 := Kd.C_string (P := Try.prog) (A := A1_2) (c := c1_2) Try.underlying28 Try.underlying5 Try.underlying9 (Kd.C_below HR1_2.out HB.out); have hcw13 := fun n_ : Nat => Kd.C_string (P := Try.prog) (A := A1_2) (c := c1_2) Try.underlying28 Try.underlying5 Try.underlying9 (Kd.C_drewN (Kd.C_below HR1_2.out HB.out) n_)))
 go_ret
 exact ⟨by first | rfl | (simp [errW_none, errW_some] <;> rfl) | (simp [*, errW_none, errW_some] <;> rfl), by repeat (first | (with_reducible first | exact HB.out | apply b_a | apply b_n | apply b_d | refine b_s ?_ GE112.out | refine b_s ?_ GE113.out) | exact HB.out)⟩
/-! ### net_Net_Back: function 9, by hand -/
def net_Back.T3 : Bool × List (List Nat × List Nat) := (true, [([], []), ([], []), ([1], [1]), ([2], [2]), ([3], [3]), ([], []), ([5], [5]), ([4, 6], [4, 6]), ([0, 0, 1, 2, 3, 4, 5, 6, 7], [0]), ([8, 0, 1, 2, 3, 4, 5, 6, 7], [8]), ([9, 7, 7, 0, 1, 2, 3, 4, 5, 6, 7], [7, 9])])
def net_Back.B3 : List Nat := [0, 0, 2, 6, 14, 0, 32, 126, 255, 511, 1023]
theorem net_Back.tab3 : rtab .any (opsOf Try.f9 3) = net_Back.T3 := by kernel_rfl
theorem net_Back.bits3 : waitsOk net_Back.T3.2 net_Back.B3 = true := by kernel_rfl

def net_backed (w : World) (base g : Nat) (ok : Nat → Prop) (room c0 c1 c2 c3 : Int) (L : List NP) (e : Ending) (w' : World) : Prop :=
  ∃ v', e = .returned (.bool true) ∧ NetAt 52 31 5 w' base g (fun k => ok k ∨ w.heap.size ≤ k) room L c0 c1 c2 c3 v' ∧ Upd (fun k => ok k ∨ k = g) w w'
set_option maxHeartbeats 8000000 in
set_option maxRecDepth 100000 in
theorem net_Net_Back.some0_ (a room c0 c1 c2 c3 : Int) (L : List NP) (v : Value) (base g : Nat) (ok : Nat → Prop) (w : World) (hlt_ : ∀ k, ok k → k < w.heap.size) (hN : NetAt 52 31 5 w base g ok room L c0 c1 c2 c3 v) (hbw : base ≤ w.heap.size) (h0 : 0 < L.length) (h1 : (L.length : Int) ≤ 70000) :
    Calls Try.prog 9 #[.pointer (some ⟨g, 0, none⟩), .int .i64 a] w (net_backed w base g ok room c0 c1 c2 c3 (L.eraseIdx (net_idx a L.length).toNat ++ [L.getD (net_idx a L.length).toNat (0, 0, [])])) := by
  have HP := Aside0.mk (fun (W : World) (hN : NetAt 52 31 5 W base g ok room L c0 c1 c2 c3 v) => net_Net_pull.some_ a room c0 c1 c2 c3 L _ base g ok W hN h0 (by omega))
  have HLEN : Aside0 (((L.eraseIdx (net_idx a L.length).toNat).length + 1) * 40 ≤ 140737488355328) := ⟨by have := List.length_eraseIdx_le L (net_idx a L.length).toNat; omega⟩
  generalize (net_idx a L.length).toNat = i at *
  obtain ⟨p, hp⟩ : ∃ p, L.getD i (0, 0, []) = p := ⟨_, rfl⟩
  rw [hp] at HP ⊢
  have HLT := Aside0.mk hlt_
  have HBW0 := Aside0.mk hbw
  have HGL := Aside0.mk (show g < w.heap.size from blk_lt hN.2.2.1)
  have HS := Aside0.mk hN
  clear hp hN hlt_ h0 h1 hbw
  have hu31 := Try.underlying31
  go_enter Try.func9, Try.ntmps9
  go_upto_region 2 with (first
    | (go_at_call 19; (with_reducible refine (HP.out _ HS.out).mono ?_); rintro e wp ⟨okp, vb, vL, rfl, hR, hok, hn, hu⟩; obtain ⟨Ab, cb, rfl⟩ := Kd.R_slice hR;
       have NR := Aside0.mk hR; have HOK := Aside0.mk hok; have NA := Aside0.mk hn; have NU := Aside0.mk hu; have HWP := Aside0.mk hu.size; clear hR hok hn hu)
    | ((with_reducible refine gate_dst (N := 5) rfl ?_); refine box_event ?hg (N := 5) ?hd (cs := #[.int .i64 0, .int .i64 0, .slice none 0 0]) (t := 31) ?hr ?_; (case hd => rfl); (case hg => rfl); (case hr => first | (go_simp; done) | (go_simp; rfl)); intro gp hg_ wb hbox hbb; have HG5 := Aside0.mk (show w.heap.size ≤ gp from by rw [hg_]; exact HWP.out); replace NA := Aside0.mk (NA.out.below hbb); replace NR := Aside0.mk (Kd.R_below NR.out hbb); replace NU := Aside0.mk (NU.out.trans (Upd.of_below (S := fun k => ok k ∨ k = g) hbb) (fun _ _ hk => hk)); have HWS1 := Aside0.mk (Nat.le_trans HWP.out hbb.size); clear hg_ hbb;
       (with_reducible refine gate_store_ rfl ?_); refine stU_ rfl rfl rfl rfl rfl hbox rfl (by kernel_rfl) (by simp [Value.oneCell']) ?_; intro W7 hW1 hW2; clear hbox;
       have hB : ∀ k, ok k → ¬ k = gp := (fun k hk e => by have := HLT.out k hk; have := HG5.out; omega);
       have NA7 := Aside0.mk (NA.out.upd hW2 (fun k hk _ => hB k hk.1) (fun e => by have := HG5.out; have := HGL.out; omega)); replace NR := Aside0.mk (Kd.R_step (w1 := W7) NR.out (fun k hk hlt => hW2.2.2.2.2 k hlt (hB k (HOK.out k hk)))); have NU7 := Aside0.mk (NU.out.trans hW2 (fun k hk e => by have := HG5.out; omega)); have HWS0 := Aside0.mk (Nat.le_trans HWS1.out hW2.size);
       replace HBW0 := Aside0.mk (Nat.le_trans HBW0.out HWS0.out); have PQ := Aside0.mk (show net_Box 52 W7 base g gp (fun k => ok k ∧ ¬ okp k) room c0 c1 c2 c3 (L.eraseIdx i) vL p.1 p.2.1 (.slice Ab p.2.2.length cb) from ⟨NA7.out, hW1, fun k hk => hB k hk.1⟩); clear hW1 hW2 hB NA NU NA7 HWS1 HWP))
  obtain ⟨okA, hA⟩ : ∃ okA : Nat → Prop, okA = fun k => ok k ∧ ¬ okp k := ⟨_, rfl⟩
  have HOP : Aside0 (∀ k, okp k → ¬ okA k ∧ k ≠ g) := ⟨fun k hk => ⟨fun h2 => by rw [hA] at h2; exact h2.2 hk, fun e => HS.out.2.1 (by rw [← e]; exact HOK.out k hk)⟩⟩
  have HSUB : Aside0 (∀ k, okA k → ok k) := ⟨fun k hk => by rw [hA] at hk; exact hk.1⟩
  rw [← hA] at PQ
  clear HP hA
  go_upto_region 3 with (fail)
  refine start_ (n := 11) (S := fun W_ => W_.cell? ⟨g, 1, none⟩ = some vL ∧ W_.cell? ⟨gp, 0, none⟩ = some (.int .i64 p.1) ∧ W_.cell? ⟨gp, 1, none⟩ = some (.int .i64 p.2.1) ∧ W_.cell? ⟨gp, 2, none⟩ = some (.slice Ab p.2.2.length cb)) (ds := [10]) #[false, false, false, false, false, false, false, false, false, false, false] (by kernel_rfl) rfl rfl (PQ.out.held (below_drew (Below.refl _ _))) (fun hHeld => ?_); refine with_tabW net_Back.tab3 net_Back.bits3 (fun HT_ HW_ => ?_)
  replace PQ := Aside0.mk (PQ.out.below (below_drew (Below.refl _ _)))
  have HDR := Aside0.mk (below_drew (Below.refl W7.heap.size W7))
  revert PQ hHeld HDR
  generalize W7.drew = wv
  intro hHeld PQ HDR
  refine pure_ (i := 0) (N := some 14) (v := ?_) (a' := ?_) #[true, false, false, false, false, false, false, false, false, false, false] rfl rfl (any_of HT_.out (by kernel_rfl)) (fun _ _ _ h => h) (Or.inl ⟨by rfl, ?_⟩) ?_ ?_
  rotate_left
  ·
    intro w'
    go_simp
    with_reducible rfl
  rotate_left
  ·
    simp only [Act.put, l_1, l_2, l_3, i64_w, i32_w]
    rfl
  refine pure_ (i := 1) (N := some 15) (v := ?_) (a' := ?_) #[true, true, false, false, false, false, false, false, false, false, false] rfl rfl (any_of HT_.out (by kernel_rfl)) (fun _ _ _ h => h) (Or.inl ⟨by rfl, ?_⟩) ?_ ?_
  rotate_left
  ·
    intro w'
    go_simp
    with_reducible rfl
  rotate_left
  ·
    simp only [Act.put, l_1, l_2, l_3, i64_w, i32_w]
    rfl
  refine pure_ (i := 2) (N := some 16) (v := ?_) (a' := ?_) #[true, true, true, false, false, false, false, false, false, false, false] rfl rfl (any_of HT_.out (by kernel_rfl)) (fun _ _ _ h => h) (Or.inl ⟨by rfl, ?_⟩) ?_ ?_
  rotate_left
  ·
    intro w'
    go_simp
    with_reducible rfl
  rotate_left
  ·
    simp only [Act.put, l_1, l_2, l_3, i64_w, i32_w]
    rfl
  refine pure_ (i := 3) (N := some 17) (v := ?_) (a' := ?_) #[true, true, true, true, false, false, false, false, false, false, false] rfl rfl (any_of HT_.out (by kernel_rfl)) (fun _ _ _ h => h) (Or.inl ⟨by rfl, ?_⟩) ?_ ?_
  rotate_left
  ·
    intro w'
    go_simp
    with_reducible rfl
  rotate_left
  ·
    simp only [Act.put, l_1, l_2, l_3, i64_w, i32_w]
    rfl
  refine take_ (i := 4) (N := some 18) (v := ?_) (a' := ?_) #[true, true, true, true, true, false, false, false, false, false, false] rfl rfl (take_ofW HT_.out HW_.out (by kernel_rfl)) (fun _ _ _ h => h) (Or.inl ⟨by rfl, ?_⟩) hHeld ?_ ?_
  rotate_left
  ·
    rintro w' ⟨s0, s1, s2, s3⟩
    go_simp
    with_reducible rfl
  rotate_left
  ·
    simp only [Act.put, l_1, l_2, l_3, i64_w, i32_w]
    rfl
  refine take_ (i := 5) (N := some 19) (v := ?_) (a' := ?_) #[true, true, true, true, true, true, false, false, false, false, false] rfl rfl (take_ofW HT_.out HW_.out (by kernel_rfl)) (fun _ _ _ h => h) (Or.inl ⟨by rfl, ?_⟩) hHeld ?_ ?_
  rotate_left
  ·
    rintro w' ⟨s0, s1, s2, s3⟩
    go_simp
    with_reducible rfl
  rotate_left
  ·
    simp only [Act.put, l_1, l_2, l_3, i64_w, i32_w]
    rfl
  replace NR := Aside0.mk (Kd.R_below NR.out HDR.out)
  have HBW := Aside0.mk (Nat.le_trans HBW0.out HDR.out.size)
  have NU := Aside0.mk (NU7.out.trans (Upd.of_below (S := fun k => ok k ∨ k = g) HDR.out) (fun _ _ hk => hk))
  have HWS := Aside0.mk (Nat.le_trans HWS0.out HDR.out.size)
  clear HDR NU7 HBW0 HWS0
  refine one_ (i := 6) (N := some 20) #[true, true, true, true, true, true, true, false, false, false, false] rfl rfl (one_of HT_.out (by kernel_rfl)) (by decide) (fun K hK => ?_)
  refine event_step (by rfl) (bld31_ (e := 31) (.int .i64 0) (.int .i64 0) (.slice none 0 0) rfl rfl) ?_
  refine hK.out _ _ (PQ.out.held (below_alloc (Below.refl _ _) _)) (fun hHeld => ?_)
  clear hK K
  refine norm_ (a' := ?_) ?_ ?_
  rotate_left
  ·
    show Act.put _ (some 20) _ = _
    simp only [Act.put, l_1, l_2, l_3, i64_w, i32_w]
    rfl
  refine one_ (i := 7) (N := some 21) #[true, true, true, true, true, true, true, true, false, false, false] rfl rfl (one_of HT_.out (by kernel_rfl)) (by decide) (fun K hK => ?_)
  refine Kd.S_append_step (npk 5) (w0 := wv) base (by rfl) (.tmp 18) (.tmp 20) 42 31 (.agg #[.int .i64 0, .int .i64 0, .slice none 0 0]) 40 rfl Try.underlying42 net_info31 rfl (by decide) (by decide) vL (L.eraseIdx i) p [.int .i64 p.1, .int .i64 p.2.1, .slice Ab p.2.2.length cb] (fun k => (okA k ∨ okp k) ∨ wv.heap.size ≤ k) okp rfl rfl (npk_mk p.1 p.2.1 NR.out) ?a1 ?a2 ?a3 (Below.refl _ _) HBW.out ?a4 ?_
  case a1 => exact fun k hk => ⟨Or.inl (Or.inr hk), fun e => (HOP.out k hk).1 (by obtain ⟨f, h0, _⟩ := PQ.out.1.2.2.2; exact h0 k e.symm)⟩
  case a2 => exact fun k hk => Or.inr hk
  case a3 => exact Kd.S_mono PQ.out.1.2.2.2 (fun k hk => ⟨Or.inl (Or.inl hk), fun h2 => (HOP.out k h2).1 hk⟩)
  case a4 => exact HLEN.out
  intro v1 wn hS hb1 hg1 hat1
  obtain ⟨Av, cv, hv1⟩ := Kd.S_slice hS
  rw [List.length_append, List.length_singleton] at hv1
  subst hv1
  have SM := Aside0.mk (PQ.out.grown (by decide) (ok1 := fun k => (okA k ∨ okp k) ∨ wv.heap.size ≤ k) hS hg1 (net_ok1 PQ.out.1.2.1 HOP.out (blk_lt PQ.out.1.2.2.1)))
  clear hS hb1 hg1 hat1
  refine hK.out _ _ SM.out.1 (fun hHeld => ?_)
  clear hK K
  refine norm_ (a' := ?_) ?_ ?_
  rotate_left
  ·
    show Act.put _ (some 21) _ = _
    simp only [Act.put, l_1, l_2, l_3, i64_w, i32_w]
    rfl
  refine pure_ (i := 8) (N := some 22) (v := ?_) (a' := ?_) #[true, true, true, true, true, true, true, true, true, false, false] rfl rfl (any_of HT_.out (by kernel_rfl)) (fun _ _ _ h => h) (Or.inl ⟨by rfl, ?_⟩) ?_ ?_
  rotate_left
  ·
    intro w'
    go_simp
    with_reducible rfl
  rotate_left
  ·
    simp only [Act.put, l_1, l_2, l_3, i64_w, i32_w]
    rfl
  refine pure_ (i := 9) (N := some 23) (v := ?_) (a' := ?_) #[true, true, true, true, true, true, true, true, true, true, false] rfl rfl (any_of HT_.out (by kernel_rfl)) (fun _ _ _ h => h) (Or.inl ⟨by rfl, ?_⟩) ?_ ?_
  rotate_left
  ·
    intro w'
    go_simp
    with_reducible rfl
  rotate_left
  ·
    simp only [Act.put, l_1, l_2, l_3, i64_w, i32_w]
    rfl
  have z1 := SM.out.1.1
  have z2 := SM.out.2.1
  refine last_ (i := 10) (N := none) #[true, true, true, true, true, true, true, true, true, true, true] rfl rfl (one_of HT_.out (by kernel_rfl)) (by decide) (fun K hK => ?_)
  refine skip_ (w1 := ?_) (by rfl) rfl ?_ ?_
  rotate_left
  ·
    go_simp
    rfl
  refine hK.out _ _ ?_
  clear hK K
  refine done_ (done_of HT_.out (by kernel_rfl)) ?_
  clear hHeld HT_ HW_ z1 z2
  have NF := Aside0.mk (show NetAt 52 31 5 (wn.setCell ⟨g, 1, none⟩ (.slice Av ((L.eraseIdx i).length + 1) cv)) base g (fun k => ok k ∨ w.heap.size ≤ k) room (L.eraseIdx i ++ [p]) c0 c1 c2 c3 (.slice Av ((L.eraseIdx i).length + 1) cv) from
    SM.out.2.2.1.mono (fun k hk => by
      rcases hk with (hk | hk) | hk
      · exact Or.inl (HSUB.out k hk)
      · exact Or.inl (HOK.out k hk)
      · exact Or.inr (Nat.le_trans HWS.out hk)) (fun hk => hk.elim HS.out.2.1 (fun h2 => absurd HGL.out (Nat.not_lt.2 h2))))
  have NU2 := Aside0.mk (NU.out.trans SM.out.2.2.2.1 (fun k _ hk => hk.imp (HSUB.out k) id))
  clear SM NU PQ NR
  generalize wn.setCell ⟨g, 1, none⟩ (.slice Av ((L.eraseIdx i).length + 1) cv) = W9 at *
  go_wp2
  go_ret
  exact ⟨_, rfl, NF.out, NU2.out⟩
theorem net_Net_Back.some_ (a room c0 c1 c2 c3 : Int) (L : List NP) (v : Value) (base g : Nat) (ok : Nat → Prop) (w : World) (hN : NetAt 52 31 5 w base g ok room L c0 c1 c2 c3 v) (hbw : base ≤ w.heap.size) (h0 : 0 < L.length) (h1 : (L.length : Int) ≤ 70000) :
    Calls Try.prog 9 #[.pointer (some ⟨g, 0, none⟩), .int .i64 a] w (net_backed w base g ok room c0 c1 c2 c3 (L.eraseIdx (net_idx a L.length).toNat ++ [L.getD (net_idx a L.length).toNat (0, 0, [])])) := by
  refine (net_Net_Back.some0_ a room c0 c1 c2 c3 L v base g (fun k => ok k ∧ k < w.heap.size) w (fun k hk => hk.2) hN.bound hbw h0 h1).mono ?_
  rintro e w' ⟨v', he, hn, hu⟩
  exact ⟨v', he, hn.mono (fun k hk => hk.imp (·.1) id) (fun hk => hk.elim hN.2.1 (fun h2 => absurd (blk_lt hN.2.2.1) (Nat.not_lt.2 h2))), hu.mono (fun k _ hk => hk.imp (·.1) id)⟩
section
variable {w W W' : World} {g gb : Nat} {free free' : Nat → Prop} {room c0 c1 c2 c3 : Int} {L : List NP}
theorem LS.back (a : Int) (h : LS w W g free room L c0 c1 c2 c3) (h0 : 0 < L.length) (h1 : (L.length : Int) ≤ 70000) :
    Calls Try.prog 9 #[.pointer (some ⟨g, 0, none⟩), .int .i64 a] W fun e w' => e = .returned (.bool true) ∧ LS w w' g free room (L.eraseIdx (net_idx a L.length).toNat ++ [L.getD (net_idx a L.length).toNat (0, 0, [])]) c0 c1 c2 c3 ∧ Upd (fun k => ¬ free k) W w' := by
  obtain ⟨h2, h3, ok, v, hn, h4⟩ := h
  refine (net_Net_Back.some_ a room c0 c1 c2 c3 L v _ g ok W hn h2.size h0 h1).mono ?_
  rintro e w' ⟨v', he, hn', hu⟩
  exact ⟨he, ⟨Upd.belowB h2 h2.size hu (fun k hk => hk.elim (fun e => (h4 k e).1) (fun e => by have e' : k = g := e; omega)), ⟨h3.1, h3.2.1, fun k hk => Nat.lt_of_lt_of_le (h3.2.2 k hk) hu.size⟩, _, v', hn'.bound, fun k hk => ⟨hk.1.elim (fun e => (h4 k e).1) (fun e => Nat.le_trans h2.size e), hk.2, fun e => hk.1.elim (fun e2 => (h4 k e2).2.2 e) (fun e2 => by have := h3.2.2 k e; omega)⟩⟩, hu.mono (fun k _ hk => hk.elim (fun e => (h4 k e).2.2) (fun e => by have e' : k = g := e; rw [e']; exact h3.2.1))⟩
end
/-! ### net_Net_Spoil: function 13, by hand -/
def net_spoil (L : List NP) (i : Nat) (b x : Int) : List NP :=
  if (L.getD i (0, 0, [])).2.2 = [] then L else L.set i ((L.getD i (0, 0, [])).1, (L.getD i (0, 0, [])).2.1, (L.getD i (0, 0, [])).2.2.set (net_idx b (L.getD i (0, 0, [])).2.2.length).toNat (Go.bits .xor .u8 (rd (L.getD i (0, 0, [])).2.2 (net_idx b (L.getD i (0, 0, [])).2.2.length)) x))
def net_spoiled (w : World) (base g : Nat) (ok : Nat → Prop) (room c0 c1 c2 c3 : Int) (L : List NP) (v : Value) (e : Ending) (w' : World) : Prop :=
  e = .returned (.bool true) ∧ NetAt 52 31 5 w' base g ok room L c0 c1 c2 c3 v ∧ Upd (fun k => ok k ∨ k = g) w w'
set_option maxHeartbeats 8000000 in
set_option maxRecDepth 100000 in
theorem net_Net_Spoil.some_ (a b x room c0 c1 c2 c3 : Int) (L : List NP) (v : Value) (base g : Nat) (ok : Nat → Prop) (w : World) (hN : NetAt 52 31 5 w base g ok room L c0 c1 c2 c3 v) (h0 : 0 < L.length) (h1 : (L.length : Int) ≤ 4611686018427387904) (hbl : (L.getD (net_idx a L.length).toNat (0, 0, [])).2.2.length < 140737488355328) :
    Calls Try.prog 13 #[.pointer (some ⟨g, 0, none⟩), .int .i64 a, .int .i64 b, .int .u8 x] w (net_spoiled w base g ok room c0 c1 c2 c3 (net_spoil L (net_idx a L.length).toNat b x) v) := by
  obtain ⟨hi0, hi1⟩ := net_idx.bounds a L.length (by omega) h1
  obtain ⟨h, cap, hv, hbh, hlt, _⟩ := Kd.S_form hN.2.2.2 h0
  subst hv
  have HOF := Aside0.mk (fun (W : World) (hN : NetAt 52 31 5 W base g ok room L c0 c1 c2 c3 (.slice (some ⟨h, 0, none⟩) L.length cap)) => net_Net_of.some_ a room c0 c1 c2 c3 L _ base g ok W hN h0 h1)
  generalize net_idx a L.length = i at *
  obtain ⟨oki, cs, hcl, hM, hcc, hok, hback⟩ := Kd.S_borrow hN.2.2.2 (0, 0, []) i hi0 hi1
  unfold net_spoil
  obtain ⟨p, hp⟩ : ∃ p, L.getD i.toNat (0, 0, []) = p := ⟨_, rfl⟩
  rw [hp] at hM hbl
  rw [hp]
  obtain ⟨vb, rfl, hR⟩ := npk_inv hM
  obtain ⟨Ab, cb, rfl, hlb, hCb⟩ := Kd.R_reads hR
  have z2 : w.cell? ⟨h, i.toNat * 3 + 2, none⟩ = some (.slice Ab p.2.2.length cb) := by have := hcc 2 _ rfl; rwa [add_plain] at this
  obtain ⟨y0, y1, y2, y3, y4, y5, f0, f1, f2, f3, f4, f5⟩ := cells6 hN.2.2.1
  have HS := Aside0.mk hN
  have q0 : decide (0 ≤ i) = true := decide_eq_true hi0
  have q1 : decide (i < (L.length : Int)) = true := decide_eq_true hi1
  have q2 : (0 ≤ i ∧ i < (L.length : Int)) = True := eq_true ⟨hi0, hi1⟩
  have q3 : (0 ≤ i) = True := eq_true hi0
  have q4 : (i < (L.length : Int)) = True := eq_true hi1
  clear y0 y2 y3 y4 y5 f0 f1 f2 f3 f4 f5 hp hcl hM hcc hN hlt hbh h0 h1 hi0 hi1 hlb
  have hu31 := Try.underlying31
  by_cases he : p.2.2 = []
  · have q5 : decide (0 < (p.2.2.length : Int)) = false := decide_eq_false (by rw [he]; simp)
    have q6 : decide (0 < p.2.2.length) = false := decide_eq_false (by rw [he]; simp)
    rw [if_pos he]
    clear he hR hCb hback
    go_enter Try.func13, Try.ntmps13
    go_wp2_with (first
      | (go_at_call 20; (with_reducible refine (HOF.out _ HS.out).mono ?_); rintro e wn ⟨rfl, rfl⟩))
    go_ret
    exact ⟨rfl, HS.out, Upd.refl _ _⟩
  · rw [if_neg he]
    have hpos : 0 < p.2.2.length := List.length_pos_iff.2 he
    obtain ⟨hj0, hj1⟩ := net_idx.bounds b p.2.2.length (by omega) (by omega)
    obtain ⟨hb_, cap_, hvb, _, hltb, _⟩ := Kd.R_form hR hpos
    injection hvb with e1 e2 e3
    subst e1; subst e3
    have q5 : decide (0 < (p.2.2.length : Int)) = true := decide_eq_true (by omega)
    have q6 : decide (0 < p.2.2.length) = true := decide_eq_true hpos
    have r1 : decide ((p.2.2.length : Int) = 0) = false := decide_eq_false (by omega)
    have r2 : ((p.2.2.length : Int) == 0) = false := beq_eq_false_iff_ne.2 (by omega)
    have r3 : ((p.2.2.length : Int) = 0) = False := eq_false (by omega)
    have r4 : (p.2.2.length = 0) = False := eq_false (by omega)
    have hw1 : IntKind.i64.wrap (Int.tmod b p.2.2.length + p.2.2.length) = wrap64 (Int.tmod b p.2.2.length + p.2.2.length) := by rw [i64_w]
    obtain ⟨j, hj⟩ : ∃ j, net_idx b p.2.2.length = j := ⟨_, rfl⟩
    rw [hj] at hj0 hj1 ⊢
    have hj2 : Int.tmod (wrap64 (Int.tmod b p.2.2.length + p.2.2.length)) p.2.2.length = j := hj
    clear hj
    obtain ⟨xc, xf⟩ := Kd.R_cell (0 : Int) hR j hj0 hj1
    have hput := Kd.R_putg hR j (Go.bits .xor .u8 (rd p.2.2 j) x)
    have HF := Aside0.mk (hback (x' := (p.1, p.2.1, p.2.2.set j.toNat (Go.bits .xor .u8 (rd p.2.2 j) x))) hput.2 (fun k e => by injection e with e; subst e; exact hR.1 _ rfl) (by
      have hm := npk_mk p.1 p.2.1 (e := 5) (base := base) (ok := oki) hput.1
      exact hm))
    have HBO := Aside0.mk (show oki hb_ from hR.1 _ rfl)
    have hne : g ≠ hb_ := fun e => HS.out.2.1 (by rw [e]; exact (hok _ HBO.out).1)
    have HNB := Aside0.mk (blk_far HS.out.2.2.1 (p := ⟨hb_, j.toNat, none⟩) hne (.int .u8 (Go.bits .xor .u8 (rd p.2.2 j) x)))
    have HU := Aside0.mk (Upd.of_set (S := fun k => ok k ∨ k = g) (w := w) hb_ j.toNat (.int .u8 (Go.bits .xor .u8 (rd p.2.2 j) x)) (Or.inl (hok _ HBO.out).1))
    replace xc : w.cell? ⟨hb_, j.toNat, none⟩ = some (.int .u8 (rd p.2.2 j)) := xc
    have s0 : decide (0 ≤ j) = true := decide_eq_true hj0
    have s1 : decide (j < (p.2.2.length : Int)) = true := decide_eq_true hj1
    have s2 : (0 ≤ j ∧ j < (p.2.2.length : Int)) = True := eq_true ⟨hj0, hj1⟩
    have s3 : (0 ≤ j) = True := eq_true hj0
    have s4 : (j < (p.2.2.length : Int)) = True := eq_true hj1
    clear hput hback hR hCb hltb hne hok hj0 hj1 he hpos hbl
    go_enter Try.func13, Try.ntmps13
    go_upto_region 4 with (first
      | (go_at_call 20; (with_reducible refine (HOF.out _ HS.out).mono ?_); rintro e wn ⟨rfl, rfl⟩))
    go_still_tail 20, (by kernel_rfl)
    change wpList _ _ _ _ _ w.drew
    go_wp2
    go_ret
    exact ⟨rfl, NetAt.drew ⟨HS.out.1, HS.out.2.1, HNB.out, HF.out⟩, HU.out.drew⟩
set_option maxHeartbeats 8000000 in
set_option maxRecDepth 100000 in
theorem net_Net_Spoil.none_ (a b x room c0 c1 c2 c3 : Int) (v : Value) (base g : Nat) (ok : Nat → Prop) (w : World) (hN : NetAt 52 31 5 w base g ok room [] c0 c1 c2 c3 v) :
    Calls Try.prog 13 #[.pointer (some ⟨g, 0, none⟩), .int .i64 a, .int .i64 b, .int .u8 x] w fun e w' => e = .returned (.bool false) ∧ w = w' := by
  have HS := Aside0.mk hN
  clear hN
  have hu31 := Try.underlying31
  go_enter Try.func13, Try.ntmps13
  go_wp2_with (first
    | (go_at_call 20; (with_reducible refine (net_Net_of.none_ a room c0 c1 c2 c3 _ base g ok _ HS.out).mono ?_); rintro e wn ⟨rfl, rfl⟩))
  go_ret
  exact ⟨rfl, rfl⟩
theorem net_spoil_len (L : List NP) (i : Nat) (b x : Int) : (net_spoil L i b x).length = L.length := by
  unfold net_spoil
  split
  · rfl
  · rw [List.length_set]
theorem net_spoil_ne (L : List NP) (i j : Nat) (b x : Int) (h : i ≠ j) (d : NP) : (net_spoil L i b x).getD j d = L.getD j d := by
  unfold net_spoil
  split
  · rfl
  · rw [List.getD_eq_getElem?_getD, List.getElem?_set_ne h, List.getD_eq_getElem?_getD]
section
variable {w W W' : World} {g gb : Nat} {free free' : Nat → Prop} {room c0 c1 c2 c3 : Int} {L : List NP}
theorem LS.spoil (a b x : Int) (h : LS w W g free room L c0 c1 c2 c3) (h0 : 0 < L.length) (h1 : (L.length : Int) ≤ 70000) (i : Nat) (hi : (net_idx a L.length).toNat = i) (hbl : (L.getD i (0, 0, [])).2.2.length < 140737488355328) :
    Calls Try.prog 13 #[.pointer (some ⟨g, 0, none⟩), .int .i64 a, .int .i64 b, .int .u8 x] W fun e w' => e = .returned (.bool true) ∧ LS w w' g free room (net_spoil L i b x) c0 c1 c2 c3 ∧ Upd (fun k => ¬ free k) W w' := by
  obtain ⟨h2, h3, ok, v, hn, h4⟩ := h
  subst hi
  refine (net_Net_Spoil.some_ a b x room c0 c1 c2 c3 L v _ g ok W hn h0 (by omega) hbl).mono ?_
  rintro e w' ⟨he, hn', hu⟩
  exact ⟨he, ⟨Upd.belowB h2 h2.size hu (fun k hk => hk.elim (fun e => (h4 k e).1) (fun e => by have e' : k = g := e; omega)), ⟨h3.1, h3.2.1, fun k hk => Nat.lt_of_lt_of_le (h3.2.2 k hk) hu.size⟩, _, v, hn', fun k hk => ⟨(h4 k hk).1, Nat.lt_of_lt_of_le (h4 k hk).2.1 hu.size, (h4 k hk).2.2⟩⟩, hu.mono (fun k _ hk => hk.elim (fun e => (h4 k e).2.2) (fun e => by have e' : k = g := e; rw [e']; exact h3.2.1))⟩
theorem LS.spoil0 (a b x : Int) (h : LS w W g free room [] c0 c1 c2 c3) :
    Calls Try.prog 13 #[.pointer (some ⟨g, 0, none⟩), .int .i64 a, .int .i64 b, .int .u8 x] W fun e w' => e = .returned (.bool false) ∧ W = w' := by
  obtain ⟨h2, h3, ok, v, hn, h4⟩ := h
  exact net_Net_Spoil.none_ a b x room c0 c1 c2 c3 v _ g ok W hn
end
end Go.Proofs.Ytpaamdppobcmnaa.QNetActs
