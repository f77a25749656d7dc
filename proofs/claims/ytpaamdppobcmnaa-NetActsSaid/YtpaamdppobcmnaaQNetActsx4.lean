-- Written by a program of this session (a turned copy of the print) out of the translation. Lean checks it.
import Derived.Test.YtpaamdppobcmnaaQNetActsx0
import Derived.Test.YtpaamdppobcmnaaQNetActsx1
import Derived.Test.YtpaamdppobcmnaaQNetActsx3
namespace Go.Proofs.Ytpaamdppobcmnaa.QNetActs
open Go.RowKit Go.Proofs.YtpaamdppobcmnaaW.PrintWords Go.Proofs.YtpaamdppobcmnaaW.PrintLast Go.Proofs.YtpaamdppobcmnaaW.PrintMore
attribute [local go_sem] max2_int min2_int max_two min_two max_three min_three max_four min_four   -- for this text's walks alone
open Go.Proofs.YtpaamdppobcmnaaW.PrintWords renaming below_alloc → b_a, pw_below_drewN → b_n, below_drew1 → b_d, below_set → b_s, blk_drewN → k_n, blk_drew → k_d, blk_alloc → k_a
open List renaming setIfInBounds_toArray → l_1, set_cons_zero → l_2, set_cons_succ → l_3, map_toArray → l_4, map_cons → l_5, map_nil → l_6, length_drop → l_7, length_take → l_8
set_option linter.unusedVariables false
set_option linter.unusedSimpArgs false

/-! ### pelotonref17_Net_Out: function 22, by hand -/
theorem rr_take {α : Type} {R : α → List Value → Prop} {sz m : Nat} {w : World} {A : Option Addr} {ps : List α} (h : ReadsRow R sz w A ps.length ps) (hm : m ≤ ps.length) : ReadsRow R sz w A m (ps.take m) := by
  refine ⟨by rw [List.length_take]; omega, by have := h.2.1; omega, fun hp => ?_⟩
  obtain ⟨ad, e, hc⟩ := h.2.2 (by omega)
  refine ⟨ad, e, fun j p hj => hc j p ?_⟩
  rw [List.getElem?_take] at hj
  split at hj
  · exact hj
  · cases hj
theorem rr_drop {α : Type} {R : α → List Value → Prop} {sz m c : Nat} {w : World} {A : Option Addr} {ps : List α} (h : ReadsRow R sz w A ps.length ps) (hm : m ≤ ps.length) (hc : ps.length ≤ c) : ReadsRow R sz w (if c = m then A else A.map (·.add (m * sz))) (ps.length - m) (ps.drop m) := by
  refine ⟨by rw [List.length_drop], by have := h.2.1; omega, fun hp => ?_⟩
  obtain ⟨ad, rfl, hcell⟩ := h.2.2 (by omega)
  rw [if_neg (by omega)]
  refine ⟨ad.add (m * sz), rfl, fun j p hj => ?_⟩
  rw [List.getElem?_drop] at hj
  obtain ⟨cs, h1, h2, h3⟩ := hcell (m + j) p hj
  refine ⟨cs, h1, h2, fun i u hu => ?_⟩
  rw [add_add, show m * sz + (j * sz + i) = (m + j) * sz + i by rw [Nat.add_mul]; omega]
  exact h3 i u hu
theorem rr_mem {α : Type} {R : α → List Value → Prop} {P : α → Prop} {sz n : Nat} {w : World} {A : Option Addr} {ps : List α} (h : ReadsRow R sz w A n ps) (hP : ∀ x ∈ ps, P x) : ReadsRow (fun x cs => P x ∧ R x cs) sz w A n ps := by
  refine ⟨h.1, h.2.1, fun hn => ?_⟩
  obtain ⟨ad, e, hc⟩ := h.2.2 hn
  refine ⟨ad, e, fun j p hj => ?_⟩
  obtain ⟨cs, h1, h2, h3⟩ := hc j p hj
  exact ⟨cs, h1, ⟨hP p (List.mem_of_getElem? hj), h2⟩, h3⟩
/-- a row of one's own as it is read, with what its elements lead to -/
theorem out_reads {α : Type} {d : Kd α} {f : Nat → Nat} {W : World} {e base hL n cap : Nat} {ok : Nat → Prop} {L : List α} (h : (Kd.tag f d).R e W base ok (.slice (some ⟨hL, 0, none⟩) n cap) L.zipIdx) : ReadsRow (fun x cs => (Kd.tag f d).M W base (fun k => ok k ∧ k ≠ hL) x cs) d.sz W (some ⟨hL, 0, none⟩) L.zipIdx.length L.zipIdx := by
  obtain ⟨_, inner, ho, hr⟩ := h
  obtain ⟨A, c, hv, hrow⟩ := own_reads_row ho (hr.imp_ (R' := (Kd.tag f d).M W base (fun k => ok k ∧ k ≠ hL)) (fun x cs hx => (Kd.tag f d).M_mono (fun k hk => ⟨hk.1, fun e => hk.2 (by rw [e]; simp [Value.ownBlock])⟩) hx)) rfl
  injection hv with e1 _ _
  rw [← e1] at hrow
  exact hrow
theorem out_take {α : Type} {d : Kd α} {f : Nat → Nat} {W : World} {e base hL n cap : Nat} {ok : Nat → Prop} {L : List α} (i : Nat) (hi : i ≤ L.length) (h : (Kd.tag f d).R e W base ok (.slice (some ⟨hL, 0, none⟩) n cap) L.zipIdx) : ReadsRow (fun x cs => x.2 ≠ i ∧ (Kd.tag f d).M W base (fun k => ok k ∧ k ≠ hL) x cs) d.sz W (some ⟨hL, 0, none⟩) i (L.zipIdx.take i) := by
  refine rr_mem (rr_take (out_reads h) (by rw [List.length_zipIdx]; exact hi)) (fun x hx => ?_)
  obtain ⟨j, hj⟩ := List.mem_iff_getElem?.1 hx
  rw [List.getElem?_take] at hj
  split at hj
  · rw [List.getElem?_zipIdx] at hj
    obtain ⟨q, _, rfl⟩ := Option.map_eq_some_iff.1 hj
    show 0 + j ≠ i
    omega
  · cases hj
theorem out_drop {α : Type} {d : Kd α} {f : Nat → Nat} {W : World} {e base hL n cap : Nat} {ok : Nat → Prop} {L : List α} (i : Nat) (hi : i < L.length) (hc : L.length ≤ cap) (h : (Kd.tag f d).R e W base ok (.slice (some ⟨hL, 0, none⟩) n cap) L.zipIdx) : ReadsRow (fun x cs => x.2 ≠ i ∧ (Kd.tag f d).M W base (fun k => ok k ∧ k ≠ hL) x cs) d.sz W (if cap = i + 1 then some ⟨hL, 0, none⟩ else (some (⟨hL, 0, none⟩ : Addr)).map (·.add ((i + 1) * d.sz))) (L.length - (i + 1)) (L.zipIdx.drop (i + 1)) := by
  have h1 := rr_drop (m := i + 1) (c := cap) (out_reads h) (by rw [List.length_zipIdx]; omega) (by rw [List.length_zipIdx]; exact hc)
  rw [List.length_zipIdx] at h1
  refine rr_mem h1 (fun x hx => ?_)
  obtain ⟨j, hj⟩ := List.mem_iff_getElem?.1 hx
  rw [List.getElem?_drop, List.getElem?_zipIdx] at hj
  obtain ⟨q, _, rfl⟩ := Option.map_eq_some_iff.1 hj
  show 0 + (i + 1 + j) ≠ i
  omega
theorem out_elem {α : Type} {d : Kd α} {f : Nat → Nat} {W : World} {e base hL n cap : Nat} {ok : Nat → Prop} {L : List α} (z : α) (i : Nat) (hi : i < L.length) (h : (Kd.tag f d).R e W base ok (.slice (some ⟨hL, 0, none⟩) n cap) L.zipIdx) : ∃ cs, d.M W base (fun k => (ok k ∧ k ≠ hL) ∧ f k = i) (L.getD i z) cs ∧ ∀ j u, cs[j]? = some u → W.cell? ⟨hL, i * d.sz + j, none⟩ = some u := by
  obtain ⟨ad, hA, hc⟩ := (out_reads h).2.2 (by rw [List.length_zipIdx]; omega)
  injection hA with hA
  subst hA
  obtain ⟨cs, _, hM, hcc⟩ := hc i (L[i], i) (Kd.zip_at (List.getElem?_eq_getElem hi))
  refine ⟨cs, ?_, fun j u hu => by have := hcc j u hu; rwa [add_plain] at this⟩
  rw [List.getD_eq_getElem?_getD, List.getElem?_eq_getElem hi]
  exact hM
theorem out_erase {α : Type} (L : List α) (i : Nat) : L.zipIdx.take i ++ L.zipIdx.drop (i + 1) = L.zipIdx.eraseIdx i := (List.eraseIdx_eq_take_drop_succ _ _).symm
def ref_outed (w : World) (base h : Nat) (ok : Nat → Prop) (room c0 c1 c2 c3 : Int) (L : List NP) (i : Nat) (p : NP) (e : Ending) (w' : World) : Prop :=
  ∃ (ok' okp : Nat → Prop) (vb v' : Value), e = .returned (.tuple #[.agg #[.int .i64 p.1, .int .i64 p.2.1, vb], .bool true]) ∧ (Kd.int .u8).R 5 w' base okp vb p.2.2 ∧ (∀ k, okp k → ok k ∧ ¬ ok' k) ∧ NetAt 45 31 5 w' base h ok' room (L.eraseIdx i) c0 c1 c2 c3 v' ∧ (∀ k, ok' k → ok k ∨ w.heap.size ≤ k) ∧ Upd (fun k => k = h) w w'
set_option maxHeartbeats 8000000 in
set_option maxRecDepth 100000 in
theorem ref_Out.take0_ (a room c0 c1 c2 c3 : Int) (L : List NP) (v : Value) (base h : Nat) (ok : Nat → Prop) (w : World) (hlt_ : ∀ k, ok k → k < w.heap.size) (hN : NetAt 45 31 5 w base h ok room L c0 c1 c2 c3 v) (hbw : base ≤ w.heap.size) (h0 : 0 < L.length) (h1 : (L.length : Int) ≤ 70000) :
    Calls Try.prog 22 #[.pointer (some ⟨h, 0, none⟩), .int .i64 a, .int .i64 2] w (ref_outed w base h ok room c0 c1 (wrap64 (c2 + 1)) c3 L (net_idx a L.length).toNat (L.getD (net_idx a L.length).toNat (0, 0, []))) := by
  obtain ⟨hi0, hi1⟩ := net_idx.bounds a L.length (by omega) (by omega)
  have HREST : Aside0 (pelotonref17_Rest.f a L.length = some (net_idx a L.length)) := ⟨by unfold pelotonref17_Rest.f; rw [if_neg (by omega)]; rfl⟩
  obtain ⟨f, hf⟩ := hN.2.2.2
  obtain ⟨hL, cap, hv, hbh, hltL, _⟩ := Kd.R_form hf (by rw [List.length_zipIdx]; exact h0)
  rw [List.length_zipIdx] at hv
  subst hv
  have hcap := (Kd.R_reads' hf).2.1
  generalize net_idx a L.length = i at *
  obtain ⟨p, hp⟩ : ∃ p, L.getD i.toNat (0, 0, []) = p := ⟨_, rfl⟩
  obtain ⟨cs, hM, hcc⟩ := out_elem (0, 0, []) i.toNat (by omega) hf
  rw [hp] at hM
  rw [hp]
  obtain ⟨vb, rfl, hR⟩ := npk_inv hM
  obtain ⟨Ab, cb, rfl⟩ := Kd.R_slice hR
  have z0 : w.cell? ⟨hL, i.toNat * 3, none⟩ = some (.int .i64 p.1) := hcc 0 _ rfl
  have z1 : w.cell? ⟨hL, i.toNat * 3 + 1, none⟩ = some (.int .i64 p.2.1) := hcc 1 _ rfl
  have z2 : w.cell? ⟨hL, i.toNat * 3 + 2, none⟩ = some (.slice Ab p.2.2.length cb) := hcc 2 _ rfl
  have HLT := Aside0.mk hlt_
  have HNG := Aside0.mk hN.2.1
  have HBG := Aside0.mk hN.1
  have HGL := Aside0.mk (show h < w.heap.size from blk_lt hN.2.2.1)
  have HLL := Aside0.mk hltL
  have HOL := Aside0.mk (hf.1 hL rfl)
  have HBWw := Aside0.mk hbw
  have HCAP := Aside0.mk hcap
  have NR := Aside0.mk hR
  have HF := Aside0.mk hf
  have KH := Aside0.mk hN.2.2.1
  have HB := Aside0.mk (Below.refl w.heap.size w)
  have HI := Aside0.mk (show 0 ≤ i ∧ i < (L.length : Int) ∧ (L.length : Int) ≤ 70000 from ⟨hi0, hi1, h1⟩)
  have q0 : decide (0 ≤ i) = true := decide_eq_true hi0
  have q1 : decide (i < (L.length : Int)) = true := decide_eq_true hi1
  have q2 : (0 ≤ i ∧ i < (L.length : Int)) = True := eq_true ⟨hi0, hi1⟩
  have q3 : (0 ≤ i) = True := eq_true hi0
  have q4 : (i < (L.length : Int)) = True := eq_true hi1
  have r1 : decide ((L.length : Int) = 0) = false := decide_eq_false (by omega)
  have r2 : ((L.length : Int) == 0) = false := beq_eq_false_iff_ne.2 (by omega)
  have r3 : ((L.length : Int) = 0) = False := eq_false (by omega)
  have r4 : (L.length = 0) = False := eq_false (by omega)
  have hw : IntKind.i64.wrap (i + 1) = i + 1 := by rw [i64_w]; unfold wrap64; omega
  obtain ⟨i0, hi, hzz⟩ := Option.map_eq_some_iff.1 net_info31
  simp only [Prod.mk.injEq] at hzz
  have hc38 : ∀ W : World, (Instr.slice 42 (.slice (some ⟨hL, 0, none⟩) L.length cap) none (some (.int .i64 i)) none).run Try.prog W = .ok (.slice (some ⟨hL, 0, none⟩) i.toNat cap) W := cut_to (P := Try.prog) 42 31 .i64 Try.underlying42 hi _ L.length cap i hi0 (by omega) hcap
  have hc48 : ∀ W : World, (Instr.slice 42 (.slice (some ⟨hL, 0, none⟩) L.length cap) (some (.int .i64 (i + 1))) none none).run Try.prog W = .ok (.slice (if cap = i.toNat + 1 then some ⟨hL, 0, none⟩ else (some (⟨hL, 0, none⟩ : Addr)).map (·.add ((i.toNat + 1) * 3))) (L.length - (i.toNat + 1)) (cap - (i.toNat + 1))) W := by
    have := cut_from (P := Try.prog) 42 31 .i64 Try.underlying42 hi 3 hzz.2.1 (some ⟨hL, 0, none⟩) L.length cap (i + 1) (by omega) (by omega)
    rw [show (i + 1).toNat = i.toNat + 1 by omega] at this
    exact this
  obtain ⟨AA, hAA⟩ : ∃ AA, (if cap = i.toNat + 1 then some (⟨hL, 0, none⟩ : Addr) else (some (⟨hL, 0, none⟩ : Addr)).map (·.add ((i.toNat + 1) * 3))) = AA := ⟨_, rfl⟩
  rw [hAA] at hc48
  have HAA := Aside0.mk hAA
  clear hAA hlt_ hN hf hbh hltL hcap hp hM hcc hR hi0 hi1 h0 h1 hzz hi hbw i0
  have hu31 := Try.underlying31
  have hu43 := Try.underlying43
  obtain ⟨y0, y1, y2, y3, y4, y5, f0, f1, f2, f3, f4, f5⟩ := cells6 KH.out
  clear y0 y2 y3 y4 y5 f0 f1 f2 f3 f4 f5
  go_enter Try.func22, Try.ntmps22
  go_upto_region 4 with (first
    | ((with_reducible refine gate_dst (N := 6) rfl ?_); refine box_event ?hg (N := 6) ?hd (cs := #[.int .i64 0, .int .i64 0, .slice none 0 0]) (t := 31) ?hr ?_; (case hd => rfl); (case hg => rfl); (case hr => first | (go_simp; done) | (go_simp; rfl)); intro g6 hg_ wb hbox hbb; have HG6 := Aside0.mk hg_; have K6 := Aside0.mk hbox; replace HB := Aside0.mk hbb; replace y1 := pw_cell_below hbb y1; replace z0 := pw_cell_below hbb z0; replace z1 := pw_cell_below hbb z1; replace z2 := pw_cell_below hbb z2; clear hg_ hbox hbb)
    | (go_at_call 24; (with_reducible refine (pelotonref17_Rest.calls a L.length i _ HREST.out).mono ?_); rintro e wr ⟨rfl, hd⟩; replace K6 := Aside0.mk (blk_below K6.out hd.below); replace HB := Aside0.mk (below_step HB.out hd.below); replace y1 := pw_cell_below hd.below y1; replace z0 := pw_cell_below hd.below z0; replace z1 := pw_cell_below hd.below z1; replace z2 := pw_cell_below hd.below z2; clear hd))
  go_upto_region 5 with (first
    | ((with_reducible refine gate_dst (N := 9) rfl ?_); refine box_event ?hg (N := 9) ?hd (cs := #[.int .i64 0, .int .i64 0, .slice none 0 0]) (t := 31) ?hr ?_; (case hd => rfl); (case hg => rfl); (case hr => first | (go_simp; done) | (go_simp; rfl)); intro g9 hg_ wb hbox hbb; have HG9 := Aside0.mk (show w.heap.size ≤ g9 from by rw [hg_]; exact HB.out.size); have H69 := Aside0.mk (show g6 ≠ g9 from by rw [hg_]; exact Nat.ne_of_lt (blk_lt K6.out)); replace K6 := Aside0.mk (blk_below K6.out hbb); replace HB := Aside0.mk (below_step HB.out hbb); clear z0 z1 z2 y1 hg_ hbb; (with_reducible refine gate_store_ rfl ?_); refine stU_ rfl rfl rfl rfl rfl hbox rfl (by kernel_rfl) (by simp [Value.oneCell']) ?_; intro W5 hW1 hW2; have K9 := Aside0.mk hW1; replace K6 := Aside0.mk (hW2.blk K6.out H69.out); replace HB := Aside0.mk (Upd.belowB HB.out HB.out.size hW2 (fun k hk => by have h5 : k = g9 := hk; have := HG9.out; omega)); clear hbox hW1 hW2))
  replace NR := Aside0.mk (Kd.R_below NR.out HB.out)
  replace HF := Aside0.mk (Kd.R_below HF.out HB.out)
  replace KH := Aside0.mk (blk_below KH.out HB.out)
  obtain ⟨y0, y1, y2, y3, y4, y5, f0, f1, f2, f3, f4, f5⟩ := cells6 KH.out
  clear y0 y2 y3 y4 y5 f0 f1 f2 f3 f4 f5
  have HN6 := Aside0.mk (show g6 ≠ h from fun e => by have := HG6.out; have := HGL.out; omega)
  have HN9 := Aside0.mk (show g9 ≠ h from fun e => by have := HG9.out; have := HGL.out; omega)
  obtain ⟨ok1, hok1⟩ : ∃ ok1 : Nat → Prop, ok1 = fun k => ((ok k ∧ k ≠ hL) ∧ f k ≠ i.toNat) ∨ W5.heap.size ≤ k := ⟨_, rfl⟩
  have HO1 := Aside0.mk hok1
  have HS6 := Aside0.mk (show g6 < W5.heap.size from blk_lt K6.out)
  have HS9 := Aside0.mk (show g9 < W5.heap.size from blk_lt K9.out)
  have HBW5 := Aside0.mk (show base ≤ W5.heap.size from Nat.le_trans HBWw.out HB.out.size)
  clear hok1
  go_upto_region 7 with (first
    | (at_builtin; refine Kd.R_append_rows (Kd.tag f (npk 5)) (w0 := W5) base rfl (.tmp 32) (.tmp 38) 42 31 (.agg #[.int .i64 0, .int .i64 0, .slice none 0 0]) 40 rfl Try.underlying42 net_info31 rfl (by show 0 < 3; decide) (by decide) (.slice none 0 0) [] (L.zipIdx.take i.toNat) _ _ _ ok1 (fun k => (ok k ∧ k ≠ hL) ∧ f k ≠ i.toNat) rfl rfl (Kd.R_nil _ _ _ _ _) (out_take i.toNat (by have := HI.out; omega) HF.out) ?a1 ?a2 ?a3 (Below.refl _ _) HBW5.out ?a4 ?_; (case a1 => exact (fun x cs hx => (npk 5).M_mono (fun k hk => ⟨⟨hk.1, by rw [hk.2]; exact hx.1⟩, hk.2⟩) hx.2)); (case a2 => exact (fun k hk => ⟨by rw [HO1.out]; exact Or.inl hk, by simp [Value.ownBlock]⟩)); (case a3 => exact (fun k hk => by rw [HO1.out]; exact Or.inr hk)); (case a4 => (have := HI.out; simp only [List.length_nil]; omega)); intro v1 wm hr1 hb1 hg1 hat1; rw [List.nil_append] at hr1; have HR1 := Aside0.mk hr1; have HB1 := Aside0.mk (show Below W5.heap.size W5 wm from ⟨hg1.os, hg1.tape, hg1.output, hg1.size, fun k hk => hg1.block k hk (by simp [Value.ownBlock])⟩); have HNEW := Aside0.mk (show ∀ k, v1.ownBlock = some k → W5.heap.size ≤ k from fun k hk => by rcases hat1 with h5 | ⟨b, h5, h6⟩; (· rw [h5] at hk; simp [Value.ownBlock] at hk); (· rw [h5] at hk; injection hk with hk; omega)); clear hr1 hb1 hg1 hat1 y1))
  replace HF := Aside0.mk (Kd.R_below HF.out HB1.out)
  replace NR := Aside0.mk (Kd.R_below NR.out HB1.out)
  replace KH := Aside0.mk (blk_below KH.out HB1.out)
  replace K6 := Aside0.mk (blk_below K6.out HB1.out)
  replace K9 := Aside0.mk (blk_below K9.out HB1.out)
  obtain ⟨y0, y1, y2, y3, y4, y5, f0, f1, f2, f3, f4, f5⟩ := cells6 KH.out
  clear y0 y2 y3 y4 y5 f0 f1 f2 f3 f4 f5
  have hdr := out_drop i.toNat (by have := HI.out; omega) HCAP.out HF.out
  rw [show (if cap = i.toNat + 1 then some (⟨hL, 0, none⟩ : Addr) else (some (⟨hL, 0, none⟩ : Addr)).map (·.add ((i.toNat + 1) * (npk 5).sz))) = AA from HAA.out] at hdr
  have HDR := Aside0.mk hdr
  clear hdr
  go_upto_region 8 with (first
    | (at_builtin; refine Kd.R_append_rows (Kd.tag f (npk 5)) (w0 := wm) base rfl (.tmp 41) (.tmp 48) 42 31 (.agg #[.int .i64 0, .int .i64 0, .slice none 0 0]) 40 rfl Try.underlying42 net_info31 rfl (by show 0 < 3; decide) (by decide) v1 (L.zipIdx.take i.toNat) (L.zipIdx.drop (i.toNat + 1)) _ _ _ ok1 (fun k => (ok k ∧ k ≠ hL) ∧ f k ≠ i.toNat) rfl rfl HR1.out HDR.out ?b1 ?b2 ?b3 (Below.refl _ _) ?b5 ?b4 ?_; (case b1 => exact (fun x cs hx => (npk 5).M_mono (fun k hk => ⟨⟨hk.1, by rw [hk.2]; exact hx.1⟩, hk.2⟩) hx.2)); (case b2 => exact (fun k hk => ⟨by rw [HO1.out]; exact Or.inl hk, fun e => by have h5 := HNEW.out k e.symm; have h6 := HLT.out k hk.1.1; have h7 := HB.out.size; omega⟩)); (case b3 => exact (fun k hk => by rw [HO1.out]; exact Or.inr (Nat.le_trans HB1.out.size hk))); (case b5 => exact Nat.le_trans HBW5.out HB1.out.size); (case b4 => (have := HI.out; rw [List.length_take, List.length_zipIdx]; omega)); intro v2 w2 hr2 hb2 hg2 hat2; rw [out_erase] at hr2; obtain ⟨A2, c2_, hv2⟩ := Kd.R_slice hr2; obtain ⟨n2, hn2⟩ : ∃ n2, (L.zipIdx.eraseIdx i.toNat).length = n2 := ⟨_, rfl⟩; rw [hn2] at hv2; subst hv2; have HR2 := Aside0.mk hr2; have HG2 := Aside0.mk hg2; have hnw : ∀ k, k < W5.heap.size → some k ≠ v1.ownBlock := (fun k hk e => by have := HNEW.out k e.symm; omega); have KH2 := Aside0.mk (blk_grown KH.out hg2 (hnw h (by have := HGL.out; have := HB.out.size; omega))); have K62 := Aside0.mk (blk_grown K6.out hg2 (hnw g6 (by have := HS6.out; omega))); have K92 := Aside0.mk (blk_grown K9.out hg2 (hnw g9 (by have := HS9.out; omega))); have NR2 := Aside0.mk (Kd.R_grown NR.out hg2 (fun k hk => hnw k (by have h6 := HLT.out k hk.1.1; have h7 := HB.out.size; omega))); obtain ⟨_, y1, _, _, _, _, _, f1, _⟩ := cells6 KH2.out; clear hr2 hb2 hg2 hat2 hnw hn2))
  have NA := Aside0.mk (show NetAt 45 31 5 (w2.setCell ⟨h, 1, none⟩ (.slice A2 n2 c2_)) base h ok1 room (L.eraseIdx i.toNat) c0 c1 c2 c3 (.slice A2 n2 c2_) from
    ⟨HBG.out, fun hk => by rw [HO1.out] at hk; exact hk.elim (fun e => HNG.out e.1.1) (fun e => by have := HGL.out; have := HB.out.size; omega), blk_put KH2.out 1 _ rfl, Kd.S_far (p := ⟨h, 1, none⟩) (Kd.S_erase (f := f) HR2.out) (fun k hk e => by have e' : k = h := e; rw [HO1.out, e'] at hk; exact hk.elim (fun e => HNG.out e.1.1) (fun e => by have := HGL.out; have := HB.out.size; omega)) _⟩)
  replace NR := Aside0.mk (Kd.R_far (p := ⟨h, 1, none⟩) NR2.out (fun k hk e => HNG.out (by have e' : k = h := e; rw [← e']; exact hk.1.1)) (.slice A2 n2 c2_))
  have NU := Aside0.mk ((((Upd.of_below (S := fun k => k = h) HB.out).trans (Upd.of_below (S := fun k => k = h) HB1.out) (fun _ _ hk => hk)).trans (Upd.of_grown (S := fun k => v1.ownBlock = some k) HG2.out (fun k e => e)) (fun k hk e => by have h5 := HNEW.out k e; have h7 := HB.out.size; omega)).trans (Upd.of_set h 1 (.slice A2 n2 c2_) (S := fun k => k = h) rfl) (fun _ _ hk => hk))
  replace K9 := Aside0.mk (blk_far K92.out (p := ⟨h, 1, none⟩) HN9.out (.slice A2 n2 c2_))
  replace K6 := Aside0.mk (blk_far K62.out (p := ⟨h, 1, none⟩) HN6.out (.slice A2 n2 c2_))
  clear y1 f1 HF KH KH2 K62 K92 NR2 HR1 HR2 HG2 HNEW HB1
  generalize w2.setCell ⟨h, 1, none⟩ (.slice A2 n2 c2_) = W6 at *
  go_upto_region 9 with (fail)
  obtain ⟨y0, y1, y2, y3, y4, y5, f0, f1, f2, f3, f4, f5⟩ := cells6 NA.out.2.2.1
  clear y0 y1 y2 y3 y5 f0 f1 f2 f3 f5
  have hwc : IntKind.i64.wrap (c2 + 1) = wrap64 (c2 + 1) := by rw [i64_w]
  go_still_tail 10, (by kernel_rfl)
  change wpList _ _ _ _ _ W6.drew
  go_upto_region 10 with (fail)
  replace NA := Aside0.mk ((NA.out.put (by decide) (by decide) 4 (.int .i64 (wrap64 (c2 + 1))) c0 c1 (wrap64 (c2 + 1)) c3 rfl).drew)
  replace NR := Aside0.mk (Kd.R_drew (Kd.R_far (p := ⟨h, 4, none⟩) NR.out (fun k hk e => HNG.out (by have e' : k = h := e; rw [← e']; exact hk.1.1)) (.int .i64 (wrap64 (c2 + 1)))))
  replace NU := Aside0.mk ((NU.out.trans (Upd.of_set h 4 (.int .i64 (wrap64 (c2 + 1))) (S := fun k => k = h) rfl) (fun _ _ hk => hk)).drew)
  replace K9 := Aside0.mk (blk_drew (blk_far K9.out (p := ⟨h, 4, none⟩) HN9.out (.int .i64 (wrap64 (c2 + 1)))))
  replace K6 := Aside0.mk (blk_drew (blk_far K6.out (p := ⟨h, 4, none⟩) HN6.out (.int .i64 (wrap64 (c2 + 1)))))
  clear y4 f4 hwc
  generalize (W6.setCell ⟨h, 4, none⟩ (.int .i64 (wrap64 (c2 + 1)))).drew = W8 at *
  obtain ⟨x0, x1, x2, _⟩ := cells3 K9.out
  go_wp2_with (first
    | ((with_reducible refine gate_store_ rfl ?_); refine stU_ rfl rfl rfl rfl rfl K6.out rfl (by kernel_rfl) (by simp [Value.oneCell']) ?_; intro W9 hW1 hW2; clear x0 x1 x2; have hB6 : ∀ k, ok1 k → ¬ k = g6 := (fun k hk e => by rw [HO1.out] at hk; exact hk.elim (fun h5 => by have := HLT.out k h5.1.1; have := HG6.out; omega) (fun h5 => by have := HS6.out; omega)); replace NA := Aside0.mk (NA.out.upd hW2 (fun k hk _ => hB6 k hk) (Ne.symm HN6.out)); replace NR := Aside0.mk (Kd.R_step (w1 := W9) NR.out (fun k hk hlt => hW2.2.2.2.2 k hlt (fun e => by have e' : k = g6 := e; have := HLT.out k hk.1.1; have := HG6.out; omega))); replace NU := Aside0.mk (NU.out.trans hW2 (fun k hk e => by have e' : k = g6 := e; have := HG6.out; omega)); replace K6 := Aside0.mk hW1; clear hW1 hW2 hB6))
  refine bodyPost_ret (results_ct rfl _ _ g6 31 #[.int .i64 p.1, .int .i64 p.2.1, .slice Ab p.2.2.length cb] (0, 0) _ rfl K6.out Try.underlying31 rfl (by kernel_rfl)) rfl ?_
  exact ⟨ok1, _, _, _, rfl, NR.out, fun k hk => ⟨hk.1.1, fun h5 => by rw [HO1.out] at h5; exact h5.elim (fun e => e.2 hk.2) (fun e => by have := HLT.out k hk.1.1; have := HB.out.size; omega)⟩, NA.out, fun k hk => by rw [HO1.out] at hk; exact hk.elim (fun e => Or.inl e.1.1) (fun e => Or.inr (Nat.le_trans HB.out.size e)), NU.out⟩
theorem ref_Out.take (a room c0 c1 c2 c3 : Int) (L : List NP) (v : Value) (base h : Nat) (ok : Nat → Prop) (w : World) (hN : NetAt 45 31 5 w base h ok room L c0 c1 c2 c3 v) (hbw : base ≤ w.heap.size) (h0 : 0 < L.length) (h1 : (L.length : Int) ≤ 70000) :
    Calls Try.prog 22 #[.pointer (some ⟨h, 0, none⟩), .int .i64 a, .int .i64 2] w (ref_outed w base h ok room c0 c1 (wrap64 (c2 + 1)) c3 L (net_idx a L.length).toNat (L.getD (net_idx a L.length).toNat (0, 0, []))) := by
  refine (ref_Out.take0_ a room c0 c1 c2 c3 L v base h (fun k => ok k ∧ k < w.heap.size) w (fun k hk => hk.2) hN.bound hbw h0 h1).mono ?_
  rintro e w' ⟨ok', okp, vb, v', he, hR, hok, hn, hs, hu⟩
  exact ⟨ok', okp, vb, v', he, hR, fun k hk => ⟨(hok k hk).1.1, (hok k hk).2⟩, hn, fun k hk => (hs k hk).imp (·.1) id, hu⟩
set_option maxHeartbeats 8000000 in
set_option maxRecDepth 100000 in
theorem ref_Out.lose0_ (a room c0 c1 c2 c3 : Int) (L : List NP) (v : Value) (base h : Nat) (ok : Nat → Prop) (w : World) (hlt_ : ∀ k, ok k → k < w.heap.size) (hN : NetAt 45 31 5 w base h ok room L c0 c1 c2 c3 v) (hbw : base ≤ w.heap.size) (h0 : 0 < L.length) (h1 : (L.length : Int) ≤ 70000) :
    Calls Try.prog 22 #[.pointer (some ⟨h, 0, none⟩), .int .i64 a, .int .i64 3] w (ref_outed w base h ok room c0 c1 c2 (wrap64 (c3 + 1)) L (net_idx a L.length).toNat (L.getD (net_idx a L.length).toNat (0, 0, []))) := by
  obtain ⟨hi0, hi1⟩ := net_idx.bounds a L.length (by omega) (by omega)
  have HREST : Aside0 (pelotonref17_Rest.f a L.length = some (net_idx a L.length)) := ⟨by unfold pelotonref17_Rest.f; rw [if_neg (by omega)]; rfl⟩
  obtain ⟨f, hf⟩ := hN.2.2.2
  obtain ⟨hL, cap, hv, hbh, hltL, _⟩ := Kd.R_form hf (by rw [List.length_zipIdx]; exact h0)
  rw [List.length_zipIdx] at hv
  subst hv
  have hcap := (Kd.R_reads' hf).2.1
  generalize net_idx a L.length = i at *
  obtain ⟨p, hp⟩ : ∃ p, L.getD i.toNat (0, 0, []) = p := ⟨_, rfl⟩
  obtain ⟨cs, hM, hcc⟩ := out_elem (0, 0, []) i.toNat (by omega) hf
  rw [hp] at hM
  rw [hp]
  obtain ⟨vb, rfl, hR⟩ := npk_inv hM
  obtain ⟨Ab, cb, rfl⟩ := Kd.R_slice hR
  have z0 : w.cell? ⟨hL, i.toNat * 3, none⟩ = some (.int .i64 p.1) := hcc 0 _ rfl
  have z1 : w.cell? ⟨hL, i.toNat * 3 + 1, none⟩ = some (.int .i64 p.2.1) := hcc 1 _ rfl
  have z2 : w.cell? ⟨hL, i.toNat * 3 + 2, none⟩ = some (.slice Ab p.2.2.length cb) := hcc 2 _ rfl
  have HLT := Aside0.mk hlt_
  have HNG := Aside0.mk hN.2.1
  have HBG := Aside0.mk hN.1
  have HGL := Aside0.mk (show h < w.heap.size from blk_lt hN.2.2.1)
  have HLL := Aside0.mk hltL
  have HOL := Aside0.mk (hf.1 hL rfl)
  have HBWw := Aside0.mk hbw
  have HCAP := Aside0.mk hcap
  have NR := Aside0.mk hR
  have HF := Aside0.mk hf
  have KH := Aside0.mk hN.2.2.1
  have HB := Aside0.mk (Below.refl w.heap.size w)
  have HI := Aside0.mk (show 0 ≤ i ∧ i < (L.length : Int) ∧ (L.length : Int) ≤ 70000 from ⟨hi0, hi1, h1⟩)
  have q0 : decide (0 ≤ i) = true := decide_eq_true hi0
  have q1 : decide (i < (L.length : Int)) = true := decide_eq_true hi1
  have q2 : (0 ≤ i ∧ i < (L.length : Int)) = True := eq_true ⟨hi0, hi1⟩
  have q3 : (0 ≤ i) = True := eq_true hi0
  have q4 : (i < (L.length : Int)) = True := eq_true hi1
  have r1 : decide ((L.length : Int) = 0) = false := decide_eq_false (by omega)
  have r2 : ((L.length : Int) == 0) = false := beq_eq_false_iff_ne.2 (by omega)
  have r3 : ((L.length : Int) = 0) = False := eq_false (by omega)
  have r4 : (L.length = 0) = False := eq_false (by omega)
  have hw : IntKind.i64.wrap (i + 1) = i + 1 := by rw [i64_w]; unfold wrap64; omega
  obtain ⟨i0, hi, hzz⟩ := Option.map_eq_some_iff.1 net_info31
  simp only [Prod.mk.injEq] at hzz
  have hc38 : ∀ W : World, (Instr.slice 42 (.slice (some ⟨hL, 0, none⟩) L.length cap) none (some (.int .i64 i)) none).run Try.prog W = .ok (.slice (some ⟨hL, 0, none⟩) i.toNat cap) W := cut_to (P := Try.prog) 42 31 .i64 Try.underlying42 hi _ L.length cap i hi0 (by omega) hcap
  have hc48 : ∀ W : World, (Instr.slice 42 (.slice (some ⟨hL, 0, none⟩) L.length cap) (some (.int .i64 (i + 1))) none none).run Try.prog W = .ok (.slice (if cap = i.toNat + 1 then some ⟨hL, 0, none⟩ else (some (⟨hL, 0, none⟩ : Addr)).map (·.add ((i.toNat + 1) * 3))) (L.length - (i.toNat + 1)) (cap - (i.toNat + 1))) W := by
    have := cut_from (P := Try.prog) 42 31 .i64 Try.underlying42 hi 3 hzz.2.1 (some ⟨hL, 0, none⟩) L.length cap (i + 1) (by omega) (by omega)
    rw [show (i + 1).toNat = i.toNat + 1 by omega] at this
    exact this
  obtain ⟨AA, hAA⟩ : ∃ AA, (if cap = i.toNat + 1 then some (⟨hL, 0, none⟩ : Addr) else (some (⟨hL, 0, none⟩ : Addr)).map (·.add ((i.toNat + 1) * 3))) = AA := ⟨_, rfl⟩
  rw [hAA] at hc48
  have HAA := Aside0.mk hAA
  clear hAA hlt_ hN hf hbh hltL hcap hp hM hcc hR hi0 hi1 h0 h1 hzz hi hbw i0
  have hu31 := Try.underlying31
  have hu43 := Try.underlying43
  obtain ⟨y0, y1, y2, y3, y4, y5, f0, f1, f2, f3, f4, f5⟩ := cells6 KH.out
  clear y0 y2 y3 y4 y5 f0 f1 f2 f3 f4 f5
  go_enter Try.func22, Try.ntmps22
  go_upto_region 4 with (first
    | ((with_reducible refine gate_dst (N := 6) rfl ?_); refine box_event ?hg (N := 6) ?hd (cs := #[.int .i64 0, .int .i64 0, .slice none 0 0]) (t := 31) ?hr ?_; (case hd => rfl); (case hg => rfl); (case hr => first | (go_simp; done) | (go_simp; rfl)); intro g6 hg_ wb hbox hbb; have HG6 := Aside0.mk hg_; have K6 := Aside0.mk hbox; replace HB := Aside0.mk hbb; replace y1 := pw_cell_below hbb y1; replace z0 := pw_cell_below hbb z0; replace z1 := pw_cell_below hbb z1; replace z2 := pw_cell_below hbb z2; clear hg_ hbox hbb)
    | (go_at_call 24; (with_reducible refine (pelotonref17_Rest.calls a L.length i _ HREST.out).mono ?_); rintro e wr ⟨rfl, hd⟩; replace K6 := Aside0.mk (blk_below K6.out hd.below); replace HB := Aside0.mk (below_step HB.out hd.below); replace y1 := pw_cell_below hd.below y1; replace z0 := pw_cell_below hd.below z0; replace z1 := pw_cell_below hd.below z1; replace z2 := pw_cell_below hd.below z2; clear hd))
  go_upto_region 5 with (first
    | ((with_reducible refine gate_dst (N := 9) rfl ?_); refine box_event ?hg (N := 9) ?hd (cs := #[.int .i64 0, .int .i64 0, .slice none 0 0]) (t := 31) ?hr ?_; (case hd => rfl); (case hg => rfl); (case hr => first | (go_simp; done) | (go_simp; rfl)); intro g9 hg_ wb hbox hbb; have HG9 := Aside0.mk (show w.heap.size ≤ g9 from by rw [hg_]; exact HB.out.size); have H69 := Aside0.mk (show g6 ≠ g9 from by rw [hg_]; exact Nat.ne_of_lt (blk_lt K6.out)); replace K6 := Aside0.mk (blk_below K6.out hbb); replace HB := Aside0.mk (below_step HB.out hbb); clear z0 z1 z2 y1 hg_ hbb; (with_reducible refine gate_store_ rfl ?_); refine stU_ rfl rfl rfl rfl rfl hbox rfl (by kernel_rfl) (by simp [Value.oneCell']) ?_; intro W5 hW1 hW2; have K9 := Aside0.mk hW1; replace K6 := Aside0.mk (hW2.blk K6.out H69.out); replace HB := Aside0.mk (Upd.belowB HB.out HB.out.size hW2 (fun k hk => by have h5 : k = g9 := hk; have := HG9.out; omega)); clear hbox hW1 hW2))
  replace NR := Aside0.mk (Kd.R_below NR.out HB.out)
  replace HF := Aside0.mk (Kd.R_below HF.out HB.out)
  replace KH := Aside0.mk (blk_below KH.out HB.out)
  obtain ⟨y0, y1, y2, y3, y4, y5, f0, f1, f2, f3, f4, f5⟩ := cells6 KH.out
  clear y0 y2 y3 y4 y5 f0 f1 f2 f3 f4 f5
  have HN6 := Aside0.mk (show g6 ≠ h from fun e => by have := HG6.out; have := HGL.out; omega)
  have HN9 := Aside0.mk (show g9 ≠ h from fun e => by have := HG9.out; have := HGL.out; omega)
  obtain ⟨ok1, hok1⟩ : ∃ ok1 : Nat → Prop, ok1 = fun k => ((ok k ∧ k ≠ hL) ∧ f k ≠ i.toNat) ∨ W5.heap.size ≤ k := ⟨_, rfl⟩
  have HO1 := Aside0.mk hok1
  have HS6 := Aside0.mk (show g6 < W5.heap.size from blk_lt K6.out)
  have HS9 := Aside0.mk (show g9 < W5.heap.size from blk_lt K9.out)
  have HBW5 := Aside0.mk (show base ≤ W5.heap.size from Nat.le_trans HBWw.out HB.out.size)
  clear hok1
  go_upto_region 7 with (first
    | (at_builtin; refine Kd.R_append_rows (Kd.tag f (npk 5)) (w0 := W5) base rfl (.tmp 32) (.tmp 38) 42 31 (.agg #[.int .i64 0, .int .i64 0, .slice none 0 0]) 40 rfl Try.underlying42 net_info31 rfl (by show 0 < 3; decide) (by decide) (.slice none 0 0) [] (L.zipIdx.take i.toNat) _ _ _ ok1 (fun k => (ok k ∧ k ≠ hL) ∧ f k ≠ i.toNat) rfl rfl (Kd.R_nil _ _ _ _ _) (out_take i.toNat (by have := HI.out; omega) HF.out) ?a1 ?a2 ?a3 (Below.refl _ _) HBW5.out ?a4 ?_; (case a1 => exact (fun x cs hx => (npk 5).M_mono (fun k hk => ⟨⟨hk.1, by rw [hk.2]; exact hx.1⟩, hk.2⟩) hx.2)); (case a2 => exact (fun k hk => ⟨by rw [HO1.out]; exact Or.inl hk, by simp [Value.ownBlock]⟩)); (case a3 => exact (fun k hk => by rw [HO1.out]; exact Or.inr hk)); (case a4 => (have := HI.out; simp only [List.length_nil]; omega)); intro v1 wm hr1 hb1 hg1 hat1; rw [List.nil_append] at hr1; have HR1 := Aside0.mk hr1; have HB1 := Aside0.mk (show Below W5.heap.size W5 wm from ⟨hg1.os, hg1.tape, hg1.output, hg1.size, fun k hk => hg1.block k hk (by simp [Value.ownBlock])⟩); have HNEW := Aside0.mk (show ∀ k, v1.ownBlock = some k → W5.heap.size ≤ k from fun k hk => by rcases hat1 with h5 | ⟨b, h5, h6⟩; (· rw [h5] at hk; simp [Value.ownBlock] at hk); (· rw [h5] at hk; injection hk with hk; omega)); clear hr1 hb1 hg1 hat1 y1))
  replace HF := Aside0.mk (Kd.R_below HF.out HB1.out)
  replace NR := Aside0.mk (Kd.R_below NR.out HB1.out)
  replace KH := Aside0.mk (blk_below KH.out HB1.out)
  replace K6 := Aside0.mk (blk_below K6.out HB1.out)
  replace K9 := Aside0.mk (blk_below K9.out HB1.out)
  obtain ⟨y0, y1, y2, y3, y4, y5, f0, f1, f2, f3, f4, f5⟩ := cells6 KH.out
  clear y0 y2 y3 y4 y5 f0 f1 f2 f3 f4 f5
  have hdr := out_drop i.toNat (by have := HI.out; omega) HCAP.out HF.out
  rw [show (if cap = i.toNat + 1 then some (⟨hL, 0, none⟩ : Addr) else (some (⟨hL, 0, none⟩ : Addr)).map (·.add ((i.toNat + 1) * (npk 5).sz))) = AA from HAA.out] at hdr
  have HDR := Aside0.mk hdr
  clear hdr
  go_upto_region 8 with (first
    | (at_builtin; refine Kd.R_append_rows (Kd.tag f (npk 5)) (w0 := wm) base rfl (.tmp 41) (.tmp 48) 42 31 (.agg #[.int .i64 0, .int .i64 0, .slice none 0 0]) 40 rfl Try.underlying42 net_info31 rfl (by show 0 < 3; decide) (by decide) v1 (L.zipIdx.take i.toNat) (L.zipIdx.drop (i.toNat + 1)) _ _ _ ok1 (fun k => (ok k ∧ k ≠ hL) ∧ f k ≠ i.toNat) rfl rfl HR1.out HDR.out ?b1 ?b2 ?b3 (Below.refl _ _) ?b5 ?b4 ?_; (case b1 => exact (fun x cs hx => (npk 5).M_mono (fun k hk => ⟨⟨hk.1, by rw [hk.2]; exact hx.1⟩, hk.2⟩) hx.2)); (case b2 => exact (fun k hk => ⟨by rw [HO1.out]; exact Or.inl hk, fun e => by have h5 := HNEW.out k e.symm; have h6 := HLT.out k hk.1.1; have h7 := HB.out.size; omega⟩)); (case b3 => exact (fun k hk => by rw [HO1.out]; exact Or.inr (Nat.le_trans HB1.out.size hk))); (case b5 => exact Nat.le_trans HBW5.out HB1.out.size); (case b4 => (have := HI.out; rw [List.length_take, List.length_zipIdx]; omega)); intro v2 w2 hr2 hb2 hg2 hat2; rw [out_erase] at hr2; obtain ⟨A2, c2_, hv2⟩ := Kd.R_slice hr2; obtain ⟨n2, hn2⟩ : ∃ n2, (L.zipIdx.eraseIdx i.toNat).length = n2 := ⟨_, rfl⟩; rw [hn2] at hv2; subst hv2; have HR2 := Aside0.mk hr2; have HG2 := Aside0.mk hg2; have hnw : ∀ k, k < W5.heap.size → some k ≠ v1.ownBlock := (fun k hk e => by have := HNEW.out k e.symm; omega); have KH2 := Aside0.mk (blk_grown KH.out hg2 (hnw h (by have := HGL.out; have := HB.out.size; omega))); have K62 := Aside0.mk (blk_grown K6.out hg2 (hnw g6 (by have := HS6.out; omega))); have K92 := Aside0.mk (blk_grown K9.out hg2 (hnw g9 (by have := HS9.out; omega))); have NR2 := Aside0.mk (Kd.R_grown NR.out hg2 (fun k hk => hnw k (by have h6 := HLT.out k hk.1.1; have h7 := HB.out.size; omega))); obtain ⟨_, y1, _, _, _, _, _, f1, _⟩ := cells6 KH2.out; clear hr2 hb2 hg2 hat2 hnw hn2))
  have NA := Aside0.mk (show NetAt 45 31 5 (w2.setCell ⟨h, 1, none⟩ (.slice A2 n2 c2_)) base h ok1 room (L.eraseIdx i.toNat) c0 c1 c2 c3 (.slice A2 n2 c2_) from
    ⟨HBG.out, fun hk => by rw [HO1.out] at hk; exact hk.elim (fun e => HNG.out e.1.1) (fun e => by have := HGL.out; have := HB.out.size; omega), blk_put KH2.out 1 _ rfl, Kd.S_far (p := ⟨h, 1, none⟩) (Kd.S_erase (f := f) HR2.out) (fun k hk e => by have e' : k = h := e; rw [HO1.out, e'] at hk; exact hk.elim (fun e => HNG.out e.1.1) (fun e => by have := HGL.out; have := HB.out.size; omega)) _⟩)
  replace NR := Aside0.mk (Kd.R_far (p := ⟨h, 1, none⟩) NR2.out (fun k hk e => HNG.out (by have e' : k = h := e; rw [← e']; exact hk.1.1)) (.slice A2 n2 c2_))
  have NU := Aside0.mk ((((Upd.of_below (S := fun k => k = h) HB.out).trans (Upd.of_below (S := fun k => k = h) HB1.out) (fun _ _ hk => hk)).trans (Upd.of_grown (S := fun k => v1.ownBlock = some k) HG2.out (fun k e => e)) (fun k hk e => by have h5 := HNEW.out k e; have h7 := HB.out.size; omega)).trans (Upd.of_set h 1 (.slice A2 n2 c2_) (S := fun k => k = h) rfl) (fun _ _ hk => hk))
  replace K9 := Aside0.mk (blk_far K92.out (p := ⟨h, 1, none⟩) HN9.out (.slice A2 n2 c2_))
  replace K6 := Aside0.mk (blk_far K62.out (p := ⟨h, 1, none⟩) HN6.out (.slice A2 n2 c2_))
  clear y1 f1 HF KH KH2 K62 K92 NR2 HR1 HR2 HG2 HNEW HB1
  generalize w2.setCell ⟨h, 1, none⟩ (.slice A2 n2 c2_) = W6 at *
  go_upto_region 9 with (fail)
  obtain ⟨y0, y1, y2, y3, y4, y5, f0, f1, f2, f3, f4, f5⟩ := cells6 NA.out.2.2.1
  clear y0 y1 y2 y3 y4 f0 f1 f2 f3 f4
  have hwc : IntKind.i64.wrap (c3 + 1) = wrap64 (c3 + 1) := by rw [i64_w]
  go_still_tail 10, (by kernel_rfl)
  change wpList _ _ _ _ _ W6.drew
  go_upto_region 10 with (fail)
  replace NA := Aside0.mk ((NA.out.put (by decide) (by decide) 5 (.int .i64 (wrap64 (c3 + 1))) c0 c1 c2 (wrap64 (c3 + 1)) rfl).drew)
  replace NR := Aside0.mk (Kd.R_drew (Kd.R_far (p := ⟨h, 5, none⟩) NR.out (fun k hk e => HNG.out (by have e' : k = h := e; rw [← e']; exact hk.1.1)) (.int .i64 (wrap64 (c3 + 1)))))
  replace NU := Aside0.mk ((NU.out.trans (Upd.of_set h 5 (.int .i64 (wrap64 (c3 + 1))) (S := fun k => k = h) rfl) (fun _ _ hk => hk)).drew)
  replace K9 := Aside0.mk (blk_drew (blk_far K9.out (p := ⟨h, 5, none⟩) HN9.out (.int .i64 (wrap64 (c3 + 1)))))
  replace K6 := Aside0.mk (blk_drew (blk_far K6.out (p := ⟨h, 5, none⟩) HN6.out (.int .i64 (wrap64 (c3 + 1)))))
  clear y5 f5 hwc
  generalize (W6.setCell ⟨h, 5, none⟩ (.int .i64 (wrap64 (c3 + 1)))).drew = W8 at *
  obtain ⟨x0, x1, x2, _⟩ := cells3 K9.out
  go_wp2_with (first
    | ((with_reducible refine gate_store_ rfl ?_); refine stU_ rfl rfl rfl rfl rfl K6.out rfl (by kernel_rfl) (by simp [Value.oneCell']) ?_; intro W9 hW1 hW2; clear x0 x1 x2; have hB6 : ∀ k, ok1 k → ¬ k = g6 := (fun k hk e => by rw [HO1.out] at hk; exact hk.elim (fun h5 => by have := HLT.out k h5.1.1; have := HG6.out; omega) (fun h5 => by have := HS6.out; omega)); replace NA := Aside0.mk (NA.out.upd hW2 (fun k hk _ => hB6 k hk) (Ne.symm HN6.out)); replace NR := Aside0.mk (Kd.R_step (w1 := W9) NR.out (fun k hk hlt => hW2.2.2.2.2 k hlt (fun e => by have e' : k = g6 := e; have := HLT.out k hk.1.1; have := HG6.out; omega))); replace NU := Aside0.mk (NU.out.trans hW2 (fun k hk e => by have e' : k = g6 := e; have := HG6.out; omega)); replace K6 := Aside0.mk hW1; clear hW1 hW2 hB6))
  refine bodyPost_ret (results_ct rfl _ _ g6 31 #[.int .i64 p.1, .int .i64 p.2.1, .slice Ab p.2.2.length cb] (0, 0) _ rfl K6.out Try.underlying31 rfl (by kernel_rfl)) rfl ?_
  exact ⟨ok1, _, _, _, rfl, NR.out, fun k hk => ⟨hk.1.1, fun h5 => by rw [HO1.out] at h5; exact h5.elim (fun e => e.2 hk.2) (fun e => by have := HLT.out k hk.1.1; have := HB.out.size; omega)⟩, NA.out, fun k hk => by rw [HO1.out] at hk; exact hk.elim (fun e => Or.inl e.1.1) (fun e => Or.inr (Nat.le_trans HB.out.size e)), NU.out⟩
theorem ref_Out.lose (a room c0 c1 c2 c3 : Int) (L : List NP) (v : Value) (base h : Nat) (ok : Nat → Prop) (w : World) (hN : NetAt 45 31 5 w base h ok room L c0 c1 c2 c3 v) (hbw : base ≤ w.heap.size) (h0 : 0 < L.length) (h1 : (L.length : Int) ≤ 70000) :
    Calls Try.prog 22 #[.pointer (some ⟨h, 0, none⟩), .int .i64 a, .int .i64 3] w (ref_outed w base h ok room c0 c1 c2 (wrap64 (c3 + 1)) L (net_idx a L.length).toNat (L.getD (net_idx a L.length).toNat (0, 0, []))) := by
  refine (ref_Out.lose0_ a room c0 c1 c2 c3 L v base h (fun k => ok k ∧ k < w.heap.size) w (fun k hk => hk.2) hN.bound hbw h0 h1).mono ?_
  rintro e w' ⟨ok', okp, vb, v', he, hR, hok, hn, hs, hu⟩
  exact ⟨ok', okp, vb, v', he, hR, fun k hk => ⟨(hok k hk).1.1, (hok k hk).2⟩, hn, fun k hk => (hs k hk).imp (·.1) id, hu⟩
set_option maxHeartbeats 8000000 in
set_option maxRecDepth 100000 in
theorem ref_Out.plain0_ (a room c0 c1 c2 c3 : Int) (L : List NP) (v : Value) (base h : Nat) (ok : Nat → Prop) (w : World) (hlt_ : ∀ k, ok k → k < w.heap.size) (hN : NetAt 45 31 5 w base h ok room L c0 c1 c2 c3 v) (hbw : base ≤ w.heap.size) (h0 : 0 < L.length) (h1 : (L.length : Int) ≤ 70000) :
    Calls Try.prog 22 #[.pointer (some ⟨h, 0, none⟩), .int .i64 a, .int .i64 (-1)] w (ref_outed w base h ok room c0 c1 c2 c3 L (net_idx a L.length).toNat (L.getD (net_idx a L.length).toNat (0, 0, []))) := by
  obtain ⟨hi0, hi1⟩ := net_idx.bounds a L.length (by omega) (by omega)
  have HREST : Aside0 (pelotonref17_Rest.f a L.length = some (net_idx a L.length)) := ⟨by unfold pelotonref17_Rest.f; rw [if_neg (by omega)]; rfl⟩
  obtain ⟨f, hf⟩ := hN.2.2.2
  obtain ⟨hL, cap, hv, hbh, hltL, _⟩ := Kd.R_form hf (by rw [List.length_zipIdx]; exact h0)
  rw [List.length_zipIdx] at hv
  subst hv
  have hcap := (Kd.R_reads' hf).2.1
  generalize net_idx a L.length = i at *
  obtain ⟨p, hp⟩ : ∃ p, L.getD i.toNat (0, 0, []) = p := ⟨_, rfl⟩
  obtain ⟨cs, hM, hcc⟩ := out_elem (0, 0, []) i.toNat (by omega) hf
  rw [hp] at hM
  rw [hp]
  obtain ⟨vb, rfl, hR⟩ := npk_inv hM
  obtain ⟨Ab, cb, rfl⟩ := Kd.R_slice hR
  have z0 : w.cell? ⟨hL, i.toNat * 3, none⟩ = some (.int .i64 p.1) := hcc 0 _ rfl
  have z1 : w.cell? ⟨hL, i.toNat * 3 + 1, none⟩ = some (.int .i64 p.2.1) := hcc 1 _ rfl
  have z2 : w.cell? ⟨hL, i.toNat * 3 + 2, none⟩ = some (.slice Ab p.2.2.length cb) := hcc 2 _ rfl
  have HLT := Aside0.mk hlt_
  have HNG := Aside0.mk hN.2.1
  have HBG := Aside0.mk hN.1
  have HGL := Aside0.mk (show h < w.heap.size from blk_lt hN.2.2.1)
  have HLL := Aside0.mk hltL
  have HOL := Aside0.mk (hf.1 hL rfl)
  have HBWw := Aside0.mk hbw
  have HCAP := Aside0.mk hcap
  have NR := Aside0.mk hR
  have HF := Aside0.mk hf
  have KH := Aside0.mk hN.2.2.1
  have HB := Aside0.mk (Below.refl w.heap.size w)
  have HI := Aside0.mk (show 0 ≤ i ∧ i < (L.length : Int) ∧ (L.length : Int) ≤ 70000 from ⟨hi0, hi1, h1⟩)
  have q0 : decide (0 ≤ i) = true := decide_eq_true hi0
  have q1 : decide (i < (L.length : Int)) = true := decide_eq_true hi1
  have q2 : (0 ≤ i ∧ i < (L.length : Int)) = True := eq_true ⟨hi0, hi1⟩
  have q3 : (0 ≤ i) = True := eq_true hi0
  have q4 : (i < (L.length : Int)) = True := eq_true hi1
  have r1 : decide ((L.length : Int) = 0) = false := decide_eq_false (by omega)
  have r2 : ((L.length : Int) == 0) = false := beq_eq_false_iff_ne.2 (by omega)
  have r3 : ((L.length : Int) = 0) = False := eq_false (by omega)
  have r4 : (L.length = 0) = False := eq_false (by omega)
  have hw : IntKind.i64.wrap (i + 1) = i + 1 := by rw [i64_w]; unfold wrap64; omega
  obtain ⟨i0, hi, hzz⟩ := Option.map_eq_some_iff.1 net_info31
  simp only [Prod.mk.injEq] at hzz
  have hc38 : ∀ W : World, (Instr.slice 42 (.slice (some ⟨hL, 0, none⟩) L.length cap) none (some (.int .i64 i)) none).run Try.prog W = .ok (.slice (some ⟨hL, 0, none⟩) i.toNat cap) W := cut_to (P := Try.prog) 42 31 .i64 Try.underlying42 hi _ L.length cap i hi0 (by omega) hcap
  have hc48 : ∀ W : World, (Instr.slice 42 (.slice (some ⟨hL, 0, none⟩) L.length cap) (some (.int .i64 (i + 1))) none none).run Try.prog W = .ok (.slice (if cap = i.toNat + 1 then some ⟨hL, 0, none⟩ else (some (⟨hL, 0, none⟩ : Addr)).map (·.add ((i.toNat + 1) * 3))) (L.length - (i.toNat + 1)) (cap - (i.toNat + 1))) W := by
    have := cut_from (P := Try.prog) 42 31 .i64 Try.underlying42 hi 3 hzz.2.1 (some ⟨hL, 0, none⟩) L.length cap (i + 1) (by omega) (by omega)
    rw [show (i + 1).toNat = i.toNat + 1 by omega] at this
    exact this
  obtain ⟨AA, hAA⟩ : ∃ AA, (if cap = i.toNat + 1 then some (⟨hL, 0, none⟩ : Addr) else (some (⟨hL, 0, none⟩ : Addr)).map (·.add ((i.toNat + 1) * 3))) = AA := ⟨_, rfl⟩
  rw [hAA] at hc48
  have HAA := Aside0.mk hAA
  clear hAA hlt_ hN hf hbh hltL hcap hp hM hcc hR hi0 hi1 h0 h1 hzz hi hbw i0
  have hu31 := Try.underlying31
  have hu43 := Try.underlying43
  obtain ⟨y0, y1, y2, y3, y4, y5, f0, f1, f2, f3, f4, f5⟩ := cells6 KH.out
  clear y0 y2 y3 y4 y5 f0 f1 f2 f3 f4 f5
  go_enter Try.func22, Try.ntmps22
  go_upto_region 4 with (first
    | ((with_reducible refine gate_dst (N := 6) rfl ?_); refine box_event ?hg (N := 6) ?hd (cs := #[.int .i64 0, .int .i64 0, .slice none 0 0]) (t := 31) ?hr ?_; (case hd => rfl); (case hg => rfl); (case hr => first | (go_simp; done) | (go_simp; rfl)); intro g6 hg_ wb hbox hbb; have HG6 := Aside0.mk hg_; have K6 := Aside0.mk hbox; replace HB := Aside0.mk hbb; replace y1 := pw_cell_below hbb y1; replace z0 := pw_cell_below hbb z0; replace z1 := pw_cell_below hbb z1; replace z2 := pw_cell_below hbb z2; clear hg_ hbox hbb)
    | (go_at_call 24; (with_reducible refine (pelotonref17_Rest.calls a L.length i _ HREST.out).mono ?_); rintro e wr ⟨rfl, hd⟩; replace K6 := Aside0.mk (blk_below K6.out hd.below); replace HB := Aside0.mk (below_step HB.out hd.below); replace y1 := pw_cell_below hd.below y1; replace z0 := pw_cell_below hd.below z0; replace z1 := pw_cell_below hd.below z1; replace z2 := pw_cell_below hd.below z2; clear hd))
  go_upto_region 5 with (first
    | ((with_reducible refine gate_dst (N := 9) rfl ?_); refine box_event ?hg (N := 9) ?hd (cs := #[.int .i64 0, .int .i64 0, .slice none 0 0]) (t := 31) ?hr ?_; (case hd => rfl); (case hg => rfl); (case hr => first | (go_simp; done) | (go_simp; rfl)); intro g9 hg_ wb hbox hbb; have HG9 := Aside0.mk (show w.heap.size ≤ g9 from by rw [hg_]; exact HB.out.size); have H69 := Aside0.mk (show g6 ≠ g9 from by rw [hg_]; exact Nat.ne_of_lt (blk_lt K6.out)); replace K6 := Aside0.mk (blk_below K6.out hbb); replace HB := Aside0.mk (below_step HB.out hbb); clear z0 z1 z2 y1 hg_ hbb; (with_reducible refine gate_store_ rfl ?_); refine stU_ rfl rfl rfl rfl rfl hbox rfl (by kernel_rfl) (by simp [Value.oneCell']) ?_; intro W5 hW1 hW2; have K9 := Aside0.mk hW1; replace K6 := Aside0.mk (hW2.blk K6.out H69.out); replace HB := Aside0.mk (Upd.belowB HB.out HB.out.size hW2 (fun k hk => by have h5 : k = g9 := hk; have := HG9.out; omega)); clear hbox hW1 hW2))
  replace NR := Aside0.mk (Kd.R_below NR.out HB.out)
  replace HF := Aside0.mk (Kd.R_below HF.out HB.out)
  replace KH := Aside0.mk (blk_below KH.out HB.out)
  obtain ⟨y0, y1, y2, y3, y4, y5, f0, f1, f2, f3, f4, f5⟩ := cells6 KH.out
  clear y0 y2 y3 y4 y5 f0 f1 f2 f3 f4 f5
  have HN6 := Aside0.mk (show g6 ≠ h from fun e => by have := HG6.out; have := HGL.out; omega)
  have HN9 := Aside0.mk (show g9 ≠ h from fun e => by have := HG9.out; have := HGL.out; omega)
  obtain ⟨ok1, hok1⟩ : ∃ ok1 : Nat → Prop, ok1 = fun k => ((ok k ∧ k ≠ hL) ∧ f k ≠ i.toNat) ∨ W5.heap.size ≤ k := ⟨_, rfl⟩
  have HO1 := Aside0.mk hok1
  have HS6 := Aside0.mk (show g6 < W5.heap.size from blk_lt K6.out)
  have HS9 := Aside0.mk (show g9 < W5.heap.size from blk_lt K9.out)
  have HBW5 := Aside0.mk (show base ≤ W5.heap.size from Nat.le_trans HBWw.out HB.out.size)
  clear hok1
  go_upto_region 7 with (first
    | (at_builtin; refine Kd.R_append_rows (Kd.tag f (npk 5)) (w0 := W5) base rfl (.tmp 32) (.tmp 38) 42 31 (.agg #[.int .i64 0, .int .i64 0, .slice none 0 0]) 40 rfl Try.underlying42 net_info31 rfl (by show 0 < 3; decide) (by decide) (.slice none 0 0) [] (L.zipIdx.take i.toNat) _ _ _ ok1 (fun k => (ok k ∧ k ≠ hL) ∧ f k ≠ i.toNat) rfl rfl (Kd.R_nil _ _ _ _ _) (out_take i.toNat (by have := HI.out; omega) HF.out) ?a1 ?a2 ?a3 (Below.refl _ _) HBW5.out ?a4 ?_; (case a1 => exact (fun x cs hx => (npk 5).M_mono (fun k hk => ⟨⟨hk.1, by rw [hk.2]; exact hx.1⟩, hk.2⟩) hx.2)); (case a2 => exact (fun k hk => ⟨by rw [HO1.out]; exact Or.inl hk, by simp [Value.ownBlock]⟩)); (case a3 => exact (fun k hk => by rw [HO1.out]; exact Or.inr hk)); (case a4 => (have := HI.out; simp only [List.length_nil]; omega)); intro v1 wm hr1 hb1 hg1 hat1; rw [List.nil_append] at hr1; have HR1 := Aside0.mk hr1; have HB1 := Aside0.mk (show Below W5.heap.size W5 wm from ⟨hg1.os, hg1.tape, hg1.output, hg1.size, fun k hk => hg1.block k hk (by simp [Value.ownBlock])⟩); have HNEW := Aside0.mk (show ∀ k, v1.ownBlock = some k → W5.heap.size ≤ k from fun k hk => by rcases hat1 with h5 | ⟨b, h5, h6⟩; (· rw [h5] at hk; simp [Value.ownBlock] at hk); (· rw [h5] at hk; injection hk with hk; omega)); clear hr1 hb1 hg1 hat1 y1))
  replace HF := Aside0.mk (Kd.R_below HF.out HB1.out)
  replace NR := Aside0.mk (Kd.R_below NR.out HB1.out)
  replace KH := Aside0.mk (blk_below KH.out HB1.out)
  replace K6 := Aside0.mk (blk_below K6.out HB1.out)
  replace K9 := Aside0.mk (blk_below K9.out HB1.out)
  obtain ⟨y0, y1, y2, y3, y4, y5, f0, f1, f2, f3, f4, f5⟩ := cells6 KH.out
  clear y0 y2 y3 y4 y5 f0 f1 f2 f3 f4 f5
  have hdr := out_drop i.toNat (by have := HI.out; omega) HCAP.out HF.out
  rw [show (if cap = i.toNat + 1 then some (⟨hL, 0, none⟩ : Addr) else (some (⟨hL, 0, none⟩ : Addr)).map (·.add ((i.toNat + 1) * (npk 5).sz))) = AA from HAA.out] at hdr
  have HDR := Aside0.mk hdr
  clear hdr
  go_upto_region 8 with (first
    | (at_builtin; refine Kd.R_append_rows (Kd.tag f (npk 5)) (w0 := wm) base rfl (.tmp 41) (.tmp 48) 42 31 (.agg #[.int .i64 0, .int .i64 0, .slice none 0 0]) 40 rfl Try.underlying42 net_info31 rfl (by show 0 < 3; decide) (by decide) v1 (L.zipIdx.take i.toNat) (L.zipIdx.drop (i.toNat + 1)) _ _ _ ok1 (fun k => (ok k ∧ k ≠ hL) ∧ f k ≠ i.toNat) rfl rfl HR1.out HDR.out ?b1 ?b2 ?b3 (Below.refl _ _) ?b5 ?b4 ?_; (case b1 => exact (fun x cs hx => (npk 5).M_mono (fun k hk => ⟨⟨hk.1, by rw [hk.2]; exact hx.1⟩, hk.2⟩) hx.2)); (case b2 => exact (fun k hk => ⟨by rw [HO1.out]; exact Or.inl hk, fun e => by have h5 := HNEW.out k e.symm; have h6 := HLT.out k hk.1.1; have h7 := HB.out.size; omega⟩)); (case b3 => exact (fun k hk => by rw [HO1.out]; exact Or.inr (Nat.le_trans HB1.out.size hk))); (case b5 => exact Nat.le_trans HBW5.out HB1.out.size); (case b4 => (have := HI.out; rw [List.length_take, List.length_zipIdx]; omega)); intro v2 w2 hr2 hb2 hg2 hat2; rw [out_erase] at hr2; obtain ⟨A2, c2_, hv2⟩ := Kd.R_slice hr2; obtain ⟨n2, hn2⟩ : ∃ n2, (L.zipIdx.eraseIdx i.toNat).length = n2 := ⟨_, rfl⟩; rw [hn2] at hv2; subst hv2; have HR2 := Aside0.mk hr2; have HG2 := Aside0.mk hg2; have hnw : ∀ k, k < W5.heap.size → some k ≠ v1.ownBlock := (fun k hk e => by have := HNEW.out k e.symm; omega); have KH2 := Aside0.mk (blk_grown KH.out hg2 (hnw h (by have := HGL.out; have := HB.out.size; omega))); have K62 := Aside0.mk (blk_grown K6.out hg2 (hnw g6 (by have := HS6.out; omega))); have K92 := Aside0.mk (blk_grown K9.out hg2 (hnw g9 (by have := HS9.out; omega))); have NR2 := Aside0.mk (Kd.R_grown NR.out hg2 (fun k hk => hnw k (by have h6 := HLT.out k hk.1.1; have h7 := HB.out.size; omega))); obtain ⟨_, y1, _, _, _, _, _, f1, _⟩ := cells6 KH2.out; clear hr2 hb2 hg2 hat2 hnw hn2))
  have NA := Aside0.mk (show NetAt 45 31 5 (w2.setCell ⟨h, 1, none⟩ (.slice A2 n2 c2_)) base h ok1 room (L.eraseIdx i.toNat) c0 c1 c2 c3 (.slice A2 n2 c2_) from
    ⟨HBG.out, fun hk => by rw [HO1.out] at hk; exact hk.elim (fun e => HNG.out e.1.1) (fun e => by have := HGL.out; have := HB.out.size; omega), blk_put KH2.out 1 _ rfl, Kd.S_far (p := ⟨h, 1, none⟩) (Kd.S_erase (f := f) HR2.out) (fun k hk e => by have e' : k = h := e; rw [HO1.out, e'] at hk; exact hk.elim (fun e => HNG.out e.1.1) (fun e => by have := HGL.out; have := HB.out.size; omega)) _⟩)
  replace NR := Aside0.mk (Kd.R_far (p := ⟨h, 1, none⟩) NR2.out (fun k hk e => HNG.out (by have e' : k = h := e; rw [← e']; exact hk.1.1)) (.slice A2 n2 c2_))
  have NU := Aside0.mk ((((Upd.of_below (S := fun k => k = h) HB.out).trans (Upd.of_below (S := fun k => k = h) HB1.out) (fun _ _ hk => hk)).trans (Upd.of_grown (S := fun k => v1.ownBlock = some k) HG2.out (fun k e => e)) (fun k hk e => by have h5 := HNEW.out k e; have h7 := HB.out.size; omega)).trans (Upd.of_set h 1 (.slice A2 n2 c2_) (S := fun k => k = h) rfl) (fun _ _ hk => hk))
  replace K9 := Aside0.mk (blk_far K92.out (p := ⟨h, 1, none⟩) HN9.out (.slice A2 n2 c2_))
  replace K6 := Aside0.mk (blk_far K62.out (p := ⟨h, 1, none⟩) HN6.out (.slice A2 n2 c2_))
  clear y1 f1 HF KH KH2 K62 K92 NR2 HR1 HR2 HG2 HNEW HB1
  generalize w2.setCell ⟨h, 1, none⟩ (.slice A2 n2 c2_) = W6 at *
  go_upto_region 10 with (fail)
  obtain ⟨W8, hW8⟩ : ∃ W8, W8 = W6 := ⟨_, rfl⟩
  subst hW8
  obtain ⟨x0, x1, x2, _⟩ := cells3 K9.out
  go_wp2_with (first
    | ((with_reducible refine gate_store_ rfl ?_); refine stU_ rfl rfl rfl rfl rfl K6.out rfl (by kernel_rfl) (by simp [Value.oneCell']) ?_; intro W9 hW1 hW2; clear x0 x1 x2; have hB6 : ∀ k, ok1 k → ¬ k = g6 := (fun k hk e => by rw [HO1.out] at hk; exact hk.elim (fun h5 => by have := HLT.out k h5.1.1; have := HG6.out; omega) (fun h5 => by have := HS6.out; omega)); replace NA := Aside0.mk (NA.out.upd hW2 (fun k hk _ => hB6 k hk) (Ne.symm HN6.out)); replace NR := Aside0.mk (Kd.R_step (w1 := W9) NR.out (fun k hk hlt => hW2.2.2.2.2 k hlt (fun e => by have e' : k = g6 := e; have := HLT.out k hk.1.1; have := HG6.out; omega))); replace NU := Aside0.mk (NU.out.trans hW2 (fun k hk e => by have e' : k = g6 := e; have := HG6.out; omega)); replace K6 := Aside0.mk hW1; clear hW1 hW2 hB6))
  refine bodyPost_ret (results_ct rfl _ _ g6 31 #[.int .i64 p.1, .int .i64 p.2.1, .slice Ab p.2.2.length cb] (0, 0) _ rfl K6.out Try.underlying31 rfl (by kernel_rfl)) rfl ?_
  exact ⟨ok1, _, _, _, rfl, NR.out, fun k hk => ⟨hk.1.1, fun h5 => by rw [HO1.out] at h5; exact h5.elim (fun e => e.2 hk.2) (fun e => by have := HLT.out k hk.1.1; have := HB.out.size; omega)⟩, NA.out, fun k hk => by rw [HO1.out] at hk; exact hk.elim (fun e => Or.inl e.1.1) (fun e => Or.inr (Nat.le_trans HB.out.size e)), NU.out⟩
theorem ref_Out.plain (a room c0 c1 c2 c3 : Int) (L : List NP) (v : Value) (base h : Nat) (ok : Nat → Prop) (w : World) (hN : NetAt 45 31 5 w base h ok room L c0 c1 c2 c3 v) (hbw : base ≤ w.heap.size) (h0 : 0 < L.length) (h1 : (L.length : Int) ≤ 70000) :
    Calls Try.prog 22 #[.pointer (some ⟨h, 0, none⟩), .int .i64 a, .int .i64 (-1)] w (ref_outed w base h ok room c0 c1 c2 c3 L (net_idx a L.length).toNat (L.getD (net_idx a L.length).toNat (0, 0, []))) := by
  refine (ref_Out.plain0_ a room c0 c1 c2 c3 L v base h (fun k => ok k ∧ k < w.heap.size) w (fun k hk => hk.2) hN.bound hbw h0 h1).mono ?_
  rintro e w' ⟨ok', okp, vb, v', he, hR, hok, hn, hs, hu⟩
  exact ⟨ok', okp, vb, v', he, hR, fun k hk => ⟨(hok k hk).1.1, (hok k hk).2⟩, hn, fun k hk => (hs k hk).imp (·.1) id, hu⟩
set_option maxHeartbeats 8000000 in
set_option maxRecDepth 100000 in
theorem ref_Out.none_ (a n room c0 c1 c2 c3 : Int) (v : Value) (base h : Nat) (ok : Nat → Prop) (w : World) (hN : NetAt 45 31 5 w base h ok room [] c0 c1 c2 c3 v) :
    Calls Try.prog 22 #[.pointer (some ⟨h, 0, none⟩), .int .i64 a, .int .i64 n] w fun e w' => e = .returned (.tuple #[.agg #[.int .i64 0, .int .i64 0, .slice none 0 0], .bool false]) ∧ Below w.heap.size w w' := by
  have HS := Aside0.mk hN
  obtain ⟨A, c, hv, _⟩ := hN.slice_
  subst hv
  clear hN
  have hu31 := Try.underlying31
  go_enter Try.func22, Try.ntmps22
  go_wp2_with (first
    | ((with_reducible refine gate_dst (N := 6) rfl ?_); refine box_event ?hg (N := 6) ?hd (cs := #[.int .i64 0, .int .i64 0, .slice none 0 0]) (t := 31) ?hr ?_; (case hd => rfl); (case hg => rfl); (case hr => first | (go_simp; done) | (go_simp; rfl)); intro g6 hg_ wb hbox hbb; have HG6 := Aside0.mk hg_; have K6 := Aside0.mk hbox; have HB := Aside0.mk hbb; have y1 : wb.cell? ⟨h, 1, none⟩ = some (.slice A 0 c) := (HS.out.below hbb).cells.2.1; clear hg_ hbox hbb)
    | ((with_reducible refine gate_store_ rfl ?_); refine stU_ rfl rfl rfl rfl rfl K6.out rfl (by kernel_rfl) (by simp [Value.oneCell']) ?_; intro W7 hW1 hW2; replace HB := Aside0.mk (Upd.belowB HB.out HB.out.size hW2 (fun k hk => by have h5 : k = g6 := hk; have := HG6.out; omega)); replace K6 := Aside0.mk hW1; clear hW1 hW2))
  refine bodyPost_ret (results_ct rfl _ _ g6 31 #[.int .i64 0, .int .i64 0, .slice none 0 0] (0, 0) _ rfl K6.out Try.underlying31 rfl (by kernel_rfl)) rfl ?_
  exact ⟨rfl, HB.out⟩
/-! ### net_Net_Lose: function 23, by hand -/
def net_lost (w : World) (base g : Nat) (ok : Nat → Prop) (room c0 c1 c2 c3 : Int) (L : List NP) (e : Ending) (w' : World) : Prop :=
  ∃ (ok' : Nat → Prop) (v' : Value), e = .returned (.bool true) ∧ NetAt 52 31 5 w' base g ok' room L c0 c1 c2 c3 v' ∧ (∀ k, ok' k → ok k) ∧ Upd (fun k => ok k ∨ k = g) w w'
set_option maxHeartbeats 8000000 in
set_option maxRecDepth 100000 in
theorem net_Net_Lose.some0_ (a room c0 c1 c2 c3 : Int) (L : List NP) (v : Value) (base g : Nat) (ok : Nat → Prop) (w : World) (hlt_ : ∀ k, ok k → k < w.heap.size) (hN : NetAt 52 31 5 w base g ok room L c0 c1 c2 c3 v) (h0 : 0 < L.length) (h1 : (L.length : Int) ≤ 4611686018427387904) :
    Calls Try.prog 23 #[.pointer (some ⟨g, 0, none⟩), .int .i64 a] w (net_lost w base g ok room c0 c1 c2 (wrap64 (c3 + 1)) (L.eraseIdx (net_idx a L.length).toNat)) := by
  have HP := Aside0.mk (fun (W : World) (hN : NetAt 52 31 5 W base g ok room L c0 c1 c2 c3 v) => net_Net_pull.some_ a room c0 c1 c2 c3 L _ base g ok W hN h0 h1)
  generalize (net_idx a L.length).toNat = i at *
  obtain ⟨p, hp⟩ : ∃ p, L.getD i (0, 0, []) = p := ⟨_, rfl⟩
  rw [hp] at HP
  have HLT := Aside0.mk hlt_
  have HGL := Aside0.mk (show g < w.heap.size from blk_lt hN.2.2.1)
  have HS := Aside0.mk hN
  clear hp hN hlt_ h0 h1
  have hu31 := Try.underlying31
  have hu43 := Try.underlying43
  go_enter Try.func23, Try.ntmps23
  go_upto_region 2 with (first
    | (go_at_call 19; (with_reducible refine (HP.out _ HS.out).mono ?_); rintro e wp ⟨okp, vb, v', rfl, hR, hok, hn, hu⟩; obtain ⟨Ab, cb, rfl⟩ := Kd.R_slice hR;
       have HOK := Aside0.mk hok; have NA := Aside0.mk hn; have NU := Aside0.mk hu; have HWP := Aside0.mk hu.size; clear hR hok hn hu)
    | ((with_reducible refine gate_dst (N := 5) rfl ?_); refine box_event ?hg (N := 5) ?hd (cs := #[.int .i64 0, .int .i64 0, .slice none 0 0]) (t := 31) ?hr ?_; (case hd => rfl); (case hg => rfl); (case hr => first | (go_simp; done) | (go_simp; rfl)); intro g6 hg_ w6 hbox hbb; have HG6 := Aside0.mk (show w.heap.size ≤ g6 from by rw [hg_]; exact HWP.out);
       replace NA := Aside0.mk (NA.out.below hbb); replace NU := Aside0.mk (NU.out.trans (Upd.of_below (S := fun k => ok k ∨ k = g) hbb) (fun _ _ hk => hk)); clear hg_ hbb;
       (with_reducible refine gate_store_ rfl ?_); refine stU_ rfl rfl rfl rfl rfl hbox rfl (by kernel_rfl) (by simp [Value.oneCell']) ?_; intro W7 hW1 hW2; clear hbox;
       have hB : ∀ k, ok k → ¬ k = g6 := (fun k hk e => by have := HLT.out k hk; have := HG6.out; omega);
       have NA7 := Aside0.mk (NA.out.upd hW2 (fun k hk _ => hB k hk.1) (fun e => by have := HG6.out; have := HGL.out; omega)); have NU7 := Aside0.mk (NU.out.trans hW2 (fun k hk e => by have := HG6.out; omega)); clear hW1 hW2 hB NA NU))
  go_upto_region 3 with (fail)
  obtain ⟨y0, y1, y2, y3, y4, y5, f0, f1, f2, f3, f4, f5⟩ := cells6 NA7.out.2.2.1
  clear y0 y1 y2 y3 y4 f0 f1 f2 f3 f4
  have hw : IntKind.i64.wrap (c3 + 1) = wrap64 (c3 + 1) := by rw [i64_w]
  go_still_tail 9, (by kernel_rfl)
  change wpList _ _ _ _ _ W7.drew
  go_wp2
  go_ret
  exact ⟨_, _, rfl, (NA7.out.put (by decide) (by decide) 5 (.int .i64 (wrap64 (c3 + 1))) c0 c1 c2 (wrap64 (c3 + 1)) rfl).drew, fun k hk => hk.1, ((NU7.out.trans (Upd.of_set g 5 (.int .i64 (wrap64 (c3 + 1))) (S := fun k => ok k ∨ k = g) (Or.inr rfl)) (fun _ _ hk => hk)).drew)⟩
theorem net_Net_Lose.some_ (a room c0 c1 c2 c3 : Int) (L : List NP) (v : Value) (base g : Nat) (ok : Nat → Prop) (w : World) (hN : NetAt 52 31 5 w base g ok room L c0 c1 c2 c3 v) (h0 : 0 < L.length) (h1 : (L.length : Int) ≤ 4611686018427387904) :
    Calls Try.prog 23 #[.pointer (some ⟨g, 0, none⟩), .int .i64 a] w (net_lost w base g ok room c0 c1 c2 (wrap64 (c3 + 1)) (L.eraseIdx (net_idx a L.length).toNat)) := by
  refine (net_Net_Lose.some0_ a room c0 c1 c2 c3 L v base g (fun k => ok k ∧ k < w.heap.size) w (fun k hk => hk.2) hN.bound h0 h1).mono ?_
  rintro e w' ⟨ok', v', he, hn, hok, hu⟩
  exact ⟨ok', v', he, hn, fun k hk => (hok k hk).1, hu.mono (fun k _ hk => hk.imp (·.1) id)⟩
set_option maxHeartbeats 8000000 in
set_option maxRecDepth 100000 in
theorem net_Net_Lose.none_ (a room c0 c1 c2 c3 : Int) (v : Value) (base g : Nat) (ok : Nat → Prop) (w : World) (hN : NetAt 52 31 5 w base g ok room [] c0 c1 c2 c3 v) :
    Calls Try.prog 23 #[.pointer (some ⟨g, 0, none⟩), .int .i64 a] w fun e w' => e = .returned (.bool false) ∧ Below w.heap.size w w' := by
  have HS := Aside0.mk hN
  have HB := Aside0.mk (Below.refl w.heap.size w)
  clear hN
  have hu31 := Try.underlying31
  go_enter Try.func23, Try.ntmps23
  go_wp2_with (first
    | (go_at_call 19; (with_reducible refine (net_Net_pull.none_ a room c0 c1 c2 c3 _ base g ok _ HS.out).mono ?_); rintro e wn ⟨rfl, hb⟩; replace HB := Aside0.mk (below_step HB.out hb); clear hb)
    | ((with_reducible refine gate_dst (N := 5) rfl ?_); refine box_event ?hg (N := 5) ?hd (cs := #[.int .i64 0, .int .i64 0, .slice none 0 0]) (t := 31) ?hr ?_; (case hd => rfl); (case hg => rfl); (case hr => first | (go_simp; done) | (go_simp; rfl)); intro g6 hg_ w6 hbox hbb; have HG6 := Aside0.mk (show w.heap.size ≤ g6 from by rw [hg_]; exact HB.out.size); replace HB := Aside0.mk (below_step HB.out hbb); clear hg_ hbb;
       (with_reducible refine gate_store_ rfl ?_); refine stU_ rfl rfl rfl rfl rfl hbox rfl (by kernel_rfl) (by simp [Value.oneCell']) ?_; intro W7 hW1 hW2; clear hbox; replace HB := Aside0.mk (Upd.belowB HB.out HB.out.size hW2 (fun k hk => by have h5 : k = g6 := hk; have := HG6.out; omega)); clear hW1 hW2))
  go_ret
  exact ⟨rfl, HB.out⟩
end Go.Proofs.Ytpaamdppobcmnaa.QNetActs
