-- Written by a program of this session (a turned copy of the print) out of the translation. Lean checks it.
import Derived.Test.YtnkphgiodpledaaQMsgBackx0
import Derived.Test.YtnkphgiodpledaaQMsgBackx1
namespace Go.Proofs.Ytnkphgiodpledaa.QMsgBack
open Go.RowKit Go.Proofs.YtnkphgiodpledaaW.PrintWords Go.Proofs.YtnkphgiodpledaaW.PrintLast Go.Proofs.YtnkphgiodpledaaW.PrintMore
attribute [local go_sem] max2_int min2_int max_two min_two max_three min_three max_four min_four   -- for this text's walks alone
open Go.Proofs.YtnkphgiodpledaaW.PrintWords renaming below_alloc → b_a, pw_below_drewN → b_n, below_drew1 → b_d, below_set → b_s, blk_drewN → k_n, blk_drew → k_d, blk_alloc → k_a
open List renaming setIfInBounds_toArray → l_1, set_cons_zero → l_2, set_cons_succ → l_3, map_toArray → l_4, map_cons → l_5, map_nil → l_6, length_drop → l_7, length_take → l_8
set_option linter.unusedVariables false
set_option linter.unusedSimpArgs false

/-! ### msg_Bytes: function 11, by hand -/
def msg_Bytes.T9 : Bool × List (List Nat × List Nat) := (true, [([], []), ([], []), ([1], [1]), ([2], [2]), ([3], [3]), ([4], [4]), ([], []), ([6], [6]), ([7], [7]), ([8], [8]), ([9], [9]), ([], []), ([11], [11]), ([12], [12]), ([13], [13]), ([14], [14]), ([], []), ([16], [16]), ([17], [17]), ([18], [18]), ([19], [19]), ([], []), ([21], [21]), ([22], [22]), ([23], [23]), ([5, 10, 15, 20, 24], [5, 10, 15, 20, 24]), ([0, 25], [0, 25]), ([26, 26, 0, 1, 2, 3, 4, 5, 6, 7, 8, 9, 10, 11, 12, 13, 14, 15, 16, 17, 18, 19, 20, 21, 22, 23, 24, 25, 26], [0, 26])])
def msg_Bytes.B9 : List Nat := [0, 0, 2, 6, 14, 30, 0, 64, 192, 448, 960, 0, 2048, 6144, 14336, 30720, 0, 65536, 196608, 458752, 983040, 0, 2097152, 6291456, 14680064, 33554430, 67108863, 134217727]
theorem msg_Bytes.tab9 : rtab .any (opsOf Try.f11 9) = msg_Bytes.T9 := by kernel_rfl
theorem msg_Bytes.bits9 : waitsOk msg_Bytes.T9.2 msg_Bytes.B9 = true := by kernel_rfl
def msg_Bytes.five (x : Int) : List Int := [(x / 4294967296) % 256, (x / 16777216) % 256, (x / 65536) % 256, (x / 256) % 256, x % 256]
def msg_Bytes.four (y : Int) : List Int := [(y / 16777216) % 256, (y / 65536) % 256, (y / 256) % 256, y % 256]
def msg_Bytes.nums (b : Int) (N : Int → Int) : Nat → Int → List Int → List Int
  | 0, _, xs => xs
  | m + 1, i, xs => msg_Bytes.nums b N m (i + 1) (if msg_bit b i = 1 then xs ++ msg_Bytes.five (N i) else xs)
def msg_Bytes.lst (l : List Int) : Nat → Int → List Int → List Int
  | 0, _, xs => xs
  | m + 1, j, xs => msg_Bytes.lst l m (j + 1) (xs ++ msg_Bytes.four (rd l j))
def msg_Bytes.body (a0 : Int) (N : Int → Int) (l0_8 : List Int) : List Int :=
  if msg_of.lst a0 = true then msg_Bytes.lst l0_8 l0_8.length 0 (msg_Bytes.nums (msg_of.bits a0) N 7 0 [] ++ ([((l0_8.length : Int) / 256) % 256, (l0_8.length : Int) % 256] : List Int)) else msg_Bytes.nums (msg_of.bits a0) N 7 0 []
def msg_Bytes.f (a0_0 a0_1 a0_2 a0_3 a0_4 a0_5 a0_6 a0_7 : Int) (l0_8 : List Int) : Option (List Int × Int) :=
  (msg_wrong.f a0_0 a0_1 a0_2 a0_3 a0_4 a0_5 a0_6 a0_7 l0_8).bind fun t => if t = true then some ([], 150) else frame_Pack.f (a0_0 % 256) (msg_Bytes.body a0_0 (msg_num a0_1 a0_2 a0_3 a0_4 a0_5 a0_6 a0_7) l0_8)
theorem msg_wrong.facts {a0_0 a0_1 a0_2 a0_3 a0_4 a0_5 a0_6 a0_7 : Int} {l0_8 : List Int} (h : msg_wrong.f a0_0 a0_1 a0_2 a0_3 a0_4 a0_5 a0_6 a0_7 l0_8 = some false) : (Lit.int .i64 a0_0).wf = true ∧ (l0_8.length : Int) ≤ 4096 := by
  unfold msg_wrong.f at h
  by_cases h1 : (Lit.int .i64 a0_0).wf = true
  · rw [if_pos h1] at h
    by_cases h2 : msg_of.ok a0_0 = true
    · rw [if_pos h2] at h
      by_cases h3 : (l0_8.length : Int) > 4096
      · rw [if_pos h3] at h; cases h
      · exact ⟨h1, by omega⟩
    · rw [if_neg h2] at h; cases h
  · rw [if_neg h1] at h; cases h
theorem msg_Bytes.cells9 {w : World} {g : Nat} {t : TypeId} {a0 a1 a2 a3 a4 a5 a6 a7 a8 : Value} (h : w.heap[g]? = some (.cells #[a0, a1, a2, a3, a4, a5, a6, a7, a8] t (0, 0))) : w.cell? ⟨g, 0, none⟩ = some a0 ∧ w.cell? ⟨g, 1, none⟩ = some a1 ∧ w.cell? ⟨g, 2, none⟩ = some a2 ∧ w.cell? ⟨g, 3, none⟩ = some a3 ∧ w.cell? ⟨g, 4, none⟩ = some a4 ∧ w.cell? ⟨g, 5, none⟩ = some a5 ∧ w.cell? ⟨g, 6, none⟩ = some a6 ∧ w.cell? ⟨g, 7, none⟩ = some a7 ∧ w.cell? ⟨g, 8, none⟩ = some a8 :=
  ⟨(blk_cell h 0).trans rfl, (blk_cell h 1).trans rfl, (blk_cell h 2).trans rfl, (blk_cell h 3).trans rfl, (blk_cell h 4).trans rfl, (blk_cell h 5).trans rfl, (blk_cell h 6).trans rfl, (blk_cell h 7).trans rfl, (blk_cell h 8).trans rfl⟩
def msg_Bytes.Sq (w W : World) (g1 g3 : Nat) (sa sb : Array Value) (v : Value) (xs : List Int) : Prop := msg_wrong.St w W g1 g3 sa sb ∧ Kd.R (Kd.int .u8) 5 W w.heap.size (fun _ => True) v xs
theorem msg_Bytes.Sq.below {w W W' : World} {g1 g3 : Nat} {sa sb : Array Value} {v : Value} {xs : List Int} (H : msg_Bytes.Sq w W g1 g3 sa sb v xs) (hb : Below W.heap.size W W') : msg_Bytes.Sq w W' g1 g3 sa sb v xs := ⟨H.1.below hb, Kd.R_below H.2 hb⟩
theorem msg_Bytes.Sq.grow {w W W' : World} {g1 g3 : Nat} {sa sb : Array Value} {v v' : Value} {xs xs' : List Int} (H : msg_Bytes.Sq w W g1 g3 sa sb v xs) (hb : Below w.heap.size w W') (hg : W.grownBy W' v.ownBlock) (ho : Kd.R (Kd.int .u8) 5 W' w.heap.size (fun _ => True) v' xs') : msg_Bytes.Sq w W' g1 g3 sa sb v' xs' :=
  ⟨⟨hb, blk_grown H.1.2.1 hg (Kd.R_ne H.2 H.1.2.1 (by decide)), blk_grown H.1.2.2 hg (Kd.R_ne H.2 H.1.2.2 (by decide))⟩, ho⟩
theorem msg_Bytes.Sq.drew {w W : World} {g1 g3 : Nat} {sa sb : Array Value} {v : Value} {xs : List Int} (H : msg_Bytes.Sq w W g1 g3 sa sb v xs) : msg_Bytes.Sq w W.drew g1 g3 sa sb v xs := ⟨⟨b_d H.1.1, k_d H.1.2.1, k_d H.1.2.2⟩, Kd.R_drew H.2⟩
set_option maxHeartbeats 8000000 in
set_option maxRecDepth 100000 in
theorem msg_Bytes.calls (a0_0 a0_1 a0_2 a0_3 a0_4 a0_5 a0_6 a0_7 : Int) (A0_8 : Option Addr) (c0_8 : Nat) (l0_8 : List Int) (r1 : List Int) (r2 : Int) (w : World) (hr0_8 : Kd.C (Kd.int .i32) w A0_8 l0_8.length l0_8) (hc0_8 : l0_8.length ≤ c0_8) (h : msg_Bytes.f a0_0 a0_1 a0_2 a0_3 a0_4 a0_5 a0_6 a0_7 l0_8 = some (r1, r2)) :
    Calls Try.prog 11 #[.agg #[.int .i64 a0_0, .int .i64 a0_1, .int .i64 a0_2, .int .i64 a0_3, .int .i64 a0_4, .int .i64 a0_5, .int .i64 a0_6, .int .i64 a0_7, .slice A0_8 l0_8.length c0_8]] w fun e w' => ∃ v0_ : Value, e = .returned (.tuple #[v0_, .int .i64 r2]) ∧ Kd.R (Kd.int .u8) 5 w' w.heap.size (fun _ => True) v0_ r1 ∧ Below w.heap.size w w' := by
  have hu24 := Try.underlying24
  have hu46 := Try.underlying46
  have hu50 := Try.underlying50
  have HR := Aside0.mk hr0_8
  have HC := Aside0.mk hc0_8
  clear hr0_8 hc0_8
  unfold msg_Bytes.f at h
  obtain ⟨t, h1, h2⟩ := Option.bind_eq_some_iff.1 h
  have HT := Aside0.mk h1
  have HH := Aside0.mk h2
  clear h h1 h2
  cases t with
  | true =>
    have h := HH.out
    clear HH
    simp only [if_true, Option.some.injEq, Prod.mk.injEq] at h
    obtain ⟨rfl, rfl⟩ := h
    go_enter Try.func11, Try.ntmps11
    go_upto_region 1 with (first | ((with_reducible refine gate_dst (N := 1) rfl ?_); refine box_event ?hg (N := 1) ?hd (cs := #[.int .i64 a0_0, .int .i64 a0_1, .int .i64 a0_2, .int .i64 a0_3, .int .i64 a0_4, .int .i64 a0_5, .int .i64 a0_6, .int .i64 a0_7, .slice A0_8 l0_8.length c0_8]) (t := 24) ?hr ?_; (case hd => rfl); (case hg => rfl); (case hr => first | (go_simp; done) | (go_simp; rfl)); intro g1 hg_ wb1 hbox hbb; have HB := Aside0.mk hbb; have K1 := Aside0.mk hbox; have E1 := Aside0.mk (Nat.le_of_eq hg_.symm); clear hg_ hbox hbb))
    obtain ⟨x0, x1, x2, x3, x4, x5, x6, x7, x8⟩ := msg_Bytes.cells9 K1.out
    go_wp2_with (first | (go_at_call 22; (refine (msg_wrong.calls a0_0 a0_1 a0_2 a0_3 a0_4 a0_5 a0_6 a0_7 _ _ l0_8 _ _ (Kd.C_below HR.out HB.out) HC.out HT.out).mono ?_); rintro e wa ⟨rfl, hb⟩; replace HB := Aside0.mk (below_step HB.out hb); replace K1 := Aside0.mk (blk_below K1.out hb); clear hb))
    go_ret2
    exact ⟨_, rfl, Kd.R_nil _ _ _ _ _, HB.out⟩
  | false =>
    have h := HH.out
    clear HH
    rw [if_neg (by simp)] at h
    have HP := Aside0.mk h
    clear h
    have HF := Aside0.mk (msg_wrong.facts HT.out)
    go_enter Try.func11, Try.ntmps11
    go_upto_region 1 with (first | ((with_reducible refine gate_dst (N := 1) rfl ?_); refine box_event ?hg (N := 1) ?hd (cs := #[.int .i64 a0_0, .int .i64 a0_1, .int .i64 a0_2, .int .i64 a0_3, .int .i64 a0_4, .int .i64 a0_5, .int .i64 a0_6, .int .i64 a0_7, .slice A0_8 l0_8.length c0_8]) (t := 24) ?hr ?_; (case hd => rfl); (case hg => rfl); (case hr => first | (go_simp; done) | (go_simp; rfl)); intro g1 hg_ wb1 hbox hbb; have HB := Aside0.mk hbb; have K1 := Aside0.mk hbox; have E1 := Aside0.mk (Nat.le_of_eq hg_.symm); clear hg_ hbox hbb))
    obtain ⟨x0, x1, x2, x3, x4, x5, x6, x7, x8⟩ := msg_Bytes.cells9 K1.out
    go_upto_region 3 with (first | (go_at_call 22; (refine (msg_wrong.calls a0_0 a0_1 a0_2 a0_3 a0_4 a0_5 a0_6 a0_7 _ _ l0_8 _ _ (Kd.C_below HR.out HB.out) HC.out HT.out).mono ?_); rintro e wa ⟨rfl, hb⟩; replace HB := Aside0.mk (below_step HB.out hb); replace K1 := Aside0.mk (blk_below K1.out hb); clear hb))
    clear x0 x1 x2 x3 x4 x5 x6 x7 x8
    obtain ⟨x0, x8, xs_⟩ := msg_wrong.cells K1.out
    clear xs_
    go_upto_region 4 with (first | (go_at_call 23; (refine (msg_of.good a0_0 _ HF.out.1).mono ?_); rintro e wa ⟨rfl, hb⟩; replace HB := Aside0.mk (below_step HB.out hb); replace K1 := Aside0.mk (blk_below K1.out hb); clear hb) | ((with_reducible refine gate_dst (N := 4) rfl ?_); refine box_event ?hg (N := 4) ?hd (cs := #[.int .u8 0, .bool false]) (t := 46) ?hr ?_; (case hd => rfl); (case hg => rfl); (case hr => first | (go_simp; done) | (go_simp; rfl)); intro g3 hg_ wb4 hbox hbb; have ST := Aside0.mk (show msg_wrong.St w ((wb4.setCell ⟨g3, 0, none⟩ (.int .u8 (msg_of.bits a0_0))).setCell ⟨g3, 1, none⟩ (.bool (msg_of.lst a0_0))) g1 g3 #[.int .i64 a0_0, .int .i64 a0_1, .int .i64 a0_2, .int .i64 a0_3, .int .i64 a0_4, .int .i64 a0_5, .int .i64 a0_6, .int .i64 a0_7, .slice A0_8 l0_8.length c0_8] #[.int .u8 (msg_of.bits a0_0), .bool (msg_of.lst a0_0)] from ⟨msg_of.below2 (below_step HB.out hbb) (Nat.le_trans HB.out.size (Nat.le_of_eq hg_.symm)), msg_of.far2 (by have := blk_lt K1.out; omega) (blk_below K1.out hbb), msg_of.put2 hbox⟩); obtain ⟨b1, b2, b3, b4⟩ := msg_of.cell2 hbox; clear hg_ hbox hbb))
    generalize hW_ : ((wb4.setCell ⟨g3, 0, none⟩ (.int .u8 (msg_of.bits a0_0))).setCell ⟨g3, 1, none⟩ (.bool (msg_of.lst a0_0))) = W3 at *
    clear hW_ b1 b2 b3 b4 x0 x8 K1 HB
    go_wp2_with (first | (go_at_call 24; (refine (msg_nums.good g1 _).mono ?_); rintro e wn ⟨rfl, hb⟩; replace ST := Aside0.mk (ST.out.below hb); clear hb))
    have SQ := Aside0.mk (show msg_Bytes.Sq w _ g1 g3 #[.int .i64 a0_0, .int .i64 a0_1, .int .i64 a0_2, .int .i64 a0_3, .int .i64 a0_4, .int .i64 a0_5, .int .i64 a0_6, .int .i64 a0_7, .slice A0_8 l0_8.length c0_8] #[.int .u8 (msg_of.bits a0_0), .bool (msg_of.lst a0_0)] (.slice none 0 0) [] from ⟨ST.out, Kd.R_nil _ _ _ _ _⟩)
    clear ST
    obtain ⟨zs, hzs⟩ : ∃ zs, msg_Bytes.nums (msg_of.bits a0_0) (msg_num a0_1 a0_2 a0_3 a0_4 a0_5 a0_6 a0_7) 7 0 [] = zs := ⟨_, rfl⟩
    have HZS := Aside0.mk hzs
    have HPB := Aside0.mk (show frame_Pack.f (a0_0 % 256) (if msg_of.lst a0_0 = true then msg_Bytes.lst l0_8 l0_8.length 0 (zs ++ ([((l0_8.length : Int) / 256) % 256, (l0_8.length : Int) % 256] : List Int)) else zs) = some (r1, r2) from by rw [← hzs]; exact HP.out)
    clear hzs HP
    go_loopg [6, 20] 7 (fun m v6 v20 W => ∃ (i : Int) (xs : List Int) (Av : Option Addr) (cv : Nat), v20 = .int .i64 i ∧ v6 = .slice Av xs.length cv ∧ 0 ≤ i ∧ Aside0 (i + m = 7) ∧ Aside0 (msg_Bytes.nums (msg_of.bits a0_0) (msg_num a0_1 a0_2 a0_3 a0_4 a0_5 a0_6 a0_7) m i xs = zs) ∧ Aside0 ((xs.length : Int) ≤ 5 * i) ∧ Aside0 (msg_Bytes.Sq w W g1 g3 #[.int .i64 a0_0, .int .i64 a0_1, .int .i64 a0_2, .int .i64 a0_3, .int .i64 a0_4, .int .i64 a0_5, .int .i64 a0_6, .int .i64 a0_7, .slice A0_8 l0_8.length c0_8] #[.int .u8 (msg_of.bits a0_0), .bool (msg_of.lst a0_0)] (.slice Av xs.length cv) xs))
    case atStart => exact ⟨0, [], none, 0, rfl, rfl, by omega, ⟨by omega⟩, HZS, ⟨by simp⟩, SQ⟩
    case round =>
      clear HZS SQ
      obtain ⟨i, xs, Av, cv, rfl, rfl, hi0, HI, HX, HLN, SQ⟩ := hrel
      cases gk with
      | zero =>
        have q : decide (i < 7) = false := decide_eq_false (by have := HI.out; omega)
        have hr : xs = zs := HX.out
        subst hr
        obtain ⟨y0, y1, _, _⟩ := msg_of.cell2 SQ.out.1.2.2
        obtain ⟨x0, x8, xs_⟩ := msg_wrong.cells SQ.out.1.2.1
        clear xs_
        have h := HPB.out
        clear HPB
        by_cases c5 : msg_of.lst a0_0 = true
        · rw [if_pos c5] at h
          have HPC := Aside0.mk h
          clear h
          go_upto_region 13 with (first | ((with_reducible refine gate_dst (N := 70) rfl ?_); refine Kd.R_lit (Kd.int .u8) _ 5 ?hg (N := 70) ?hd (xs := ([((l0_8.length : Int) / 256) % 256, (l0_8.length : Int) % 256] : List Int)) (inner := [.int .u8 (((l0_8.length : Int) / 256) % 256), .int .u8 ((l0_8.length : Int) % 256)]) (ok := fun _ => True) (okp := fun _ => True) ?hr ?hp (fun _ hk => hk) trivial (Below.refl _ _) (Nat.le_refl _) (by simp) ?_; (case hd => rfl); (case hg => rfl); (case hr => first | (go_simp; done) | (go_simp; rfl)); (case hp => exact (Reps.one (show Kd.M (Kd.int .u8) _ _ _ (((l0_8.length : Int) / 256) % 256) [.int .u8 (((l0_8.length : Int) / 256) % 256)] from rfl) (Reps.one (show Kd.M (Kd.int .u8) _ _ _ ((l0_8.length : Int) % 256) [.int .u8 ((l0_8.length : Int) % 256)] from rfl) (Reps.none _ _)))); intro vl wl hol hbl hg_ hnew_; clear hg_ hnew_; have SQ2 := Aside0.mk (SQ.out.below hbl); have HL := Aside0.mk hol; clear hol hbl; obtain ⟨Al, cl, el⟩ := Kd.R_slice HL.out; subst el) | ((with_reducible refine gate_builtin (b := .append) (xs := #[.tmp 60, .tmp 70]) rfl ?_); at_builtin; refine Kd.R_append_rows (Kd.int .u8) (w0 := w) w.heap.size rfl (.tmp 60) (.tmp 70) 29 5 (.int .u8 0) 1 rfl Try.underlying29 info5 rfl (by decide) (by omega) (.slice Av xs.length cv) xs ([((l0_8.length : Int) / 256) % 256, (l0_8.length : Int) % 256] : List Int) _ _ _ (fun _ => True) (fun _ => False) rfl rfl ?aO ?aR (fun _ _ h => h) (fun _ h => h.elim) ?aF ?aB ?aS ?aL ?_; (case aR => exact (Kd.R_reads' HL.out).2.2); (case aB => exact SQ2.out.1.1); (case aF => exact (fun _ _ => trivial)); (case aO => exact SQ2.out.2); (case aS => exact below_size SQ2.out.1.1); (case aL => have := HLN.out; have := HI.out; (try simp only [List.length_cons, List.length_nil]); omega); intro vn wn ho hb hg hat; have SQ3 := Aside0.mk (SQ2.out.grow hb hg ho); clear ho hb hg hat HL SQ2; obtain ⟨Au, cu, eu⟩ := Kd.R_slice SQ3.out.2; subst eu))
          replace SQ := SQ3
          clear SQ3
          replace HLN := Aside0.mk (show ((xs ++ ([((l0_8.length : Int) / 256) % 256, (l0_8.length : Int) % 256] : List Int)).length : Int) ≤ 37 from by rw [List.length_append]; simp only [List.length_cons, List.length_nil]; have := HLN.out; have := HI.out; omega)
          obtain ⟨us, hus⟩ : ∃ us, xs ++ ([((l0_8.length : Int) / 256) % 256, (l0_8.length : Int) % 256] : List Int) = us := ⟨_, rfl⟩
          rw [hus] at SQ HPC HLN
          have HUL := Aside0.mk (show us.length = xs.length + 2 from by rw [← hus]; simp)
          clear hus y0 y1 x0 x8
          obtain ⟨x0, x8, xs_⟩ := msg_wrong.cells SQ.out.1.2.1
          clear xs_
          go_wp2
          clear x0 x8
          obtain ⟨ts, hts⟩ : ∃ ts, msg_Bytes.lst l0_8 l0_8.length 0 us = ts := ⟨_, rfl⟩
          have HTS := Aside0.mk hts
          rw [hts] at HPC
          clear hts
          go_loopg [6, 75] l0_8.length (fun m v6 v75 W => ∃ (j : Int) (xs : List Int) (Av : Option Addr) (cv : Nat), v75 = .int .i64 j ∧ v6 = .slice Av xs.length cv ∧ 0 ≤ j ∧ Aside0 (j + m = l0_8.length) ∧ Aside0 (msg_Bytes.lst l0_8 m j xs = ts) ∧ Aside0 ((xs.length : Int) ≤ 37 + 4 * j) ∧ Aside0 (msg_Bytes.Sq w W g1 g3 #[.int .i64 a0_0, .int .i64 a0_1, .int .i64 a0_2, .int .i64 a0_3, .int .i64 a0_4, .int .i64 a0_5, .int .i64 a0_6, .int .i64 a0_7, .slice A0_8 l0_8.length c0_8] #[.int .u8 (msg_of.bits a0_0), .bool (msg_of.lst a0_0)] (.slice Av xs.length cv) xs))
          case atStart => exact ⟨0, us, Au, cu, rfl, by rw [HUL.out], by omega, ⟨by omega⟩, HTS, ⟨by have := HLN.out; omega⟩, SQ⟩
          case round =>
            clear HTS SQ HLN
            obtain ⟨j, xs, Av, cv, rfl, rfl, hj0, HJ, HX, HLN, SQ⟩ := hrel
            cases gk with
            | zero =>
              have q : decide (j < (l0_8.length : Int)) = false := decide_eq_false (by have := HJ.out; omega)
              have hr : xs = ts := HX.out
              subst hr
              have HPF := HPC
              obtain ⟨x0, x8, xs_⟩ := msg_wrong.cells SQ.out.1.2.1
              clear xs_
              go_wp2_with (first | (go_at_call 25; (refine (frame_Pack.calls (a0_0 % 256) _ _ _ _ _ _ (Kd.R_reads' SQ.out.2).2.2 (Kd.R_reads' SQ.out.2).2.1 HPF.out).mono ?_); rintro e wp ⟨vp, rfl, hop, hbp⟩; have FIN := Aside0.mk (And.intro (Kd.R_lower hop (below_size SQ.out.1.1)) (below_step SQ.out.1.1 hbp)); clear hop hbp))
              go_ret2
              exact ⟨_, rfl, FIN.out.1, FIN.out.2⟩
            | succ m =>
              have q : decide (j < (l0_8.length : Int)) = true := decide_eq_true (by have := HJ.out; omega)
              have p3 : decide (0 ≤ j) = true := decide_eq_true hj0
              have p7 : (j < (l0_8.length : Int)) = True := eq_true (of_decide_eq_true q)
              have p8 : (0 ≤ j) = True := eq_true hj0
              obtain ⟨ad, eA, hx⟩ := Kd.at_int (Kd.C_below HR.out SQ.out.1.1) j hj0 (of_decide_eq_true q)
              subst eA
              obtain ⟨y, hY⟩ : ∃ y, rd l0_8 j = y := ⟨_, rfl⟩
              rw [hY] at hx
              have hX := HX.out
              unfold msg_Bytes.lst at hX
              rw [hY] at hX
              have HX2 := Aside0.mk hX
              have HFL := Aside0.mk (show (l0_8.length : Int) ≤ 4096 from HF.out.2)
              replace HLN := Aside0.mk (show (xs.length : Int) ≤ 37 + 4 * j ∧ j < (l0_8.length : Int) ∧ (l0_8.length : Int) ≤ 4096 from ⟨HLN.out, of_decide_eq_true q, HFL.out⟩)
              clear hY hX HX
              have hw : IntKind.i64.wrap (j + 1) = j + 1 := by rw [i64_w]; have := HLN.out; unfold wrap64; omega
              go_wp2_with (first | ((with_reducible refine gate_dst (N := 91) rfl ?_); refine Kd.R_lit (Kd.int .u8) _ 5 ?hg (N := 91) ?hd (xs := ([(y / 16777216) % 256, (y / 65536) % 256, (y / 256) % 256, y % 256] : List Int)) (inner := [.int .u8 ((y / 16777216) % 256), .int .u8 ((y / 65536) % 256), .int .u8 ((y / 256) % 256), .int .u8 (y % 256)]) (ok := fun _ => True) (okp := fun _ => True) ?hr ?hp (fun _ hk => hk) trivial (Below.refl _ _) (Nat.le_refl _) (by simp) ?_; (case hd => rfl); (case hg => rfl); (case hr => first | (go_simp; done) | (go_simp; rfl)); (case hp => exact (Reps.one (show Kd.M (Kd.int .u8) _ _ _ ((y / 16777216) % 256) [.int .u8 ((y / 16777216) % 256)] from rfl) (Reps.one (show Kd.M (Kd.int .u8) _ _ _ ((y / 65536) % 256) [.int .u8 ((y / 65536) % 256)] from rfl) (Reps.one (show Kd.M (Kd.int .u8) _ _ _ ((y / 256) % 256) [.int .u8 ((y / 256) % 256)] from rfl) (Reps.one (show Kd.M (Kd.int .u8) _ _ _ (y % 256) [.int .u8 (y % 256)] from rfl) (Reps.none _ _)))))); intro vl wl hol hbl hg_ hnew_; clear hg_ hnew_; have SQ2 := Aside0.mk (SQ.out.below hbl); have HL := Aside0.mk hol; clear hol hbl; obtain ⟨Al, cl, el⟩ := Kd.R_slice HL.out; subst el) | ((with_reducible refine gate_builtin (b := .append) (xs := #[.tmp 79, .tmp 91]) rfl ?_); at_builtin; refine Kd.R_append_rows (Kd.int .u8) (w0 := w) w.heap.size rfl (.tmp 79) (.tmp 91) 29 5 (.int .u8 0) 1 rfl Try.underlying29 info5 rfl (by decide) (by omega) (.slice Av xs.length cv) xs ([(y / 16777216) % 256, (y / 65536) % 256, (y / 256) % 256, y % 256] : List Int) _ _ _ (fun _ => True) (fun _ => False) rfl rfl ?aO ?aR (fun _ _ h => h) (fun _ h => h.elim) ?aF ?aB ?aS ?aL ?_; (case aR => exact (Kd.R_reads' HL.out).2.2); (case aB => exact SQ2.out.1.1); (case aF => exact (fun _ _ => trivial)); (case aO => exact SQ2.out.2); (case aS => exact below_size SQ2.out.1.1); (case aL => have := HLN.out; have := HI.out; (try simp only [List.length_cons, List.length_nil]); omega); intro vn wn ho hb hg hat; have SQ3 := Aside0.mk (SQ2.out.grow hb hg ho); clear ho hb hg hat HL SQ2; obtain ⟨Au, cu, eu⟩ := Kd.R_slice SQ3.out.2; subst eu))
              go_roundg m
              case measure => omega
              case rel => exact ⟨j + 1, xs ++ ([(y / 16777216) % 256, (y / 65536) % 256, (y / 256) % 256, y % 256] : List Int), Au, cu, by first | rfl | rw [hw], by first | rfl | simp, by omega, ⟨by have := HJ.out; omega⟩, HX2, ⟨by rw [List.length_append]; simp only [List.length_cons, List.length_nil]; have := HLN.out; omega⟩, SQ3⟩
        · rw [if_neg c5] at h
          have c6 : msg_of.lst a0_0 = false := by simpa using c5
          have HPF := Aside0.mk h
          clear h c5
          go_wp2_with (first | (go_at_call 25; (refine (frame_Pack.calls (a0_0 % 256) _ _ _ _ _ _ (Kd.R_reads' SQ.out.2).2.2 (Kd.R_reads' SQ.out.2).2.1 HPF.out).mono ?_); rintro e wp ⟨vp, rfl, hop, hbp⟩; have FIN := Aside0.mk (And.intro (Kd.R_lower hop (below_size SQ.out.1.1)) (below_step SQ.out.1.1 hbp)); clear hop hbp))
          go_ret2
          exact ⟨_, rfl, FIN.out.1, FIN.out.2⟩
      | succ m =>
        have q : decide (i < 7) = true := decide_eq_true (by have := HI.out; omega)
        have hX := HX.out
        unfold msg_Bytes.nums at hX
        have hix := msg_wrong.index g1 i hi0 (of_decide_eq_true q)
        obtain ⟨y0, y1, _, _⟩ := msg_of.cell2 SQ.out.1.2.2
        obtain ⟨x, hxx⟩ : ∃ x, (msg_num a0_1 a0_2 a0_3 a0_4 a0_5 a0_6 a0_7) i = x := ⟨_, rfl⟩
        rw [hxx] at hX
        have HXX := Aside0.mk hxx
        have hw : IntKind.i64.wrap (i + 1) = i + 1 := by rw [i64_w]; have := HI.out; unfold wrap64; omega
        clear HX hxx
        obtain ⟨t, hbt⟩ : ∃ t, Go.bits .and .u8 (msg_of.bits a0_0 / 2 ^ min i.toNat 8) 1 = t := ⟨_, rfl⟩
        rw [show msg_bit (msg_of.bits a0_0) i = t from hbt] at hX
        have HX := Aside0.mk hX
        clear hX
        by_cases d4 : t = 1
        · have e4 : decide (t = 1) = true := decide_eq_true d4
          have hX := HX.out
          rw [if_pos d4] at hX
          replace HX := Aside0.mk hX
          clear hX
          subst d4
          have HQ := Aside0.mk (of_decide_eq_true q)
          go_upto_region 9 with (fail)
          clear y0 y1
          refine start_ (n := 28) (S := fun W_ => W_.cell? ⟨g1, (i + 1).toNat, none⟩ = some (.int .i64 x) ∧ True) (ds := []) #[false, false, false, false, false, false, false, false, false, false, false, false, false, false, false, false, false, false, false, false, false, false, false, false, false, false, false, false] (by kernel_rfl) rfl rfl (by have hc := (msg_wrong.cells SQ.out.drew.1.2.1).2.2 i hi0 HQ.out; rw [HXX.out] at hc; exact ⟨hc, trivial⟩) (fun hHeld => ?_); refine with_tabW msg_Bytes.tab9 msg_Bytes.bits9 (fun HT_ HW_ => ?_)
          replace SQ := Aside0.mk SQ.out.drew
          revert SQ hHeld
          generalize World.drew _ = wv
          intro hHeld SQ
          refine pure_ (i := 0) (N := some 30) (v := ?_) (a' := ?_) #[true, false, false, false, false, false, false, false, false, false, false, false, false, false, false, false, false, false, false, false, false, false, false, false, false, false, false, false] rfl rfl (any_of HT_.out (by kernel_rfl)) (fun _ _ _ h => h) (Or.inl ⟨by rfl, ?_⟩) ?_ ?_
          rotate_left
          ·
            intro w'
            go_simp
            with_reducible rfl
          rotate_left
          ·
            simp only [Act.put, l_1, l_2, l_3, i64_w, i32_w]
            rfl
          refine pure_ (i := 1) (N := some 31) (v := ?_) (a' := ?_) #[true, true, false, false, false, false, false, false, false, false, false, false, false, false, false, false, false, false, false, false, false, false, false, false, false, false, false, false] rfl rfl (any_of HT_.out (by kernel_rfl)) (fun _ _ _ h => h) (Or.inl ⟨by rfl, ?_⟩) ?_ ?_
          rotate_left
          ·
            intro w'
            go_simp
            with_reducible rfl
          rotate_left
          ·
            simp only [Act.put, l_1, l_2, l_3, i64_w, i32_w]
            rfl
          refine pure_ (i := 2) (N := some 32) (v := ?_) (a' := ?_) #[true, true, true, false, false, false, false, false, false, false, false, false, false, false, false, false, false, false, false, false, false, false, false, false, false, false, false, false] rfl rfl (any_of HT_.out (by kernel_rfl)) (fun _ _ _ h => h) (Or.inl ⟨by rfl, ?_⟩) ?_ ?_
          rotate_left
          ·
            intro w'
            go_simp
            with_reducible rfl
          rotate_left
          ·
            simp only [Act.put, l_1, l_2, l_3, i64_w, i32_w]
            rfl
          refine take_ (i := 3) (N := some 33) (v := ?_) (a' := ?_) #[true, true, true, true, false, false, false, false, false, false, false, false, false, false, false, false, false, false, false, false, false, false, false, false, false, false, false, false] rfl rfl (take_ofW HT_.out HW_.out (by kernel_rfl)) (fun _ _ _ h => h) (Or.inl ⟨by rfl, ?_⟩) hHeld ?_ ?_
          rotate_left
          ·
            rintro w' ⟨s0, s1⟩
            go_simp
            with_reducible rfl
          rotate_left
          ·
            simp only [Act.put, l_1, l_2, l_3, i64_w, i32_w]
            rfl
          refine pure_ (i := 4) (N := some 34) (v := ?_) (a' := ?_) #[true, true, true, true, true, false, false, false, false, false, false, false, false, false, false, false, false, false, false, false, false, false, false, false, false, false, false, false] rfl rfl (any_of HT_.out (by kernel_rfl)) (fun _ _ _ h => h) (Or.inl ⟨by rfl, ?_⟩) ?_ ?_
          rotate_left
          ·
            intro w'
            go_simp
            with_reducible rfl
          rotate_left
          ·
            simp only [Act.put, l_1, l_2, l_3, i64_w, i32_w]
            rfl
          refine pure_ (i := 5) (N := some 35) (v := ?_) (a' := ?_) #[true, true, true, true, true, true, false, false, false, false, false, false, false, false, false, false, false, false, false, false, false, false, false, false, false, false, false, false] rfl rfl (any_of HT_.out (by kernel_rfl)) (fun _ _ _ h => h) (Or.inl ⟨by rfl, ?_⟩) ?_ ?_
          rotate_left
          ·
            intro w'
            go_simp
            with_reducible rfl
          rotate_left
          ·
            simp only [Act.put, l_1, l_2, l_3, i64_w, i32_w]
            rfl
          refine pure_ (i := 6) (N := some 36) (v := ?_) (a' := ?_) #[true, true, true, true, true, true, true, false, false, false, false, false, false, false, false, false, false, false, false, false, false, false, false, false, false, false, false, false] rfl rfl (any_of HT_.out (by kernel_rfl)) (fun _ _ _ h => h) (Or.inl ⟨by rfl, ?_⟩) ?_ ?_
          rotate_left
          ·
            intro w'
            go_simp
            with_reducible rfl
          rotate_left
          ·
            simp only [Act.put, l_1, l_2, l_3, i64_w, i32_w]
            rfl
          refine pure_ (i := 7) (N := some 37) (v := ?_) (a' := ?_) #[true, true, true, true, true, true, true, true, false, false, false, false, false, false, false, false, false, false, false, false, false, false, false, false, false, false, false, false] rfl rfl (any_of HT_.out (by kernel_rfl)) (fun _ _ _ h => h) (Or.inl ⟨by rfl, ?_⟩) ?_ ?_
          rotate_left
          ·
            intro w'
            go_simp
            with_reducible rfl
          rotate_left
          ·
            simp only [Act.put, l_1, l_2, l_3, i64_w, i32_w]
            rfl
          refine take_ (i := 8) (N := some 38) (v := ?_) (a' := ?_) #[true, true, true, true, true, true, true, true, true, false, false, false, false, false, false, false, false, false, false, false, false, false, false, false, false, false, false, false] rfl rfl (take_ofW HT_.out HW_.out (by kernel_rfl)) (fun _ _ _ h => h) (Or.inl ⟨by rfl, ?_⟩) hHeld ?_ ?_
          rotate_left
          ·
            rintro w' ⟨s0, s1⟩
            go_simp
            with_reducible rfl
          rotate_left
          ·
            simp only [Act.put, l_1, l_2, l_3, i64_w, i32_w]
            rfl
          refine pure_ (i := 9) (N := some 39) (v := ?_) (a' := ?_) #[true, true, true, true, true, true, true, true, true, true, false, false, false, false, false, false, false, false, false, false, false, false, false, false, false, false, false, false] rfl rfl (any_of HT_.out (by kernel_rfl)) (fun _ _ _ h => h) (Or.inl ⟨by rfl, ?_⟩) ?_ ?_
          rotate_left
          ·
            intro w'
            go_simp
            with_reducible rfl
          rotate_left
          ·
            simp only [Act.put, l_1, l_2, l_3, i64_w, i32_w]
            rfl
          refine pure_ (i := 10) (N := some 40) (v := ?_) (a' := ?_) #[true, true, true, true, true, true, true, true, true, true, true, false, false, false, false, false, false, false, false, false, false, false, false, false, false, false, false, false] rfl rfl (any_of HT_.out (by kernel_rfl)) (fun _ _ _ h => h) (Or.inl ⟨by rfl, ?_⟩) ?_ ?_
          rotate_left
          ·
            intro w'
            go_simp
            with_reducible rfl
          rotate_left
          ·
            simp only [Act.put, l_1, l_2, l_3, i64_w, i32_w]
            rfl
          refine pure_ (i := 11) (N := some 41) (v := ?_) (a' := ?_) #[true, true, true, true, true, true, true, true, true, true, true, true, false, false, false, false, false, false, false, false, false, false, false, false, false, false, false, false] rfl rfl (any_of HT_.out (by kernel_rfl)) (fun _ _ _ h => h) (Or.inl ⟨by rfl, ?_⟩) ?_ ?_
          rotate_left
          ·
            intro w'
            go_simp
            with_reducible rfl
          rotate_left
          ·
            simp only [Act.put, l_1, l_2, l_3, i64_w, i32_w]
            rfl
          refine pure_ (i := 12) (N := some 42) (v := ?_) (a' := ?_) #[true, true, true, true, true, true, true, true, true, true, true, true, true, false, false, false, false, false, false, false, false, false, false, false, false, false, false, false] rfl rfl (any_of HT_.out (by kernel_rfl)) (fun _ _ _ h => h) (Or.inl ⟨by rfl, ?_⟩) ?_ ?_
          rotate_left
          ·
            intro w'
            go_simp
            with_reducible rfl
          rotate_left
          ·
            simp only [Act.put, l_1, l_2, l_3, i64_w, i32_w]
            rfl
          refine take_ (i := 13) (N := some 43) (v := ?_) (a' := ?_) #[true, true, true, true, true, true, true, true, true, true, true, true, true, true, false, false, false, false, false, false, false, false, false, false, false, false, false, false] rfl rfl (take_ofW HT_.out HW_.out (by kernel_rfl)) (fun _ _ _ h => h) (Or.inl ⟨by rfl, ?_⟩) hHeld ?_ ?_
          rotate_left
          ·
            rintro w' ⟨s0, s1⟩
            go_simp
            with_reducible rfl
          rotate_left
          ·
            simp only [Act.put, l_1, l_2, l_3, i64_w, i32_w]
            rfl
          refine pure_ (i := 14) (N := some 44) (v := ?_) (a' := ?_) #[true, true, true, true, true, true, true, true, true, true, true, true, true, true, true, false, false, false, false, false, false, false, false, false, false, false, false, false] rfl rfl (any_of HT_.out (by kernel_rfl)) (fun _ _ _ h => h) (Or.inl ⟨by rfl, ?_⟩) ?_ ?_
          rotate_left
          ·
            intro w'
            go_simp
            with_reducible rfl
          rotate_left
          ·
            simp only [Act.put, l_1, l_2, l_3, i64_w, i32_w]
            rfl
          refine pure_ (i := 15) (N := some 45) (v := ?_) (a' := ?_) #[true, true, true, true, true, true, true, true, true, true, true, true, true, true, true, true, false, false, false, false, false, false, false, false, false, false, false, false] rfl rfl (any_of HT_.out (by kernel_rfl)) (fun _ _ _ h => h) (Or.inl ⟨by rfl, ?_⟩) ?_ ?_
          rotate_left
          ·
            intro w'
            go_simp
            with_reducible rfl
          rotate_left
          ·
            simp only [Act.put, l_1, l_2, l_3, i64_w, i32_w]
            rfl
          refine pure_ (i := 16) (N := some 46) (v := ?_) (a' := ?_) #[true, true, true, true, true, true, true, true, true, true, true, true, true, true, true, true, true, false, false, false, false, false, false, false, false, false, false, false] rfl rfl (any_of HT_.out (by kernel_rfl)) (fun _ _ _ h => h) (Or.inl ⟨by rfl, ?_⟩) ?_ ?_
          rotate_left
          ·
            intro w'
            go_simp
            with_reducible rfl
          rotate_left
          ·
            simp only [Act.put, l_1, l_2, l_3, i64_w, i32_w]
            rfl
          refine pure_ (i := 17) (N := some 47) (v := ?_) (a' := ?_) #[true, true, true, true, true, true, true, true, true, true, true, true, true, true, true, true, true, true, false, false, false, false, false, false, false, false, false, false] rfl rfl (any_of HT_.out (by kernel_rfl)) (fun _ _ _ h => h) (Or.inl ⟨by rfl, ?_⟩) ?_ ?_
          rotate_left
          ·
            intro w'
            go_simp
            with_reducible rfl
          rotate_left
          ·
            simp only [Act.put, l_1, l_2, l_3, i64_w, i32_w]
            rfl
          refine take_ (i := 18) (N := some 48) (v := ?_) (a' := ?_) #[true, true, true, true, true, true, true, true, true, true, true, true, true, true, true, true, true, true, true, false, false, false, false, false, false, false, false, false] rfl rfl (take_ofW HT_.out HW_.out (by kernel_rfl)) (fun _ _ _ h => h) (Or.inl ⟨by rfl, ?_⟩) hHeld ?_ ?_
          rotate_left
          ·
            rintro w' ⟨s0, s1⟩
            go_simp
            with_reducible rfl
          rotate_left
          ·
            simp only [Act.put, l_1, l_2, l_3, i64_w, i32_w]
            rfl
          refine pure_ (i := 19) (N := some 49) (v := ?_) (a' := ?_) #[true, true, true, true, true, true, true, true, true, true, true, true, true, true, true, true, true, true, true, true, false, false, false, false, false, false, false, false] rfl rfl (any_of HT_.out (by kernel_rfl)) (fun _ _ _ h => h) (Or.inl ⟨by rfl, ?_⟩) ?_ ?_
          rotate_left
          ·
            intro w'
            go_simp
            with_reducible rfl
          rotate_left
          ·
            simp only [Act.put, l_1, l_2, l_3, i64_w, i32_w]
            rfl
          refine pure_ (i := 20) (N := some 50) (v := ?_) (a' := ?_) #[true, true, true, true, true, true, true, true, true, true, true, true, true, true, true, true, true, true, true, true, true, false, false, false, false, false, false, false] rfl rfl (any_of HT_.out (by kernel_rfl)) (fun _ _ _ h => h) (Or.inl ⟨by rfl, ?_⟩) ?_ ?_
          rotate_left
          ·
            intro w'
            go_simp
            with_reducible rfl
          rotate_left
          ·
            simp only [Act.put, l_1, l_2, l_3, i64_w, i32_w]
            rfl
          refine pure_ (i := 21) (N := some 51) (v := ?_) (a' := ?_) #[true, true, true, true, true, true, true, true, true, true, true, true, true, true, true, true, true, true, true, true, true, true, false, false, false, false, false, false] rfl rfl (any_of HT_.out (by kernel_rfl)) (fun _ _ _ h => h) (Or.inl ⟨by rfl, ?_⟩) ?_ ?_
          rotate_left
          ·
            intro w'
            go_simp
            with_reducible rfl
          rotate_left
          ·
            simp only [Act.put, l_1, l_2, l_3, i64_w, i32_w]
            rfl
          refine pure_ (i := 22) (N := some 52) (v := ?_) (a' := ?_) #[true, true, true, true, true, true, true, true, true, true, true, true, true, true, true, true, true, true, true, true, true, true, true, false, false, false, false, false] rfl rfl (any_of HT_.out (by kernel_rfl)) (fun _ _ _ h => h) (Or.inl ⟨by rfl, ?_⟩) ?_ ?_
          rotate_left
          ·
            intro w'
            go_simp
            with_reducible rfl
          rotate_left
          ·
            simp only [Act.put, l_1, l_2, l_3, i64_w, i32_w]
            rfl
          refine take_ (i := 23) (N := some 53) (v := ?_) (a' := ?_) #[true, true, true, true, true, true, true, true, true, true, true, true, true, true, true, true, true, true, true, true, true, true, true, true, false, false, false, false] rfl rfl (take_ofW HT_.out HW_.out (by kernel_rfl)) (fun _ _ _ h => h) (Or.inl ⟨by rfl, ?_⟩) hHeld ?_ ?_
          rotate_left
          ·
            rintro w' ⟨s0, s1⟩
            go_simp
            with_reducible rfl
          rotate_left
          ·
            simp only [Act.put, l_1, l_2, l_3, i64_w, i32_w]
            rfl
          refine pure_ (i := 24) (N := some 54) (v := ?_) (a' := ?_) #[true, true, true, true, true, true, true, true, true, true, true, true, true, true, true, true, true, true, true, true, true, true, true, true, true, false, false, false] rfl rfl (any_of HT_.out (by kernel_rfl)) (fun _ _ _ h => h) (Or.inl ⟨by rfl, ?_⟩) ?_ ?_
          rotate_left
          ·
            intro w'
            go_simp
            with_reducible rfl
          rotate_left
          ·
            simp only [Act.put, l_1, l_2, l_3, i64_w, i32_w]
            rfl
          refine one_ (i := 25) (N := some 55) #[true, true, true, true, true, true, true, true, true, true, true, true, true, true, true, true, true, true, true, true, true, true, true, true, true, true, false, false] rfl rfl (one_of HT_.out (by kernel_rfl)) (by decide) (fun K hK => ?_)
          refine Kd.R_lit_step (Kd.int .u8) _ 5 ?hg (N := 55) ?hd (xs := ([(x / 4294967296) % 256, (x / 16777216) % 256, (x / 65536) % 256, (x / 256) % 256, x % 256] : List Int)) (inner := [.int .u8 ((x / 4294967296) % 256), .int .u8 ((x / 16777216) % 256), .int .u8 ((x / 65536) % 256), .int .u8 ((x / 256) % 256), .int .u8 (x % 256)]) (ok := fun _ => True) (okp := fun _ => True) ?hr ?hp (fun _ hk => hk) trivial (Below.refl _ _) (Nat.le_refl _) (by simp) ?_; (case hd => rfl); (case hg => rfl); (case hr => first | (go_simp; done) | (go_simp; rfl)); (case hp => exact (Reps.one (show Kd.M (Kd.int .u8) _ _ _ ((x / 4294967296) % 256) [.int .u8 ((x / 4294967296) % 256)] from rfl) (Reps.one (show Kd.M (Kd.int .u8) _ _ _ ((x / 16777216) % 256) [.int .u8 ((x / 16777216) % 256)] from rfl) (Reps.one (show Kd.M (Kd.int .u8) _ _ _ ((x / 65536) % 256) [.int .u8 ((x / 65536) % 256)] from rfl) (Reps.one (show Kd.M (Kd.int .u8) _ _ _ ((x / 256) % 256) [.int .u8 ((x / 256) % 256)] from rfl) (Reps.one (show Kd.M (Kd.int .u8) _ _ _ (x % 256) [.int .u8 (x % 256)] from rfl) (Reps.none _ _))))))); intro vl wl hol hbl hg_ hnew_; clear hg_ hnew_; have SQ2 := Aside0.mk (SQ.out.below hbl); have HL := Aside0.mk hol; clear hol hbl; obtain ⟨Al, cl, el⟩ := Kd.R_slice HL.out; subst el
          refine hK.out _ _ (by have hc := (msg_wrong.cells SQ2.out.1.2.1).2.2 i hi0 HQ.out; rw [HXX.out] at hc; exact ⟨hc, trivial⟩) (fun hHeld => ?_)
          clear hK K
          refine norm_ (a' := ?_) ?_ ?_
          rotate_left
          ·
            show Act.put _ (some 55) _ = _
            simp only [Act.put, l_1, l_2, l_3, i64_w, i32_w]
            rfl
          refine one_ (i := 26) (N := some 56) #[true, true, true, true, true, true, true, true, true, true, true, true, true, true, true, true, true, true, true, true, true, true, true, true, true, true, true, false] rfl rfl (one_of HT_.out (by kernel_rfl)) (by decide) (fun K hK => ?_)
          refine Kd.R_append_rows_step (Kd.int .u8) (w0 := w) w.heap.size (by rfl) (.tmp 30) (.tmp 55) 29 5 (.int .u8 0) 1 rfl Try.underlying29 info5 rfl (by decide) (by omega) (.slice Av xs.length cv) xs ([(x / 4294967296) % 256, (x / 16777216) % 256, (x / 65536) % 256, (x / 256) % 256, x % 256] : List Int) _ _ _ (fun _ => True) (fun _ => False) rfl rfl ?aO ?aR (fun _ _ h => h) (fun _ h => h.elim) ?aF ?aB ?aS ?aL ?_; (case aR => exact (Kd.R_reads' HL.out).2.2); (case aB => exact SQ2.out.1.1); (case aF => exact (fun _ _ => trivial)); (case aO => exact SQ2.out.2); (case aS => exact below_size SQ2.out.1.1); (case aL => have := HLN.out; have := HI.out; (try simp only [List.length_cons, List.length_nil]); omega); intro vn wn ho hb hg hat; have SQ3 := Aside0.mk (SQ2.out.grow hb hg ho); clear ho hb hg hat HL SQ2; obtain ⟨Au, cu, eu⟩ := Kd.R_slice SQ3.out.2; subst eu
          refine hK.out _ _ (by have hc := (msg_wrong.cells SQ3.out.1.2.1).2.2 i hi0 HQ.out; rw [HXX.out] at hc; exact ⟨hc, trivial⟩) (fun hHeld => ?_)
          clear hK K
          refine norm_ (a' := ?_) ?_ ?_
          rotate_left
          ·
            show Act.put _ (some 56) _ = _
            simp only [Act.put, l_1, l_2, l_3, i64_w, i32_w]
            rfl
          refine pure_ (i := 27) (N := some 6) (v := ?_) (a' := ?_) #[true, true, true, true, true, true, true, true, true, true, true, true, true, true, true, true, true, true, true, true, true, true, true, true, true, true, true, true] rfl rfl (any_of HT_.out (by kernel_rfl)) (fun _ _ _ h => h) (Or.inl ⟨by rfl, ?_⟩) ?_ ?_
          rotate_left
          ·
            intro w'
            go_simp
            with_reducible rfl
          rotate_left
          ·
            simp only [Act.put, l_1, l_2, l_3, i64_w, i32_w]
            rfl
          refine done_ (done_of HT_.out (by kernel_rfl)) ?_
          clear hHeld HT_ HW_
          go_wp2
          go_roundg m
          case measure => omega
          case rel => exact ⟨i + 1, xs ++ ([(x / 4294967296) % 256, (x / 16777216) % 256, (x / 65536) % 256, (x / 256) % 256, x % 256] : List Int), Au, cu, by first | rfl | rw [hw], by first | rfl | simp, by omega, ⟨by have := HI.out; omega⟩, HX, ⟨by rw [List.length_append]; simp only [List.length_cons, List.length_nil]; have := HLN.out; omega⟩, SQ3⟩
        · have e4 : decide (t = 1) = false := decide_eq_false d4
          have e4' : (t == 1) = false := beq_eq_false_iff_ne.2 d4
          have hX := HX.out
          rw [if_neg d4] at hX
          replace HX := Aside0.mk hX
          clear hX d4
          go_wp2
          go_roundg m
          case measure => omega
          case rel => exact ⟨i + 1, xs, Av, cv, by first | rfl | rw [hw], rfl, by omega, ⟨by have := HI.out; omega⟩, HX, ⟨by have := HLN.out; omega⟩, SQ⟩
/-! ### pelotonref14_four: function 32 -/
def pelotonref14_four.f (a0 : Int) : Option (List Int) := some (([((Int.tdiv a0 16777216) % 4294967296) % 256, ((Int.tdiv a0 65536) % 4294967296) % 256, ((Int.tdiv a0 256) % 4294967296) % 256, (a0) % 256] : List Int))
set_option maxHeartbeats 60000000 in
set_option maxRecDepth 100000 in
theorem pelotonref14_four.calls (a0 : Int) (r : List Int) (w : World) (h : pelotonref14_four.f a0 = some r) :
  Calls Try.prog 32 #[.int .u32 a0] w fun e w' => ∃ v0_ : Value, e = .returned (v0_) ∧ Kd.R (Kd.int .u8) 5 w' w.heap.size (fun _ => True) v0_ r ∧ Below w.heap.size w w' := by
 have HB := Aside0.mk (Below.refl w.heap.size w)
 have H : (some (([((Int.tdiv a0 16777216) % 4294967296) % 256, ((Int.tdiv a0 65536) % 4294967296) % 256, ((Int.tdiv a0 256) % 4294967296) % 256, (a0) % 256] : List Int))) = some r := h
 clear h
 obtain ⟨y108, hy108⟩ : ∃ y_ : List Int, y_ = (([((Int.tdiv a0 16777216) % 4294967296) % 256, ((Int.tdiv a0 65536) % 4294967296) % 256, ((Int.tdiv a0 256) % 4294967296) % 256, (a0) % 256] : List Int)) := ⟨_, rfl⟩
 replace H : (some y108) = some r := by first | (rw [hy108]; with_reducible exact H) | (have H2_ := (Option.bind_some _ _).symm.trans H; rw [hy108]; with_reducible exact H2_) | (have H2_ := (Option.bind_some _ _).symm.trans H; with_reducible exact H2_) | with_reducible exact H | (rw [hy108]; exact H) | exact H
 have Ny108 := Aside0.mk hy108
 clear hy108
 obtain rfl := Option.some.inj H
 go_enter Try.func32, Try.ntmps32
 go_wp2_with (first | ((with_reducible refine gate_dst (N := 14) rfl ?_); refine Kd.R_lit (Kd.int .u8) _ 5 ?hg (N := 14) ?hd (xs := ([((Int.tdiv a0 16777216) % 4294967296) % 256, ((Int.tdiv a0 65536) % 4294967296) % 256, ((Int.tdiv a0 256) % 4294967296) % 256, (a0) % 256] : List Int)) (inner := [.int .u8 (((Int.tdiv a0 16777216) % 4294967296) % 256), .int .u8 (((Int.tdiv a0 65536) % 4294967296) % 256), .int .u8 (((Int.tdiv a0 256) % 4294967296) % 256), .int .u8 ((a0) % 256)]) (ok := fun _ => True) (okp := fun _ => True) ?hr ?hp (fun _ hk => hk) trivial (Below.refl _ _) (Nat.le_refl _) (by simp) ?_; (case hd => rfl); (case hg => rfl); (case hr => first | (go_simp; done) | (go_simp; rfl)); (case hp => exact (Reps.one (show Kd.M (Kd.int .u8) _ _ _ (((Int.tdiv a0 16777216) % 4294967296) % 256) [.int .u8 (((Int.tdiv a0 16777216) % 4294967296) % 256)] from rfl) (Reps.one (show Kd.M (Kd.int .u8) _ _ _ (((Int.tdiv a0 65536) % 4294967296) % 256) [.int .u8 (((Int.tdiv a0 65536) % 4294967296) % 256)] from rfl) (Reps.one (show Kd.M (Kd.int .u8) _ _ _ (((Int.tdiv a0 256) % 4294967296) % 256) [.int .u8 (((Int.tdiv a0 256) % 4294967296) % 256)] from rfl) (Reps.one (show Kd.M (Kd.int .u8) _ _ _ ((a0) % 256) [.int .u8 ((a0) % 256)] from rfl) (Reps.none _ _)))))); intro v109 w2 ho3 hb hg_ hnew_; clear hg_ hnew_; (first | rw [← Ny108.out] at ho3 | (simp only [Int.reduceToNat] at ho3; rw [← Ny108.out] at ho3)); have HO110 := Aside0.mk (Kd.R_lower ho3 (below_size (bw_ HB))); replace HB := Aside0.mk (below_step (bw_ HB) hb); clear hb ho3))
 go_ret
 exact ⟨_, by first | rfl | (simp [errW_none, errW_some] <;> rfl) | (simp [*, errW_none, errW_some] <;> rfl), by (with_reducible repeat (first | apply Kd.R_alloc | apply Kd.R_drewN | apply Kd.R_drew)); exact HO110.out, by repeat (first | (with_reducible first | exact HB.out | apply b_a | apply b_n | apply b_d) | exact HB.out)⟩

/-! ### pelotonref07_Sum: function 33 -/
mutual
def pelotonref07_Sum.l0 : Nat → List Int → Int → Int → Option (Int)
 | 0, _, _, _ => none
 | k + 1, x0, x3, x4 => if x4 < (x0.length : Int) then (if 0 ≤ x4 then (pelotonref07_Sum.l1 k x0 (Go.bits .xor .u32 x3 ((rd x0 x4) % 4294967296)) x4 0) else (none)) else (some (Go.bits .xor .u32 x3 4294967295))
def pelotonref07_Sum.l1 : Nat → List Int → Int → Int → Int → Option (Int)
 | 0, _, _, _, _ => none
 | k + 1, x0, x3, x4, x5 => if x5 < 8 then (if (Int.tmod x3 2) = 1 then (pelotonref07_Sum.l1 k x0 (Go.bits .xor .u32 ((Int.tdiv x3 2) % 4294967296) 3988292384) x4 (wrap64 (x5 + 1))) else (pelotonref07_Sum.l1 k x0 ((Int.tdiv x3 2) % 4294967296) x4 (wrap64 (x5 + 1)))) else (pelotonref07_Sum.l0 k x0 x3 (wrap64 (x4 + 1)))
end
def pelotonref07_Sum.f (k : Nat) (l0 : List Int) : Option (Int) := pelotonref07_Sum.l0 k l0 4294967295 0
theorem pelotonref07_Sum.mono_l : ∀ k, (∀ y0 y1 y2, LeO (pelotonref07_Sum.l0 k y0 y1 y2) (pelotonref07_Sum.l0 (k + 1) y0 y1 y2)) ∧ (∀ y0 y1 y2 y3, LeO (pelotonref07_Sum.l1 k y0 y1 y2 y3) (pelotonref07_Sum.l1 (k + 1) y0 y1 y2 y3))
 | 0 => ⟨fun _ _ _ r h => by simp [pelotonref07_Sum.l0] at h, fun _ _ _ _ r h => by simp [pelotonref07_Sum.l1] at h⟩
 | k + 1 => by
  obtain ⟨ih0, ih1⟩ := pelotonref07_Sum.mono_l k
  refine ⟨?_, ?_⟩
  ·
   intro y0 y1 y2
   unfold pelotonref07_Sum.l0
   repeat' first
   | (with_reducible exact ih0 _ _ _)
   | (with_reducible exact ih1 _ _ _ _)
   | (with_reducible exact LeO.refl _)
   | (with_reducible exact LeO.none _)
   | (with_reducible refine LeO.ite ?_ ?_)
   | (with_reducible refine LeO.bind ?_ (fun _ => ?_))
   | exact ih0 _ _ _
   | exact ih1 _ _ _ _
   | exact LeO.none _
   | refine LeO.ite ?_ ?_
   | refine LeO.bind ?_ (fun _ => ?_)
  ·
   intro y0 y1 y2 y3
   unfold pelotonref07_Sum.l1
   repeat' first
   | (with_reducible exact ih0 _ _ _)
   | (with_reducible exact ih1 _ _ _ _)
   | (with_reducible exact LeO.refl _)
   | (with_reducible exact LeO.none _)
   | (with_reducible refine LeO.ite ?_ ?_)
   | (with_reducible refine LeO.bind ?_ (fun _ => ?_))
   | exact ih0 _ _ _
   | exact ih1 _ _ _ _
   | exact LeO.none _
   | refine LeO.ite ?_ ?_
   | refine LeO.bind ?_ (fun _ => ?_)
theorem pelotonref07_Sum.mono : ∀ a0 k, LeO (pelotonref07_Sum.f k a0) (pelotonref07_Sum.f (k + 1) a0) := by
 intro a0 k
 obtain ⟨ih0, ih1⟩ := pelotonref07_Sum.mono_l k
 unfold pelotonref07_Sum.f
 repeat' first
   | (with_reducible exact ih0 _ _ _)
   | (with_reducible exact ih1 _ _ _ _)
   | (with_reducible exact LeO.refl _)
   | (with_reducible exact LeO.none _)
   | (with_reducible refine LeO.ite ?_ ?_)
   | (with_reducible refine LeO.bind ?_ (fun _ => ?_))
   | exact ih0 _ _ _
   | exact ih1 _ _ _ _
   | exact LeO.none _
   | refine LeO.ite ?_ ?_
   | refine LeO.bind ?_ (fun _ => ?_)
set_option maxHeartbeats 60000000 in
set_option maxRecDepth 100000 in
theorem pelotonref07_Sum.calls (k : Nat) (A0 : Option Addr) (c0 : Nat) (l0 : List Int) (r : Int) (w : World) (hr0 : Kd.C (Kd.int .u8) w A0 l0.length l0) (hc0 : l0.length ≤ c0) (h : pelotonref07_Sum.f k l0 = some r) :
  Calls Try.prog 33 #[.slice A0 l0.length c0] w fun e w' => e = .returned (.int .u32 r) ∧ Drawn0 w w' := by
 have HR0 := Aside0.mk hr0
 have HC0 := Aside0.mk hc0
 clear hr0 hc0
 have H : (pelotonref07_Sum.l0 k l0 4294967295 0) = some r := h
 clear h
 have H' := Aside0.mk H
 clear H
 go_enter Try.func33, Try.ntmps33
 go_wp2
 go_loopg [3, 4] k (fun kq v3 v4 w' => ∃ (x3_1 : Int) (x4_1 : Int), v3 = .int .u32 x3_1 ∧ v4 = .int .i64 x4_1 ∧ Aside0 (pelotonref07_Sum.l0 kq l0 x3_1 x4_1 = some r) ∧ Aside0 (kq ≤ k) ∧ Drawn0 w w')
 case atStart => exact ⟨(4294967295), (0), (by first | rfl | (simp; done) | (simp [*]; done)), (by first | rfl | (simp; done) | (simp [*]; done)), H', ⟨Nat.le_refl _⟩, by repeat (first | exact Drawn0.refl _ | apply Drawn0.step)⟩
 case round =>
  clear H'
  obtain ⟨x3_1, x4_1, rfl, rfl, HA, HK1, ⟨m1, rfl⟩⟩ := hrel
  cases gk with
  | zero => exact absurd HA.out (by simp [pelotonref07_Sum.l0])
  | succ k1 =>
   have H := HA.out
   clear HA
   simp only [pelotonref07_Sum.l0] at H
   by_cases c2 : x4_1 < (l0.length : Int)
   rotate_left
   ·
    rw [if_neg c2] at H
    have c2b0 : decide (x4_1 < (l0.length : Int)) = false := decide_eq_false c2
    clear c2
    obtain rfl := Option.some.inj H
    go_wp2
    go_ret
    exact ⟨by first | rfl | (simp; done) | (simp [*]; done), by repeat (first | exact Drawn0.refl _ | apply Drawn0.step)⟩

   rw [if_pos c2] at H
   have c2b0 : decide (x4_1 < (l0.length : Int)) = true := decide_eq_true c2
   clear c2
   by_cases c3 : 0 ≤ x4_1
   rotate_left
   ·
    rw [if_neg c3] at H
    exact absurd H (by simp)
   rw [if_pos c3] at H
   have c3b0 : decide (0 ≤ x4_1) = true := decide_eq_true c3
   clear c3
   have H' := Aside0.mk H
   clear H
   have p111 : 0 ≤ (x4_1 : Int) := of_decide_eq_true (by first | (with_reducible assumption) | assumption)
   have q111 : x4_1 < (l0.length : Int) := of_decide_eq_true (by first | (with_reducible assumption) | assumption)
   obtain ⟨ad111, e111, hx111_0⟩ := Kd.at_int HR0.out x4_1 p111 q111
   cases e111
   replace p111 := eq_true p111
   replace q111 := eq_true q111
   go_wp2
   go_loopg [3, 5] k1 (fun kq v3 v5 w' => ∃ (x3_2 : Int) (x5_2 : Int), v3 = .int .u32 x3_2 ∧ v5 = .int .i64 x5_2 ∧ Aside0 (pelotonref07_Sum.l1 kq l0 x3_2 x4_1 x5_2 = some r) ∧ Aside0 (kq ≤ k1) ∧ Drawn0 w w')
   case atStart => exact ⟨(Go.bits .xor .u32 x3_1 ((rd l0 x4_1) % 4294967296)), (0), (by first | rfl | (simp; done) | (simp [*]; done)), (by first | rfl | (simp; done) | (simp [*]; done)), H', ⟨Nat.le_refl _⟩, by repeat (first | exact Drawn0.refl _ | apply Drawn0.step)⟩
   case round =>
    clear H'
    try clear p1
    try clear q1
    try clear hx1
    try clear c2
    try clear c2b0
    try clear p2
    try clear c3
    try clear c3b0
    try clear hx111_0
    try clear p111
    try clear q111
    obtain ⟨x3_2, x5_2, rfl, rfl, HA, HK2, ⟨m2, rfl⟩⟩ := hrel
    cases gk with
    | zero => exact absurd HA.out (by simp [pelotonref07_Sum.l1])
    | succ k2 =>
     have H := HA.out
     clear HA
     simp only [pelotonref07_Sum.l1] at H
     by_cases c4 : x5_2 < 8
     rotate_left
     ·
      rw [if_neg c4] at H
      have c4b0 : decide (x5_2 < 8) = false := decide_eq_false c4
      clear c4
      have H' := Aside0.mk H
      clear H
      go_wp2
      go_roundg k2
      case measure => have := HK1.out; have := HK2.out; omega
      case rel => exact ⟨(x3_2), (wrap64 (x4_1 + 1)), (by first | rfl | (simp; done) | (simp [*]; done)), (by first | rfl | (simp; done) | (simp [*]; done)), H', ⟨by have := HK1.out; have := HK2.out; omega⟩, by repeat (first | exact Drawn0.refl _ | apply Drawn0.step)⟩
     rw [if_pos c4] at H
     have c4b0 : decide (x5_2 < 8) = true := decide_eq_true c4
     clear c4
     by_cases c5 : (Int.tmod x3_2 2) = 1
     rotate_left
     ·
      rw [if_neg c5] at H
      have c5b0 : ((Int.tmod x3_2 2) == 1) = false := beq_eq_false_iff_ne.mpr c5
      have c5b1 : ((Int.tmod x3_2 2) != 1) = true := bne_iff_ne.mpr c5
      have H' := Aside0.mk H
      clear H
      go_wp2
      go_roundg k2
      case measure => have := HK1.out; have := HK2.out; omega
      case rel => exact ⟨((Int.tdiv x3_2 2) % 4294967296), (wrap64 (x5_2 + 1)), (by first | rfl | (simp; done) | (simp [*]; done)), (by first | rfl | (simp; done) | (simp [*]; done)), H', ⟨by have := HK1.out; have := HK2.out; omega⟩, by repeat (first | exact Drawn0.refl _ | apply Drawn0.step)⟩
     rw [if_pos c5] at H
     have c5b0 : ((Int.tmod x3_2 2) == 1) = true := beq_iff_eq.mpr c5
     have c5b1 : ((Int.tmod x3_2 2) != 1) = false := bne_eq_false_iff_eq.mpr c5
     clear c5
     have H' := Aside0.mk H
     clear H
     go_wp2
     go_roundg k2
     case measure => have := HK1.out; have := HK2.out; omega
     case rel => exact ⟨(Go.bits .xor .u32 ((Int.tdiv x3_2 2) % 4294967296) 3988292384), (wrap64 (x5_2 + 1)), (by first | rfl | (simp; done) | (simp [*]; done)), (by first | rfl | (simp; done) | (simp [*]; done)), H', ⟨by have := HK1.out; have := HK2.out; omega⟩, by repeat (first | exact Drawn0.refl _ | apply Drawn0.step)⟩
/-! ### pelotonref14_Pack: function 18 -/
def pelotonref14_Pack.f (k : Nat) (a0 : Int) (l1 : List Int) : Option (List Int) := (some (([80, 76, 1, a0] : List Int) : List Int)).bind fun y112 => ((pelotonref14_four.f (((l1.length : Int)) % 4294967296)).bind fun t115 => (if y112.length + t115.length < 140737488355328 then ((some (y112 ++ t115 : List Int)).bind fun y118 => (if y118.length + l1.length < 140737488355328 then ((some (y118 ++ l1 : List Int)).bind fun y121 => ((pelotonref07_Sum.f k y121).bind fun t124 => ((pelotonref14_four.f t124).bind fun t125 => (if y121.length + t125.length < 140737488355328 then (some (y121 ++ t125)) else (none))))) else (none))) else (none)))
theorem pelotonref14_Pack.mono : ∀ a0 a1 k, LeO (pelotonref14_Pack.f k a0 a1) (pelotonref14_Pack.f (k + 1) a0 a1) := by
 intro a0 a1 k
 unfold pelotonref14_Pack.f
 repeat' first
   | (with_reducible exact pelotonref07_Sum.mono _ _)
   | (with_reducible exact LeO.refl _)
   | (with_reducible exact LeO.none _)
   | (with_reducible refine LeO.ite ?_ ?_)
   | (with_reducible refine LeO.bind ?_ (fun _ => ?_))
   | exact pelotonref07_Sum.mono _ _
   | exact LeO.none _
   | refine LeO.ite ?_ ?_
   | refine LeO.bind ?_ (fun _ => ?_)
set_option maxHeartbeats 60000000 in
set_option maxRecDepth 100000 in
theorem pelotonref14_Pack.calls (k : Nat) (a0 : Int) (A1 : Option Addr) (c1 : Nat) (l1 : List Int) (r : List Int) (w : World) (hr1 : Kd.C (Kd.int .u8) w A1 l1.length l1) (hc1 : l1.length ≤ c1) (h : pelotonref14_Pack.f k a0 l1 = some r) :
  Calls Try.prog 18 #[.int .u8 a0, .slice A1 l1.length c1] w fun e w' => ∃ v0_ : Value, e = .returned (v0_) ∧ Kd.R (Kd.int .u8) 5 w' w.heap.size (fun _ => True) v0_ r ∧ Below w.heap.size w w' := by
 have HR1 := Aside0.mk hr1
 have HC1 := Aside0.mk hc1
 clear hr1 hc1
 have HB := Aside0.mk (Below.refl w.heap.size w)
 have H : ((some (([80, 76, 1, a0] : List Int) : List Int)).bind fun y112 => ((pelotonref14_four.f (((l1.length : Int)) % 4294967296)).bind fun t115 => (if y112.length + t115.length < 140737488355328 then ((some (y112 ++ t115 : List Int)).bind fun y118 => (if y118.length + l1.length < 140737488355328 then ((some (y118 ++ l1 : List Int)).bind fun y121 => ((pelotonref07_Sum.f k y121).bind fun t124 => ((pelotonref14_four.f t124).bind fun t125 => (if y121.length + t125.length < 140737488355328 then (some (y121 ++ t125)) else (none))))) else (none))) else (none)))) = some r := h
 clear h
 obtain ⟨y112, hy112⟩ : ∃ y_ : List Int, y_ = (([80, 76, 1, a0] : List Int)) := ⟨_, rfl⟩
 replace H : ((pelotonref14_four.f (((l1.length : Int)) % 4294967296)).bind fun t115 => (if y112.length + t115.length < 140737488355328 then ((some (y112 ++ t115 : List Int)).bind fun y118 => (if y118.length + l1.length < 140737488355328 then ((some (y118 ++ l1 : List Int)).bind fun y121 => ((pelotonref07_Sum.f k y121).bind fun t124 => ((pelotonref14_four.f t124).bind fun t125 => (if y121.length + t125.length < 140737488355328 then (some (y121 ++ t125)) else (none))))) else (none))) else (none))) = some r := by first | (rw [hy112]; with_reducible exact H) | (have H2_ := (Option.bind_some _ _).symm.trans H; rw [hy112]; with_reducible exact H2_) | (have H2_ := (Option.bind_some _ _).symm.trans H; with_reducible exact H2_) | with_reducible exact H | (rw [hy112]; exact H) | exact H
 have Ny112 := Aside0.mk hy112
 clear hy112
 replace H := Option.bind_eq_some_iff.mp H
 obtain ⟨t115, A30, H⟩ := H
 replace H : (if y112.length + t115.length < 140737488355328 then ((some (y112 ++ t115 : List Int)).bind fun y118 => (if y118.length + l1.length < 140737488355328 then ((some (y118 ++ l1 : List Int)).bind fun y121 => ((pelotonref07_Sum.f k y121).bind fun t124 => ((pelotonref14_four.f t124).bind fun t125 => (if y121.length + t125.length < 140737488355328 then (some (y121 ++ t125)) else (none))))) else (none))) else (none)) = some r := H
 have A3 := Aside0.mk A30
 clear A30
 by_cases c4 : y112.length + t115.length < 140737488355328
 rotate_left
 ·
  rw [if_neg c4] at H
  exact absurd H (by simp)

 rw [if_pos c4] at H
 have LMc4 := Aside0.mk c4
 clear c4
 obtain ⟨y118, hy118⟩ : ∃ y_ : List Int, y_ = (y112 ++ t115) := ⟨_, rfl⟩
 replace H : (if y118.length + l1.length < 140737488355328 then ((some (y118 ++ l1 : List Int)).bind fun y121 => ((pelotonref07_Sum.f k y121).bind fun t124 => ((pelotonref14_four.f t124).bind fun t125 => (if y121.length + t125.length < 140737488355328 then (some (y121 ++ t125)) else (none))))) else (none)) = some r := by first | (rw [hy118]; with_reducible exact H) | (have H2_ := (Option.bind_some _ _).symm.trans H; rw [hy118]; with_reducible exact H2_) | (have H2_ := (Option.bind_some _ _).symm.trans H; with_reducible exact H2_) | with_reducible exact H | (rw [hy118]; exact H) | exact H
 have Ny118 := Aside0.mk hy118
 clear hy118
 by_cases c5 : y118.length + l1.length < 140737488355328
 rotate_left
 ·
  rw [if_neg c5] at H
  exact absurd H (by simp)
 rw [if_pos c5] at H
 have LMc5 := Aside0.mk c5
 clear c5
 obtain ⟨y121, hy121⟩ : ∃ y_ : List Int, y_ = (y118 ++ l1) := ⟨_, rfl⟩
 replace H : ((pelotonref07_Sum.f k y121).bind fun t124 => ((pelotonref14_four.f t124).bind fun t125 => (if y121.length + t125.length < 140737488355328 then (some (y121 ++ t125)) else (none)))) = some r := by first | (rw [hy121]; with_reducible exact H) | (have H2_ := (Option.bind_some _ _).symm.trans H; rw [hy121]; with_reducible exact H2_) | (have H2_ := (Option.bind_some _ _).symm.trans H; with_reducible exact H2_) | with_reducible exact H | (rw [hy121]; exact H) | exact H
 have Ny121 := Aside0.mk hy121
 clear hy121
 replace H := Option.bind_eq_some_iff.mp H
 obtain ⟨t124, A60, H⟩ := H
 replace H : ((pelotonref14_four.f t124).bind fun t125 => (if y121.length + t125.length < 140737488355328 then (some (y121 ++ t125)) else (none))) = some r := H
 have A6 := Aside0.mk A60
 clear A60
 replace H := Option.bind_eq_some_iff.mp H
 obtain ⟨t125, A70, H⟩ := H
 replace H : (if y121.length + t125.length < 140737488355328 then (some (y121 ++ t125)) else (none)) = some r := H
 have A7 := Aside0.mk A70
 clear A70
 by_cases c8 : y121.length + t125.length < 140737488355328
 rotate_left
 ·
  rw [if_neg c8] at H
  exact absurd H (by simp)
 rw [if_pos c8] at H
 have LMc8 := Aside0.mk c8
 clear c8
 obtain ⟨y128, hy128⟩ : ∃ y_ : List Int, y_ = (y121 ++ t125) := ⟨_, rfl⟩
 replace H : (some y128) = some r := by first | (rw [hy128]; with_reducible exact H) | (have H2_ := (Option.bind_some _ _).symm.trans H; rw [hy128]; with_reducible exact H2_) | (have H2_ := (Option.bind_some _ _).symm.trans H; with_reducible exact H2_) | with_reducible exact H | (rw [hy128]; exact H) | exact H
 have Ny128 := Aside0.mk hy128
 clear hy128
 obtain rfl := Option.some.inj H
 go_enter Try.func18, Try.ntmps18
 go_wp2_with (first | ((with_reducible refine gate_dst (N := 7) rfl ?_); refine Kd.R_lit (Kd.int .u8) _ 5 ?hg (N := 7) ?hd (xs := ([80, 76, 1, a0] : List Int)) (inner := [.int .u8 80, .int .u8 76, .int .u8 1, .int .u8 a0]) (ok := fun _ => True) (okp := fun _ => True) ?hr ?hp (fun _ hk => hk) trivial (Below.refl _ _) (Nat.le_refl _) (by simp) ?_; (case hd => rfl); (case hg => rfl); (case hr => first | (go_simp; done) | (go_simp; rfl)); (case hp => exact (Reps.one (show Kd.M (Kd.int .u8) _ _ _ 80 [.int .u8 80] from rfl) (Reps.one (show Kd.M (Kd.int .u8) _ _ _ 76 [.int .u8 76] from rfl) (Reps.one (show Kd.M (Kd.int .u8) _ _ _ 1 [.int .u8 1] from rfl) (Reps.one (show Kd.M (Kd.int .u8) _ _ _ a0 [.int .u8 a0] from rfl) (Reps.none _ _)))))); intro v113 w9 ho10 hb hg_ hnew_; clear hg_ hnew_; (first | rw [← Ny112.out] at ho10 | (simp only [Int.reduceToNat] at ho10; rw [← Ny112.out] at ho10)); have HO114 := Aside0.mk (Kd.R_lower ho10 (below_size (bw_ HB))); replace HB := Aside0.mk (below_step (bw_ HB) hb); clear hb ho10) | ((with_reducible refine gate_callee (f := 32) rfl ?_); refine goesL_ (some 11) rfl rfl Try.func32 (by kernel_rfl) rfl #[.int .u32 (((l1.length : Int)) % 4294967296)] rfl (by (try simp only [l_4, l_5, l_6]); first | done | rfl | (simp only [l_7, l_8]; rfl)) ?_; (with_reducible refine (pelotonref14_four.calls (((l1.length : Int)) % 4294967296) t115 _ A3.out).mono ?_); rintro e w11 ⟨v116, rfl, ho0, hb⟩; (try clear A3); refine ⟨_, rfl, ?_⟩; have HO117 := Aside0.mk (Kd.R_lower (Kd.R_new' ho0 (Kd.R_lt (tR_ HO114))) (below_size (bw_ HB))); replace HO114 := Aside0.mk (Kd.R_elder' (tR_ HO114) (Kd.R_base ho0) hb); replace HB := Aside0.mk (below_step (bw_ HB) hb); (try clear hb); (try clear hb2); (try clear hk); (try clear hi); (try clear ho0); obtain ⟨Ao13, co13, eo13⟩ := Kd.R_slice HO117.out; subst eo13) | ((with_reducible refine gate_builtin (b := .append) (xs := #[.tmp 7, .tmp 11]) rfl ?_); at_builtin; refine Kd.R_append_rows (Kd.int .u8) (w0 := w) w.heap.size rfl (.tmp 7) (.tmp 11) 29 5 (.int .u8 0) 1 rfl Try.underlying29 info5 rfl (by decide) (by omega) v113 y112 t115 _ _ _ (fun k_ => some k_ ≠ (.slice Ao13 t115.length co13 : Value).ownBlock) (fun _ => False) rfl rfl ?aO ?aR (fun _ _ h => h) (fun _ h => h.elim) ?aF ?aB ?aS ?aL ?_; (case aR => repeat (first | exact (Kd.R_reads' HO117.out).2.2 | (with_reducible refine Kd.C_alloc ?_ _) | (with_reducible refine Kd.C_drewN ?_ _) | (with_reducible refine Kd.C_drew ?_))); (case aB => exact (bw_ HB)); (case aF => exact (fun k_ hk => Kd.fresh' (Kd.R_lt (tR_ HO117)) k_ hk)); (case aO => exact (by (with_reducible repeat (first | apply Kd.R_alloc | apply Kd.R_drewN | apply Kd.R_drew)); exact Kd.R_mono HO114.out (fun _ hk => hk.2))); (case aS => exact (below_size (bw_ HB))); (case aL => have := LMc4.out; omega); intro v119 w12 ho hb hg hat; rw [← Ny118.out] at ho; have n0_ := Aside0.mk (Kd.R_after (ok := (fun _ => True)) (tR_ HO117) hg hat); have n1_ := Aside0.mk (hb); have n2_ := Aside0.mk (ho); clear HO117; clear HB; clear HO114; have HO117 := n0_; have HB := n1_; have HO120 := n2_; clear n0_ n1_ n2_; clear ho hb hg hat) | ((with_reducible refine gate_builtin (b := .append) (xs := #[.tmp 13, .tmp 14]) rfl ?_); at_builtin; refine Kd.R_append_rows (Kd.int .u8) (w0 := w) w.heap.size rfl (.tmp 13) (.tmp 14) 29 5 (.int .u8 0) 1 rfl Try.underlying29 info5 rfl (by decide) (by omega) v119 y118 l1 _ _ _ (fun k_ => some k_ ≠ (.slice Ao13 t115.length co13 : Value).ownBlock) (fun _ => False) rfl rfl ?aO ?aR (fun _ _ h => h) (fun _ h => h.elim) ?aF ?aB ?aS ?aL ?_; (case aR => repeat (first | exact (Kd.C_below HR1.out HB.out) | (with_reducible refine Kd.C_alloc ?_ _) | (with_reducible refine Kd.C_drewN ?_ _) | (with_reducible refine Kd.C_drew ?_))); (case aB => exact (bw_ HB)); (case aF => exact (fun k_ hk => Kd.fresh' (Kd.R_lt (tR_ HO117)) k_ hk)); (case aO => exact (tR_ HO120)); (case aS => exact (below_size (bw_ HB))); (case aL => have := LMc5.out; omega); intro v122 w14 ho hb hg hat; rw [← Ny121.out] at ho; have n0_ := Aside0.mk (Kd.R_after (ok := (fun _ => True)) (tR_ HO117) hg hat); have n1_ := Aside0.mk (hb); have n2_ := Aside0.mk (ho); clear HO117; clear HB; clear HO120; have HO117 := n0_; have HB := n1_; have HO123 := n2_; clear n0_ n1_ n2_; clear ho hb hg hat; obtain ⟨Ao15, co15, eo15⟩ := Kd.R_slice HO123.out; subst eo15) | ((with_reducible refine gate_callee (f := 33) rfl ?_); refine goesL_ (some 18) rfl rfl Try.func33 (by kernel_rfl) rfl #[.slice Ao15 y121.length co15] rfl (by (try simp only [l_4, l_5, l_6]); first | done | rfl | (simp only [l_7, l_8]; rfl)) ?_; (with_reducible refine (pelotonref07_Sum.calls k _ _ y121 t124 _ ?side1 ?side2 A6.out).mono ?_); (case side1 => repeat (first | exact (Kd.R_reads' HO123.out).2.2 | (with_reducible refine Kd.C_alloc ?_ _) | (with_reducible refine Kd.C_drewN ?_ _) | (with_reducible refine Kd.C_drew ?_))); (case side2 => exact (Kd.R_reads' HO123.out).2.1); rintro e w' ⟨rfl, ⟨nd, rfl⟩⟩; refine ⟨_, rfl, ?_⟩) | ((with_reducible refine gate_callee (f := 32) rfl ?_); refine goesL_ (some 19) rfl rfl Try.func32 (by kernel_rfl) rfl #[.int .u32 t124] rfl (by (try simp only [l_4, l_5, l_6]); first | done | rfl | (simp only [l_7, l_8]; rfl)) ?_; (with_reducible refine (pelotonref14_four.calls t124 t125 _ A7.out).mono ?_); rintro e w16 ⟨v126, rfl, ho0, hb⟩; (try clear A7); refine ⟨_, rfl, ?_⟩; have HO127 := Aside0.mk (Kd.R_lower (Kd.R_new' (Kd.R_new' ho0 (Kd.R_lt (tR_ HO117))) (Kd.R_lt (tR_ HO123))) (below_size (bw_ HB))); replace HO117 := Aside0.mk (Kd.R_elder' (tR_ HO117) (Kd.R_base ho0) hb); replace HO123 := Aside0.mk (Kd.R_elder' (tR_ HO123) (Kd.R_base ho0) hb); replace HB := Aside0.mk (below_step (bw_ HB) hb); (try clear hb); (try clear hb2); (try clear hk); (try clear hi); (try clear ho0); obtain ⟨Ao18, co18, eo18⟩ := Kd.R_slice HO127.out; subst eo18) | ((with_reducible refine gate_builtin (b := .append) (xs := #[.tmp 16, .tmp 19]) rfl ?_); at_builtin; refine Kd.R_append_rows (Kd.int .u8) (w0 := w) w.heap.size rfl (.tmp 16) (.tmp 19) 29 5 (.int .u8 0) 1 rfl Try.underlying29 info5 rfl (by decide) (by omega) (.slice Ao15 y121.length co15) y121 t125 _ _ _ (fun k_ => some k_ ≠ (.slice Ao13 t115.length co13 : Value).ownBlock ∧ some k_ ≠ (.slice Ao18 t125.length co18 : Value).ownBlock) (fun _ => False) rfl rfl ?aO ?aR (fun _ _ h => h) (fun _ h => h.elim) ?aF ?aB ?aS ?aL ?_; (case aR => repeat (first | exact (Kd.R_reads' HO127.out).2.2 | (with_reducible refine Kd.C_alloc ?_ _) | (with_reducible refine Kd.C_drewN ?_ _) | (with_reducible refine Kd.C_drew ?_))); (case aB => exact (bw_ HB)); (case aF => exact (fun k_ hk => ⟨Kd.fresh' (Kd.R_lt (tR_ HO117)) k_ hk, Kd.fresh' (Kd.R_lt (tR_ HO127)) k_ hk⟩)); (case aO => exact (tR_ HO123)); (case aS => exact (below_size (bw_ HB))); (case aL => have := LMc8.out; omega); intro v129 w17 ho hb hg hat; rw [← Ny128.out] at ho; have n0_ := Aside0.mk (Kd.R_after (ok := (fun k_ => some k_ ≠ (.slice Ao18 t125.length co18 : Value).ownBlock)) (by (with_reducible repeat (first | apply Kd.R_alloc | apply Kd.R_drewN | apply Kd.R_drew)); exact Kd.R_mono HO117.out (fun _ hk => ⟨hk.2, hk.1.2⟩)) hg hat); have n1_ := Aside0.mk (Kd.R_after (ok := (fun k_ => some k_ ≠ (.slice Ao13 t115.length co13 : Value).ownBlock)) (by (with_reducible repeat (first | apply Kd.R_alloc | apply Kd.R_drewN | apply Kd.R_drew)); exact Kd.R_mono HO127.out (fun _ hk => ⟨hk.1.2, hk.2⟩)) hg hat); have n2_ := Aside0.mk (hb); have n3_ := Aside0.mk (ho); clear HO117; clear HO127; clear HB; clear HO123; have HO117 := n0_; have HO127 := n1_; have HB := n2_; have HO130 := n3_; clear n0_ n1_ n2_ n3_; clear ho hb hg hat))
 go_ret
 exact ⟨_, by first | rfl | (simp [errW_none, errW_some] <;> rfl) | (simp [*, errW_none, errW_some] <;> rfl), by (with_reducible repeat (first | apply Kd.R_alloc | apply Kd.R_drewN | apply Kd.R_drew)); exact Kd.R_mono HO130.out (fun _ hk => trivial), by repeat (first | (with_reducible first | exact HB.out | apply b_a | apply b_n | apply b_d) | exact HB.out)⟩
end Go.Proofs.Ytnkphgiodpledaa.QMsgBack
