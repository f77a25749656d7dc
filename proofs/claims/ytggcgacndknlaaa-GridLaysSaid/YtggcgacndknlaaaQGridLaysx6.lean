-- Written by a program of this session (a turned copy of the print) out of the translation. Lean checks it.
import Derived.Test.YtggcgacndknlaaaQGridLaysx0
import Derived.Test.YtggcgacndknlaaaQGridLaysx2
import Derived.Test.YtggcgacndknlaaaQGridLaysx3
namespace Go.Proofs.Ytggcgacndknlaaa.QGridLays
open Go.RowKit Go.Proofs.YtggcgacndknlaaaW.PrintWords Go.Proofs.YtggcgacndknlaaaW.PrintLast Go.Proofs.YtggcgacndknlaaaW.PrintMore
attribute [local go_sem] max2_int min2_int max_two min_two max_three min_three max_four min_four   -- for this text's walks alone
open Go.Proofs.YtggcgacndknlaaaW.PrintWords renaming below_alloc → b_a, pw_below_drewN → b_n, below_drew1 → b_d, below_set → b_s, blk_drewN → k_n, blk_drew → k_d, blk_alloc → k_a
open List renaming setIfInBounds_toArray → l_1, set_cons_zero → l_2, set_cons_succ → l_3, map_toArray → l_4, map_cons → l_5, map_nil → l_6, length_drop → l_7, length_take → l_8
set_option linter.unusedVariables false
set_option linter.unusedSimpArgs false

/-! ### pelotonlaw03_copied: function 23 -/
def pelotonlaw03_copied.l0 : Nat → List (S24) → List (S24) → Int → Option ((List (S24)))
 | 0, _, _, _ => none
 | k + 1, x0, x3, x4 => if x4 < (x0.length : Int) then (if 0 ≤ x4 then ((some (([] : List Int) : List Int)).bind fun y146 => (if y146.length + ((rd_T24 x0 x4).f2).length < 35184372088832 then (if x3.length < 3518437208883 then (pelotonlaw03_copied.l0 k x0 (x3 ++ [(⟨(rd_T24 x0 x4).f0, (rd_T24 x0 x4).f1, (y146 ++ ((rd_T24 x0 x4).f2))⟩ : S24)]) (wrap64 (x4 + 1))) else (none)) else (none))) else (none)) else (some x3)
def pelotonlaw03_copied.f (k : Nat) (l0 : List (S24)) : Option ((List (S24))) := pelotonlaw03_copied.l0 k l0 ([] : List (S24)) 0
theorem pelotonlaw03_copied.mono_l : ∀ k, (∀ y0 y1 y2, LeO (pelotonlaw03_copied.l0 k y0 y1 y2) (pelotonlaw03_copied.l0 (k + 1) y0 y1 y2))
 | 0 => fun _ _ _ r h => by simp [pelotonlaw03_copied.l0] at h
 | k + 1 => by
  have ih0 := pelotonlaw03_copied.mono_l k
  ·
   intro y0 y1 y2
   unfold pelotonlaw03_copied.l0
   repeat' first
   | (with_reducible exact ih0 _ _ _)
   | (with_reducible exact LeO.refl _)
   | (with_reducible exact LeO.none _)
   | (with_reducible refine LeO.ite ?_ ?_)
   | (with_reducible refine LeO.bind ?_ (fun _ => ?_))
   | exact ih0 _ _ _
   | exact LeO.none _
   | refine LeO.ite ?_ ?_
   | refine LeO.bind ?_ (fun _ => ?_)
theorem pelotonlaw03_copied.mono : ∀ a0 k, LeO (pelotonlaw03_copied.f k a0) (pelotonlaw03_copied.f (k + 1) a0) := by
 intro a0 k
 have ih0 := pelotonlaw03_copied.mono_l k
 unfold pelotonlaw03_copied.f
 repeat' first
   | (with_reducible exact ih0 _ _ _)
   | (with_reducible exact LeO.refl _)
   | (with_reducible exact LeO.none _)
   | (with_reducible refine LeO.ite ?_ ?_)
   | (with_reducible refine LeO.bind ?_ (fun _ => ?_))
   | exact ih0 _ _ _
   | exact LeO.none _
   | refine LeO.ite ?_ ?_
   | refine LeO.bind ?_ (fun _ => ?_)
def pelotonlaw03_copied.T5 : Bool × List (List Nat × List Nat) := (true, [([], []), ([], []), ([], []), ([1, 2], [1, 2]), ([3], [3]), ([4], [4]), ([], []), ([], []), ([6, 7], [6, 7]), ([8], [8]), ([9], [9]), ([], []), ([], []), ([], []), ([12, 13], [12, 13]), ([14], [14]), ([15], [15]), ([11, 16], [11, 16]), ([5, 10, 17], [5, 10, 17]), ([18], [18]), ([0, 19, 17], [0, 19]), ([20, 20, 0, 1, 2, 3, 4, 5, 6, 7, 8, 9, 10, 11, 12, 13, 14, 15, 16, 17, 18, 19, 20], [0, 20])])
def pelotonlaw03_copied.B5 : List Nat := [0, 0, 0, 6, 14, 30, 0, 0, 192, 448, 960, 0, 0, 0, 12288, 28672, 61440, 129024, 262142, 524286, 1048575, 2097151]
theorem pelotonlaw03_copied.tab5 : rtab .any (opsOf Try.f23 5) = pelotonlaw03_copied.T5 := by kernel_rfl
theorem pelotonlaw03_copied.bits5 : waitsOk pelotonlaw03_copied.T5.2 pelotonlaw03_copied.B5 = true := by kernel_rfl
set_option maxHeartbeats 60000000 in
set_option maxRecDepth 100000 in
theorem pelotonlaw03_copied.calls (k : Nat) (A0 : Option Addr) (c0 : Nat) (l0 : List (S24)) (r : List (S24)) (w : World) (hr0 : Kd.C k24 w A0 l0.length l0) (hc0 : l0.length ≤ c0) (h : pelotonlaw03_copied.f k l0 = some r) :
  Calls Try.prog 23 #[.slice A0 l0.length c0] w fun e w' => ∃ v0_ : Value, e = .returned (v0_) ∧ Kd.S k24 24 w' w.heap.size (fun _ => True) v0_ r ∧ Below w.heap.size w w' := by
 have hu24 := Try.underlying24
 have HR0 := Aside0.mk hr0
 have HC0 := Aside0.mk hc0
 clear hr0 hc0
 have HB := Aside0.mk (Below.refl w.heap.size w)
 have H : (pelotonlaw03_copied.l0 k l0 ([] : List (S24)) 0) = some r := h
 clear h
 have H' := Aside0.mk H
 clear H
 go_enter Try.func23, Try.ntmps23
 go_wp2
 go_loopg [3, 4] k (fun kq v3 v4 w' => ∃ (x3_1 : List (S24)) (x4_1 : Int), v4 = .int .i64 x4_1 ∧ Aside0 (pelotonlaw03_copied.l0 kq l0 x3_1 x4_1 = some r) ∧ Aside0 (kq ≤ k) ∧ Aside0 (Kd.S k24 24 w' w.heap.size (fun _ => True) v3 x3_1) ∧ Aside0 (Below w.heap.size w w'))
 case atStart => exact ⟨(([] : List (S24))), (0), (by first | rfl | (simp; done) | (simp [*]; done)), H', ⟨Nat.le_refl _⟩, ⟨by first | exact Kd.S_nil _ _ _ _ _ | exact Kd.N_nil _ _ _ _ _ | exact Kd.V_nil _ _ _ _ _ | exact Kd.Q_nil _ _ _ _ _ | exact Kd.R_nil _ _ _ _ _⟩, ⟨by repeat (first | (with_reducible first | exact HB.out | apply b_a | apply b_n | apply b_d) | exact HB.out)⟩⟩
 case round =>
  clear H'
  obtain ⟨x3_1, x4_1, rfl, HA, HK1, HO_3, HB⟩ := hrel
  cases gk with
  | zero => exact absurd HA.out (by simp [pelotonlaw03_copied.l0])
  | succ k1 =>
   have H := HA.out
   clear HA
   simp only [pelotonlaw03_copied.l0] at H
   by_cases c2 : x4_1 < (l0.length : Int)
   rotate_left
   ·
    rw [if_neg c2] at H
    have c2b0 : decide (x4_1 < (l0.length : Int)) = false := decide_eq_false c2
    clear c2
    obtain rfl := Option.some.inj H
    go_wp2
    go_ret
    exact ⟨_, by first | rfl | (simp [errW_none, errW_some] <;> rfl) | (simp [*, errW_none, errW_some] <;> rfl), by (with_reducible repeat (first | apply Kd.S_alloc | apply Kd.S_drewN | apply Kd.S_drew)); exact HO_3.out, by repeat (first | (with_reducible first | exact HB.out | apply b_a | apply b_n | apply b_d) | exact HB.out)⟩

   rw [if_pos c2] at H
   have c2b0 : decide (x4_1 < (l0.length : Int)) = true := decide_eq_true c2
   clear c2
   by_cases c3 : 0 ≤ x4_1
   rotate_left
   ·
    rw [if_neg c3] at H
    exact absurd H (by simp)
   rw [if_pos c3] at H
   have c3b0 : decide (0 ≤ x4_1) = true := decide_eq_true c3
   clear c3
   obtain ⟨y146, hy146⟩ : ∃ y_ : List Int, y_ = (([] : List Int)) := ⟨_, rfl⟩
   replace H : (if y146.length + ((rd_T24 l0 x4_1).f2).length < 35184372088832 then (if x3_1.length < 3518437208883 then (pelotonlaw03_copied.l0 k1 l0 (x3_1 ++ [(⟨(rd_T24 l0 x4_1).f0, (rd_T24 l0 x4_1).f1, (y146 ++ ((rd_T24 l0 x4_1).f2))⟩ : S24)]) (wrap64 (x4_1 + 1))) else (none)) else (none)) = some r := by first | (rw [hy146]; with_reducible exact H) | (have H2_ := (Option.bind_some _ _).symm.trans H; rw [hy146]; with_reducible exact H2_) | (have H2_ := (Option.bind_some _ _).symm.trans H; with_reducible exact H2_) | with_reducible exact H | (rw [hy146]; exact H) | exact H
   have Ny146 := Aside0.mk hy146
   clear hy146
   by_cases c4 : y146.length + ((rd_T24 l0 x4_1).f2).length < 35184372088832
   rotate_left
   ·
    rw [if_neg c4] at H
    exact absurd H (by simp)
   rw [if_pos c4] at H
   have LMc4 := Aside0.mk c4
   clear c4
   obtain ⟨y150, hy150⟩ : ∃ y_ : List Int, y_ = (y146 ++ ((rd_T24 l0 x4_1).f2)) := ⟨_, rfl⟩
   replace H : (if x3_1.length < 3518437208883 then (pelotonlaw03_copied.l0 k1 l0 (x3_1 ++ [(⟨(rd_T24 l0 x4_1).f0, (rd_T24 l0 x4_1).f1, y150⟩ : S24)]) (wrap64 (x4_1 + 1))) else (none)) = some r := by first | (rw [hy150]; with_reducible exact H) | (have H2_ := (Option.bind_some _ _).symm.trans H; rw [hy150]; with_reducible exact H2_) | (have H2_ := (Option.bind_some _ _).symm.trans H; with_reducible exact H2_) | with_reducible exact H | (rw [hy150]; exact H) | exact H
   have Ny150 := Aside0.mk hy150
   clear hy150
   by_cases c5 : x3_1.length < 3518437208883
   rotate_left
   ·
    rw [if_neg c5] at H
    exact absurd H (by simp)
   rw [if_pos c5] at H
   have LMc5 := Aside0.mk c5
   clear c5
   obtain ⟨y153, hy153⟩ : ∃ y_ : List (S24), y_ = (x3_1 ++ [(⟨(rd_T24 l0 x4_1).f0, (rd_T24 l0 x4_1).f1, y150⟩ : S24)]) := ⟨_, rfl⟩
   replace H : (pelotonlaw03_copied.l0 k1 l0 y153 (wrap64 (x4_1 + 1))) = some r := by first | (rw [hy153]; with_reducible exact H) | (have H2_ := (Option.bind_some _ _).symm.trans H; rw [hy153]; with_reducible exact H2_) | (have H2_ := (Option.bind_some _ _).symm.trans H; with_reducible exact H2_) | with_reducible exact H | (rw [hy153]; exact H) | exact H
   have Ny153 := Aside0.mk hy153
   clear hy153
   have H' := Aside0.mk H
   clear H
   try go_wp2
   replace HO_3 := Aside0.mk (Kd.S_drew HO_3.out)
   replace HB := Aside0.mk (b_d HB.out)
   have p144 : 0 ≤ (x4_1 : Int) := of_decide_eq_true (by first | (with_reducible assumption) | assumption)
   have q144 : x4_1 < (l0.length : Int) := of_decide_eq_true (by first | (with_reducible assumption) | assumption)
   obtain ⟨ad144, A144_2, c144_2, e144, hx144_0, hx144_1, hx144_2, hl144_2, hi144_2⟩ := at_T24 HR0.out x4_1 p144 q144
   have hw144_2 := hx144_2
   have hw144_1 := hx144_1
   have hw144_0 := hx144_0
   cases e144
   replace hx144_0 := cb_ HB hx144_0
   replace hx144_1 := cb_ HB hx144_1
   replace hx144_2 := cb_ HB hx144_2
   have HR144_2 := Aside0.mk hi144_2
   have HC144_2 := Aside0.mk hl144_2
   clear hi144_2 hl144_2
   replace p144 := eq_true p144
   replace q144 := eq_true q144
   have p145 : 0 ≤ (x4_1 : Int) := of_decide_eq_true (by first | (with_reducible assumption) | assumption)
   have q145 : x4_1 < (l0.length : Int) := of_decide_eq_true (by first | (with_reducible assumption) | assumption)
   obtain ⟨ad145, A145_2, c145_2, e145, hx145_0, hx145_1, hx145_2, hl145_2, hi145_2⟩ := at_T24 HR0.out x4_1 p145 q145
   have hw145_2 := hx145_2
   have hw145_1 := hx145_1
   have hw145_0 := hx145_0
   obtain rfl : ad144 = ad145 := (by injection e145)
   replace hx145_0 := cb_ HB hx145_0
   replace hx145_1 := cb_ HB hx145_1
   replace hx145_2 := cb_ HB hx145_2
   have HR145_2 := Aside0.mk hi145_2
   have HC145_2 := Aside0.mk hl145_2
   clear hi145_2 hl145_2
   replace p145 := eq_true p145
   replace q145 := eq_true q145
   have ea_ := Option.some.inj (hx144_2.symm.trans hx145_2)
   injection ea_ with ea_ en_ ec_
   subst ea_
   subst ec_
   clear en_
   have p149 : 0 ≤ (x4_1 : Int) := of_decide_eq_true (by first | (with_reducible assumption) | assumption)
   have q149 : x4_1 < (l0.length : Int) := of_decide_eq_true (by first | (with_reducible assumption) | assumption)
   obtain ⟨ad149, A149_2, c149_2, e149, hx149_0, hx149_1, hx149_2, hl149_2, hi149_2⟩ := at_T24 HR0.out x4_1 p149 q149
   have hw149_2 := hx149_2
   have hw149_1 := hx149_1
   have hw149_0 := hx149_0
   obtain rfl : ad144 = ad149 := (by injection e149)
   replace hx149_0 := cb_ HB hx149_0
   replace hx149_1 := cb_ HB hx149_1
   replace hx149_2 := cb_ HB hx149_2
   have HR149_2 := Aside0.mk hi149_2
   have HC149_2 := Aside0.mk hl149_2
   clear hi149_2 hl149_2
   replace p149 := eq_true p149
   replace q149 := eq_true q149
   have ea_ := Option.some.inj (hx144_2.symm.trans hx149_2)
   injection ea_ with ea_ en_ ec_
   subst ea_
   subst ec_
   clear en_
   refine start_ (n := 22) (S := fun w' => w'.cell? (ad144.add ((x4_1).toNat * 3)) = some (.int .i64 ((rd_T24 l0 x4_1).f0)) ∧ w'.cell? ⟨(ad144.add ((x4_1).toNat * 3)).block, (ad144.add ((x4_1).toNat * 3)).off + 1, none⟩ = some (.int .i64 ((rd_T24 l0 x4_1).f1)) ∧ w'.cell? ⟨(ad144.add ((x4_1).toNat * 3)).block, (ad144.add ((x4_1).toNat * 3)).off + 2, none⟩ = some (.slice A144_2 ((rd_T24 l0 x4_1).f2).length c144_2) ∧ w'.cell? (ad144.add ((x4_1).toNat * 3)) = some (.int .i64 ((rd_T24 l0 x4_1).f0)) ∧ w'.cell? ⟨(ad144.add ((x4_1).toNat * 3)).block, (ad144.add ((x4_1).toNat * 3)).off + 1, none⟩ = some (.int .i64 ((rd_T24 l0 x4_1).f1)) ∧ w'.cell? ⟨(ad144.add ((x4_1).toNat * 3)).block, (ad144.add ((x4_1).toNat * 3)).off + 2, none⟩ = some (.slice A144_2 ((rd_T24 l0 x4_1).f2).length c144_2) ∧ w'.cell? (ad144.add ((x4_1).toNat * 3)) = some (.int .i64 ((rd_T24 l0 x4_1).f0)) ∧ w'.cell? ⟨(ad144.add ((x4_1).toNat * 3)).block, (ad144.add ((x4_1).toNat * 3)).off + 1, none⟩ = some (.int .i64 ((rd_T24 l0 x4_1).f1)) ∧ w'.cell? ⟨(ad144.add ((x4_1).toNat * 3)).block, (ad144.add ((x4_1).toNat * 3)).off + 2, none⟩ = some (.slice A144_2 ((rd_T24 l0 x4_1).f2).length c144_2)) (ds := []) #[false, false, false, false, false, false, false, false, false, false, false, false, false, false, false, false, false, false, false, false, false, false] (by kernel_rfl) rfl rfl ⟨(cb_ HB hw144_0), (cb_ HB hw144_1), (cb_ HB hw144_2), (cb_ HB hw145_0), (cb_ HB hw145_1), (cb_ HB hw145_2), (cb_ HB hw149_0), (cb_ HB hw149_1), (cb_ HB hw149_2)⟩ (fun hHeld => ?_); refine with_tabW pelotonlaw03_copied.tab5 pelotonlaw03_copied.bits5 (fun HT_ HW_ => ?_)
   generalize wr.drew = w6 at HO_3 HB HR144_2 HR145_2 HR149_2 hx144_0 hx144_1 hx144_2 hx145_0 hx145_1 hx145_2 hx149_0 hx149_1 hx149_2 hHeld ⊢
   refine pu_ (i := 0) (N := some 11) (bs_ 22 1) rfl rfl HT_ ?_
   refine pu_ (i := 1) (N := some 12) (bs_ 22 3) rfl rfl HT_ ?_
   refine pu_ (i := 2) (N := some 13) (bs_ 22 7) rfl rfl HT_ ?_
   refine pu_ (i := 3) (N := some 14) (bs_ 22 15) rfl rfl HT_ ?_
   refine pu_ (i := 4) (N := some 15) (bs_ 22 31) rfl rfl HT_ ?_
   refine pu_ (i := 6) (N := some 17) (bs_ 22 95) rfl rfl HT_ ?_
   refine pu_ (i := 7) (N := some 18) (bs_ 22 223) rfl rfl HT_ ?_
   refine pu_ (i := 8) (N := some 19) (bs_ 22 479) rfl rfl HT_ ?_
   refine pu_ (i := 9) (N := some 20) (bs_ 22 991) rfl rfl HT_ ?_
   refine pu_ (i := 12) (N := some 23) (bs_ 22 5087) rfl rfl HT_ ?_
   refine pu_ (i := 13) (N := some 24) (bs_ 22 13279) rfl rfl HT_ ?_
   refine pu_ (i := 14) (N := some 25) (bs_ 22 29663) rfl rfl HT_ ?_
   refine pu_ (i := 15) (N := some 26) (bs_ 22 62431) rfl rfl HT_ ?_
   refine take_ (i := 5) (N := some 16) (v := ?_) (a' := ?_) (bs_ 22 62463) rfl rfl (take_ofW HT_.out HW_.out (by kernel_rfl)) (fun _ _ _ h => h) (Or.inl ⟨by rfl, ?_⟩) hHeld ?_ ?_
   rotate_left
   ·
    rintro w' ⟨s0, s1, s2, s3, s4, s5, s6, s7, s8⟩
    go_simp
    with_reducible rfl
   rotate_left
   ·
    simp only [Act.put, l_1, l_2, l_3, i64_w, i32_w]
    rfl
   refine take_ (i := 10) (N := some 21) (v := ?_) (a' := ?_) (bs_ 22 63487) rfl rfl (take_ofW HT_.out HW_.out (by kernel_rfl)) (fun _ _ _ h => h) (Or.inl ⟨by rfl, ?_⟩) hHeld ?_ ?_
   rotate_left
   ·
    rintro w' ⟨s0, s1, s2, s3, s4, s5, s6, s7, s8⟩
    go_simp
    with_reducible rfl
   rotate_left
   ·
    simp only [Act.put, l_1, l_2, l_3, i64_w, i32_w]
    rfl
   refine take_ (i := 16) (N := some 27) (v := ?_) (a' := ?_) (bs_ 22 129023) rfl rfl (take_ofW HT_.out HW_.out (by kernel_rfl)) (fun _ _ _ h => h) (Or.inl ⟨by rfl, ?_⟩) hHeld ?_ ?_
   rotate_left
   ·
    rintro w' ⟨s0, s1, s2, s3, s4, s5, s6, s7, s8⟩
    go_simp
    with_reducible rfl
   rotate_left
   ·
    simp only [Act.put, l_1, l_2, l_3, i64_w, i32_w]
    rfl
   refine one_ (i := 11) (N := some 22) (bs_ 22 131071) rfl rfl (one_of HT_.out (by kernel_rfl)) (by decide) (fun K hK => ?_)
   refine Kd.R_lit_step (Kd.int .i32) _ 21 ?hg (N := 22) ?hd (xs := ([] : List Int)) (inner := []) (ok := fun _ => True) (okp := fun _ => True) ?hr ?hp (fun _ hk => hk) trivial (Below.refl _ _) (Nat.le_refl _) (by simp) ?_; (case hd => rfl); (case hg => rfl); (case hr => first | (go_simp; done) | (go_simp; rfl)); (case hp => exact (Reps.none _ _))
   intro v147 w7 ho8 hb hg_ hnew_
   clear hg_ hnew_
   (first | rw [← Ny146.out] at ho8 | (simp only [Int.reduceToNat] at ho8; rw [← Ny146.out] at ho8))
   have HO148 := Aside0.mk (Kd.R_lower ho8 (below_size (bw_ HB)))
   replace HO_3 := Aside0.mk (Kd.S_elder' (tS_ HO_3) (Kd.R_base ho8) hb)
   replace HB := Aside0.mk (below_step (bw_ HB) hb)
   clear hb ho8
   refine hK.out _ _ ⟨(cb_ HB hw144_0), (cb_ HB hw144_1), (cb_ HB hw144_2), (cb_ HB hw145_0), (cb_ HB hw145_1), (cb_ HB hw145_2), (cb_ HB hw149_0), (cb_ HB hw149_1), (cb_ HB hw149_2)⟩ (fun hHeld => ?_)
   clear hK K
   refine no_ (N := some 22) ?_
   refine one_ (i := 17) (N := some 28) (bs_ 22 262143) rfl rfl (one_of HT_.out (by kernel_rfl)) (by decide) (fun K hK => ?_)
   refine Kd.R_append_rows_step (Kd.int .i32) (w0 := w) w.heap.size (by rfl) (.tmp 22) (.tmp 27) 22 21 (.int .i32 0) 4 rfl Try.underlying22 info21 rfl (by decide) (by omega) v147 y146 ((rd_T24 l0 x4_1).f2) _ _ _ (fun _ => True) (fun _ => False) rfl rfl ?aO ?aR (fun _ _ h => h) (fun _ h => h.elim) ?aF ?aB ?aS ?aL ?_
   (case aR => repeat (first | exact (Kd.C_below HR149_2.out HB.out) | (with_reducible refine Kd.C_alloc ?_ _) | (with_reducible refine Kd.C_drewN ?_ _) | (with_reducible refine Kd.C_drew ?_)))
   (case aB => exact (bw_ HB))
   (case aF => exact (fun _ _ => trivial))
   (case aO => exact (tR_ HO148))
   (case aS => exact (below_size (bw_ HB)))
   (case aL => have := LMc4.out; omega)
   intro v151 w9 ho hb hg hat
   rw [← Ny150.out] at ho
   have n0_ := Aside0.mk (Kd.S_after (ok := (fun _ => True)) (tS_ HO_3) hg hat)
   have n1_ := Aside0.mk (hb)
   have n2_ := Aside0.mk (ho)
   clear HO_3
   clear HB
   clear HO148
   have HO_3 := n0_
   have HB := n1_
   have HO152 := n2_
   clear n0_ n1_ n2_
   clear ho hb hg hat
   obtain ⟨Ao10, co10, eo10⟩ := Kd.R_slice HO152.out
   (first | subst eo10 | (injection eo10 with f1_ f2_ f3_; have f4_ := f1_.symm; have f5_ := f3_.symm; clear f1_ f2_ f3_; subst f4_; subst f5_))
   refine hK.out _ _ ⟨(cb_ HB hw144_0), (cb_ HB hw144_1), (cb_ HB hw144_2), (cb_ HB hw145_0), (cb_ HB hw145_1), (cb_ HB hw145_2), (cb_ HB hw149_0), (cb_ HB hw149_1), (cb_ HB hw149_2)⟩ (fun hHeld => ?_)
   clear hK K
   refine no_ (N := some 28) ?_
   refine pu_ (i := 18) (N := some 29) (bs_ 22 524287) rfl rfl HT_ ?_
   refine one_ (i := 19) (N := some 30) (bs_ 22 1048575) rfl rfl (one_of HT_.out (by kernel_rfl)) (by decide) (fun K hK => ?_)
   refine value_ (w1 := ?_) (v := ?_) (by rfl) rfl ?_ ?_
   rotate_left 2
   ·
    go_simp
    constructor
    ·
     rfl
    ·
     rfl
   refine hK.out _ _ ⟨(World.cell?_alloc_lt _ _ _ (World.block_lt_of_cell? _ _ ((cb_ HB hw144_0)))).trans ((cb_ HB hw144_0)), (World.cell?_alloc_lt _ _ _ (World.block_lt_of_cell? _ _ ((cb_ HB hw144_1)))).trans ((cb_ HB hw144_1)), (World.cell?_alloc_lt _ _ _ (World.block_lt_of_cell? _ _ ((cb_ HB hw144_2)))).trans ((cb_ HB hw144_2)), (World.cell?_alloc_lt _ _ _ (World.block_lt_of_cell? _ _ ((cb_ HB hw145_0)))).trans ((cb_ HB hw145_0)), (World.cell?_alloc_lt _ _ _ (World.block_lt_of_cell? _ _ ((cb_ HB hw145_1)))).trans ((cb_ HB hw145_1)), (World.cell?_alloc_lt _ _ _ (World.block_lt_of_cell? _ _ ((cb_ HB hw145_2)))).trans ((cb_ HB hw145_2)), (World.cell?_alloc_lt _ _ _ (World.block_lt_of_cell? _ _ ((cb_ HB hw149_0)))).trans ((cb_ HB hw149_0)), (World.cell?_alloc_lt _ _ _ (World.block_lt_of_cell? _ _ ((cb_ HB hw149_1)))).trans ((cb_ HB hw149_1)), (World.cell?_alloc_lt _ _ _ (World.block_lt_of_cell? _ _ ((cb_ HB hw149_2)))).trans ((cb_ HB hw149_2))⟩ (fun hHeld => ?_)
   clear hK K
   refine no_ (N := some 30) ?_
   refine one_ (i := 20) (N := some 31) (bs_ 22 2097151) rfl rfl (one_of HT_.out (by kernel_rfl)) (by decide) (fun K hK => ?_)
   refine Kd.S_append_step k24 (w0 := w) w.heap.size (by rfl) (.tmp 11) (.tmp 30) 44 24 (.agg #[(.int .i64 0), (.int .i64 0), (.slice none 0 0)]) 40 rfl Try.underlying44 info24 rfl (by decide) (by omega) u3 x3_1 (⟨(rd_T24 l0 x4_1).f0, (rd_T24 l0 x4_1).f1, y150⟩ : S24) [.int .i64 ((rd_T24 l0 x4_1).f0), .int .i64 ((rd_T24 l0 x4_1).f1), .slice Ao10 y150.length co10] (fun _ => True) (fun k_ => some k_ = (.slice Ao10 y150.length co10 : Value).ownBlock) rfl rfl ?aP (fun k_ hk_ => ((Kd.R_mono (ok' := fun k_ => ((fun _ => True)) k_ ∧ some k_ ≠ (u3 : Value).ownBlock) (Kd.R_apart' (HO152.out) (Kd.S_typed HO_3.out) (by decide)) (fun k_ hk => ⟨trivial, hk.2⟩))).1 k_ hk_.symm) ?aF ?aO ?aB ?aS ?aL ?_
   (case aP => exact k24_mkM _ _ _ (⟨(rd_T24 l0 x4_1).f0, (rd_T24 l0 x4_1).f1, y150⟩ : S24) (Kd.R_mono (Kd.R_tight rfl (Kd.R_mono (ok' := fun k_ => ((fun _ => True)) k_ ∧ some k_ ≠ (u3 : Value).ownBlock) (Kd.R_apart' (HO152.out) (Kd.S_typed HO_3.out) (by decide)) (fun k_ hk => ⟨trivial, hk.2⟩))) (fun _ h_ => h_)))
   (case aB => exact (bw_ HB))
   (case aF => exact (fun _ _ => trivial))
   (case aO => exact (by (with_reducible repeat (first | apply Kd.S_alloc | apply Kd.S_drewN | apply Kd.S_drew)); exact Kd.S_mono HO_3.out (fun k_ hk => ⟨trivial, fun e_ => hk.2 e_⟩)))
   (case aS => exact (below_size (bw_ HB)))
   (case aL => have := LMc5.out; omega)
   intro v154 w11 ho hb hg hat
   rw [← Ny153.out] at ho
   have n0_ := Aside0.mk (hb)
   have n1_ := Aside0.mk (ho)
   clear HB
   clear HO_3
   clear HO152
   have HB := n0_
   have HO155 := n1_
   clear n0_ n1_
   clear ho hb hg hat
   refine hK.out _ _ ⟨(cb_ HB hw144_0), (cb_ HB hw144_1), (cb_ HB hw144_2), (cb_ HB hw145_0), (cb_ HB hw145_1), (cb_ HB hw145_2), (cb_ HB hw149_0), (cb_ HB hw149_1), (cb_ HB hw149_2)⟩ (fun hHeld => ?_)
   clear hK K
   refine no_ (N := some 31) ?_
   refine pu_ (i := 21) (N := some 3) (bs_ 22 4194303) rfl rfl HT_ ?_
   refine done_ (done_of HT_.out (by kernel_rfl)) ?_
   try go_wp2
   go_roundg k1
   case measure => have := HK1.out; omega
   case rel => exact ⟨(y153), (wrap64 (x4_1 + 1)), (by first | rfl | (simp; done) | (simp [*]; done)), H', ⟨by have := HK1.out; omega⟩, ⟨tS_ HO155⟩, ⟨by repeat (first | (with_reducible first | exact HB.out | apply b_a | apply b_n | apply b_d) | exact HB.out)⟩⟩
/-! ### grid_Beside: function 25 -/
def grid_Beside.l0 : Nat → List (S24) → List (S24) → Int → Int → Option (Int × Int × List Int × Int)
 | 0, _, _, _, _ => none
 | k + 1, x4, x13, x14, x15 => if x15 < x14 then (if 0 ≤ x15 then (if x15 < (x13.length : Int) then ((grid_Turn.f k ((rd_T24 x13 x15).f0) ((rd_T24 x13 x15).f1) ((rd_T24 x13 x15).f2)).bind fun bt162 => (if x15 < (x4.length : Int) then (if bt162.2.2.2 = 0 then (grid_Beside.l0 k (x4.set (x15 : Int).toNat (⟨bt162.1, bt162.2.1, bt162.2.2.1⟩ : S24)) x13 x14 (wrap64 (x15 + 1))) else (some (0, 0, ([] : List Int), bt162.2.2.2))) else (none))) else (none)) else (none)) else ((grid_Stack.f k x4).bind fun bt169 => (if bt169.2.2.2 = 0 then ((grid_Turn.f k bt169.1 bt169.2.1 bt169.2.2.1).bind fun bt176 => (some (bt176.1, bt176.2.1, bt176.2.2.1, bt176.2.2.2))) else (some (0, 0, ([] : List Int), bt169.2.2.2))))
def grid_Beside.f (k : Nat) (l0 : List (S24)) : Option (Int × Int × List Int × Int) := if 0 ≤ (l0.length : Int) then (if ((l0.length : Int) : Int).toNat ≤ 7036874417766 then (grid_Beside.l0 k (List.replicate ((l0.length : Int) : Int).toNat z24) l0 (l0.length : Int) 0) else (none)) else (none)
theorem grid_Beside.mono_l : ∀ k, (∀ y0 y1 y2 y3, LeO (grid_Beside.l0 k y0 y1 y2 y3) (grid_Beside.l0 (k + 1) y0 y1 y2 y3))
 | 0 => fun _ _ _ _ r h => by simp [grid_Beside.l0] at h
 | k + 1 => by
  have ih0 := grid_Beside.mono_l k
  ·
   intro y0 y1 y2 y3
   unfold grid_Beside.l0
   repeat' first
   | (with_reducible exact ih0 _ _ _ _)
   | (with_reducible exact grid_Stack.mono _ _)
   | (with_reducible exact grid_Turn.mono _ _ _ _)
   | (with_reducible exact LeO.refl _)
   | (with_reducible exact LeO.none _)
   | (with_reducible refine LeO.ite ?_ ?_)
   | (with_reducible refine LeO.bind ?_ (fun _ => ?_))
   | exact ih0 _ _ _ _
   | exact grid_Stack.mono _ _
   | exact grid_Turn.mono _ _ _ _
   | exact LeO.none _
   | refine LeO.ite ?_ ?_
   | refine LeO.bind ?_ (fun _ => ?_)
theorem grid_Beside.mono : ∀ a0 k, LeO (grid_Beside.f k a0) (grid_Beside.f (k + 1) a0) := by
 intro a0 k
 have ih0 := grid_Beside.mono_l k
 unfold grid_Beside.f
 repeat' first
   | (with_reducible exact ih0 _ _ _ _)
   | (with_reducible exact grid_Stack.mono _ _)
   | (with_reducible exact grid_Turn.mono _ _ _ _)
   | (with_reducible exact LeO.refl _)
   | (with_reducible exact LeO.none _)
   | (with_reducible refine LeO.ite ?_ ?_)
   | (with_reducible refine LeO.bind ?_ (fun _ => ?_))
   | exact ih0 _ _ _ _
   | exact grid_Stack.mono _ _
   | exact grid_Turn.mono _ _ _ _
   | exact LeO.none _
   | refine LeO.ite ?_ ?_
   | refine LeO.bind ?_ (fun _ => ?_)
set_option maxHeartbeats 60000000 in
set_option maxRecDepth 100000 in
theorem grid_Beside.calls (k : Nat) (A0 : Option Addr) (c0 : Nat) (l0 : List (S24)) (r1 : Int) (r2 : Int) (r3 : List Int) (r4 : Int) (w : World) (hr0 : Kd.C k24 w A0 l0.length l0) (hc0 : l0.length ≤ c0) (h : grid_Beside.f k l0 = some (r1, r2, r3, r4)) :
  Calls Try.prog 25 #[.slice A0 l0.length c0] w fun e w' => ∃ v2_ : Value, e = .returned (.tuple #[.agg #[.int .i64 r1, .int .i64 r2, v2_], .int .i64 r4]) ∧ Kd.R (Kd.int .i32) 21 w' w.heap.size (fun _ => True) v2_ r3 ∧ Below w.heap.size w w' := by
 have hu24 := Try.underlying24
 have HR0 := Aside0.mk hr0
 have HC0 := Aside0.mk hc0
 clear hr0 hc0
 have HB := Aside0.mk (Below.refl w.heap.size w)
 have H : (if 0 ≤ (l0.length : Int) then (if ((l0.length : Int) : Int).toNat ≤ 7036874417766 then (grid_Beside.l0 k (List.replicate ((l0.length : Int) : Int).toNat z24) l0 (l0.length : Int) 0) else (none)) else (none)) = some (r1, r2, r3, r4) := h
 clear h
 by_cases c2 : 0 ≤ (l0.length : Int)
 rotate_left
 ·
  rw [if_neg c2] at H
  exact absurd H (by simp)

 rw [if_pos c2] at H
 have c2b0 := eq_true c2
 have c2b1 : decide (0 ≤ (l0.length : Int)) = true := decide_eq_true c2
 clear c2
 by_cases c3 : ((l0.length : Int) : Int).toNat ≤ 7036874417766
 rotate_left
 ·
  rw [if_neg c3] at H
  exact absurd H (by simp)
 rw [if_pos c3] at H
 have c3b0 := eq_true c3
 have c3b1 : decide (((l0.length : Int) : Int).toNat ≤ 7036874417766) = true := decide_eq_true c3
 clear c3
 obtain ⟨y157, hy157⟩ : ∃ y_ : List (S24), y_ = (List.replicate ((l0.length : Int) : Int).toNat z24) := ⟨_, rfl⟩
 replace H : (grid_Beside.l0 k y157 l0 (l0.length : Int) 0) = some (r1, r2, r3, r4) := by first | (rw [hy157]; with_reducible exact H) | (have H2_ := (Option.bind_some _ _).symm.trans H; rw [hy157]; with_reducible exact H2_) | (have H2_ := (Option.bind_some _ _).symm.trans H; with_reducible exact H2_) | with_reducible exact H | (rw [hy157]; exact H) | exact H
 have Ny157 := Aside0.mk hy157
 clear hy157
 have H' := Aside0.mk H
 clear H
 go_enter Try.func25, Try.ntmps25
 go_wp2_with (first | ((with_reducible refine gate_dst (N := 2) rfl ?_); refine box_event ?hg (N := 2) ?hd (cs := #[.int .i64 0, .int .i64 0, .slice none 0 0]) (t := 24) ?hr ?_; (case hd => rfl); (case hg => rfl); (case hr => first | (go_simp; done) | (go_simp; rfl)); intro gb156 hg w4 hbox hb; have BK156 := Aside0.mk (hbox); have GW156 := Aside0.mk ((by rw [hg]; exact (below_size (bw_ HB)) : w.heap.size ≤ gb156)); have GE156 := Aside0.mk ((by rw [hg]; exact (below_size (bw_ HB)) : w.heap.size ≤ gb156)); replace HB := Aside0.mk (below_step (bw_ HB) hb); clear hb hbox hg) | ((with_reducible refine gate_dst (N := 12) rfl ?_); refine Kd.S_make k24 _ 24 rfl (N := 12) rfl 44 _ _ rfl (l0.length : Int) rfl rfl Try.underlying44 (.agg #[(.int .i64 0), (.int .i64 0), (.slice none 0 0)]) 40 info24 rfl (by decide) (by omega) z24 (ok := fun _ => True) (okp := fun _ => True) (k24_mkM _ _ _ z24 (Kd.R_nil _ _ _ _ _)) (fun _ hk => hk) trivial (of_decide_eq_true (by first | (with_reducible assumption) | assumption)) (Nat.le_trans (Nat.mul_le_mul_right _ (of_decide_eq_true (by first | (with_reducible assumption) | assumption) : (l0.length : Int).toNat ≤ 7036874417766)) (by omega)) (Below.refl _ _) (Nat.le_refl _) ?_; intro v158 w5 ho6 hb hg_ hnew_; clear hg_ hnew_; (first | rw [← Ny157.out] at ho6 | (simp only [Int.reduceToNat] at ho6; rw [← Ny157.out] at ho6)); have HO159 := Aside0.mk (Kd.S_lower (Kd.S_newB ho6 (tk_ BK156)) (below_size (bw_ HB))); replace BK156 := Aside0.mk (blk_below (tk_ BK156) hb); replace HB := Aside0.mk (below_step (bw_ HB) hb); clear hb ho6))
 go_loopg [15] k (fun kq v15 w' => ∃ (x4_1 : List (S24)) (x15_1 : Int) (x157000_1 : Int) (x157001_1 : Int), v15 = .int .i64 x15_1 ∧ Aside0 (grid_Beside.l0 kq x4_1 l0 (l0.length : Int) x15_1 = some (r1, r2, r3, r4)) ∧ Aside0 (kq ≤ k) ∧ Aside0 (Kd.S k24 24 w' w.heap.size (fun k_ => k_ ≠ gb156) v158 x4_1) ∧ Aside0 (w'.heap[gb156]? = some (.cells #[.int .i64 x157000_1, .int .i64 x157001_1, (.slice none 0 0)] 24 (0, 0))) ∧ Aside0 (Below w.heap.size w w'))
 case atStart => exact ⟨(y157), (0), (0), (0), (by first | rfl | (simp; done) | (simp [*]; done)), H', ⟨Nat.le_refl _⟩, ⟨by (with_reducible repeat (first | apply Kd.S_alloc | apply Kd.S_drewN | apply Kd.S_drew)); exact Kd.S_mono HO159.out (fun _ hk => hk.2)⟩, ⟨tk_ BK156⟩, ⟨by repeat (first | (with_reducible first | exact HB.out | apply b_a | apply b_n | apply b_d | refine b_s ?_ GE156.out) | exact HB.out)⟩⟩
 case round =>
  clear H'
  try clear c2
  try clear c2b0
  try clear c2b1
  try clear p2
  try clear c3
  try clear c3b0
  try clear c3b1
  obtain ⟨x4_1, x15_1, x157000_1, x157001_1, rfl, HA, HK1, HO_4, BK156, HB⟩ := hrel
  cases gk with
  | zero => exact absurd HA.out (by simp [grid_Beside.l0])
  | succ k1 =>
   have H := HA.out
   clear HA
   simp only [grid_Beside.l0] at H
   by_cases c7 : x15_1 < (l0.length : Int)
   rotate_left
   ·
    rw [if_neg c7] at H
    have c7b0 : decide (x15_1 < (l0.length : Int)) = false := decide_eq_false c7
    clear c7
    replace H := Option.bind_eq_some_iff.mp H
    obtain ⟨⟨t169, t170, t171, t174⟩, A270, H⟩ := H
    replace H : (if t174 = 0 then ((grid_Turn.f k1 t169 t170 t171).bind fun bt176 => (some (bt176.1, bt176.2.1, bt176.2.2.1, bt176.2.2.2))) else (some (0, 0, ([] : List Int), t174))) = some (r1, r2, r3, r4) := H
    have A27 := Aside0.mk A270
    clear A270
    by_cases c28 : t174 = 0
    rotate_left
    ·
     rw [if_neg c28] at H
     have c28b0 : (t174 == 0) = false := beq_eq_false_iff_ne.mpr c28
     have c28b1 : (t174 != 0) = true := bne_iff_ne.mpr c28
     simp only [Option.some.injEq, Prod.mk.injEq] at H
     obtain ⟨rfl, rfl, rfl, rfl⟩ := H
     obtain ⟨Ao39, co39, eo39⟩ := Kd.S_slice HO_4.out
     subst eo39
     go_wp2_with (first | ((with_reducible refine gate_callee (f := 24) rfl ?_); refine goesL_ (some 35) rfl rfl Try.func24 (by kernel_rfl) rfl #[.slice Ao39 x4_1.length co39] rfl (by (try simp only [l_4, l_5, l_6]); first | done | rfl | (simp only [l_7, l_8]; rfl)) ?_; (with_reducible refine (grid_Stack.calls k1 _ _ x4_1 t169 t170 t171 t174 _ ?side1 ?side2 A27.out).mono ?_); (case side1 => repeat (first | exact (Kd.S_reads' HO_4.out).2.2 | (with_reducible refine Kd.C_alloc ?_ _) | (with_reducible refine Kd.C_drewN ?_ _) | (with_reducible refine Kd.C_drew ?_))); (case side2 => exact (Kd.S_reads' HO_4.out).2.1); rintro e w40 ⟨v172, rfl, ho0, hb⟩; (try clear A27); refine ⟨_, rfl, ?_⟩; have HO173 := Aside0.mk (Kd.R_lower ho0 (below_size (bw_ HB))); replace HO_4 := Aside0.mk (Kd.S_elder' (tS_ HO_4) (Kd.R_base ho0) hb); replace BK156 := Aside0.mk (blk_below (tk_ BK156) hb); replace HB := Aside0.mk (below_step (bw_ HB) hb); (try clear hb); (try clear hb2); (try clear hk); (try clear hi); (try clear ho0)) | ((with_reducible refine gate_dst (N := 8) rfl ?_); refine box_event ?hg (N := 8) ?hd (cs := #[.int .i64 0, .int .i64 0, .slice none 0 0]) (t := 24) ?hr ?_; (case hd => rfl); (case hg => rfl); (case hr => first | (go_simp; done) | (go_simp; rfl)); intro gb175 hg w41 hbox hb; have BK175 := Aside0.mk (hbox); have GW175 := Aside0.mk ((by rw [hg]; exact (below_size (bw_ HB)) : w.heap.size ≤ gb175)); have GE175 := Aside0.mk ((by rw [hg]; exact (below_size (bw_ HB)) : w.heap.size ≤ gb175)); have NB156_175 := Aside0.mk ((by rw [hg]; exact Nat.ne_of_lt (blk_lt (tk_ BK156)) : gb156 ≠ gb175)); have NB175_156 := Aside0.mk ((by rw [hg]; exact Nat.ne_of_gt (blk_lt (tk_ BK156)) : gb175 ≠ gb156)); replace HO_4 := Aside0.mk (Kd.S_below (Kd.S_elderB (tS_ HO_4) gb175 (Nat.le_of_eq hg.symm)) hb); replace HO173 := Aside0.mk (Kd.R_below (tR_ HO173) hb); replace BK156 := Aside0.mk (blk_below (tk_ BK156) hb); replace HB := Aside0.mk (below_step (bw_ HB) hb); clear hb hbox hg; have hnb42 := NB175_156.out; have hnc42 := NB156_175.out; have hcz43_0 := bc_0 BK175; have hcz43_1 := bc_1 BK175; have hcz43_2 := bc_2 BK175; have hfz43_0 := blk_frozen BK175.out 0; have hfz43_1 := blk_frozen BK175.out 1; have hfz43_2 := blk_frozen BK175.out 2; obtain ⟨Ao44, co44, eo44⟩ := Kd.R_slice HO173.out; subst eo44; have hcz45_0 := bc_0 BK156; have hcz45_1 := bc_1 BK156; have hcz45_2 := bc_2 BK156; have hfz45_0 := blk_frozen BK156.out 0; have hfz45_1 := blk_frozen BK156.out 1; have hfz45_2 := blk_frozen BK156.out 2))
     refine bodyPost_ret (results_ct rfl _ _ gb156 24 #[.int .i64 0, .int .i64 0, .slice none 0 0] (0, 0) _ rfl (by (with_reducible repeat (first | refine k_n ?_ _ | refine k_d ?_ | refine k_a ?_ _)); refine blk_put (cs := #[.int .i64 0, .int .i64 0, .slice none 0 0]) ?_ 2 _ rfl; (with_reducible repeat (first | refine k_n ?_ _ | refine k_d ?_ | refine k_a ?_ _)); refine blk_put (cs := #[.int .i64 0, .int .i64 x157001_1, .slice none 0 0]) ?_ 1 _ rfl; (with_reducible repeat (first | refine k_n ?_ _ | refine k_d ?_ | refine k_a ?_ _)); refine blk_put (cs := #[.int .i64 x157000_1, .int .i64 x157001_1, .slice none 0 0]) ?_ 0 _ rfl; (with_reducible repeat (first | refine k_n ?_ _ | refine k_d ?_ | refine k_a ?_ _)); refine blk_far ?_ NB156_175.out _; (with_reducible repeat (first | refine k_n ?_ _ | refine k_d ?_ | refine k_a ?_ _)); refine blk_far ?_ NB156_175.out _; (with_reducible repeat (first | refine k_n ?_ _ | refine k_d ?_ | refine k_a ?_ _)); refine blk_far ?_ NB156_175.out _; (with_reducible repeat (first | refine k_n ?_ _ | refine k_d ?_ | refine k_a ?_ _)); exact BK156.out) Try.underlying24 rfl (by kernel_rfl)) rfl ?_
     exact ⟨_, by first | rfl | (simp [errW_none, errW_some] <;> rfl) | (simp [*, errW_none, errW_some] <;> rfl), by first | exact Kd.R_nil _ _ _ _ _ | exact Kd.N_nil _ _ _ _ _ | exact Kd.V_nil _ _ _ _ _ | exact Kd.Q_nil _ _ _ _ _ | exact Kd.S_nil _ _ _ _ _, by repeat (first | (with_reducible first | exact HB.out | apply b_a | apply b_n | apply b_d | refine b_s ?_ GE156.out | refine b_s ?_ GE175.out) | exact HB.out)⟩
    rw [if_pos c28] at H
    have c28b0 : (t174 == 0) = true := beq_iff_eq.mpr c28
    have c28b1 : (t174 != 0) = false := bne_eq_false_iff_eq.mpr c28
    clear c28
    replace H := Option.bind_eq_some_iff.mp H
    obtain ⟨⟨t176, t177, t178, t181⟩, A290, H⟩ := H
    replace H : (some (t176, t177, t178, t181)) = some (r1, r2, r3, r4) := H
    have A29 := Aside0.mk A290
    clear A290
    simp only [Option.some.injEq, Prod.mk.injEq] at H
    obtain ⟨rfl, rfl, rfl, rfl⟩ := H
    obtain ⟨Ao30, co30, eo30⟩ := Kd.S_slice HO_4.out
    subst eo30
    go_wp2_with (first | ((with_reducible refine gate_callee (f := 24) rfl ?_); refine goesL_ (some 35) rfl rfl Try.func24 (by kernel_rfl) rfl #[.slice Ao30 x4_1.length co30] rfl (by (try simp only [l_4, l_5, l_6]); first | done | rfl | (simp only [l_7, l_8]; rfl)) ?_; (with_reducible refine (grid_Stack.calls k1 _ _ x4_1 t169 t170 t171 t174 _ ?side1 ?side2 A27.out).mono ?_); (case side1 => repeat (first | exact (Kd.S_reads' HO_4.out).2.2 | (with_reducible refine Kd.C_alloc ?_ _) | (with_reducible refine Kd.C_drewN ?_ _) | (with_reducible refine Kd.C_drew ?_))); (case side2 => exact (Kd.S_reads' HO_4.out).2.1); rintro e w31 ⟨v172, rfl, ho0, hb⟩; (try clear A27); refine ⟨_, rfl, ?_⟩; have HO173 := Aside0.mk (Kd.R_lower ho0 (below_size (bw_ HB))); replace HO_4 := Aside0.mk (Kd.S_elder' (tS_ HO_4) (Kd.R_base ho0) hb); replace BK156 := Aside0.mk (blk_below (tk_ BK156) hb); replace HB := Aside0.mk (below_step (bw_ HB) hb); (try clear hb); (try clear hb2); (try clear hk); (try clear hi); (try clear ho0)) | ((with_reducible refine gate_dst (N := 8) rfl ?_); refine box_event ?hg (N := 8) ?hd (cs := #[.int .i64 0, .int .i64 0, .slice none 0 0]) (t := 24) ?hr ?_; (case hd => rfl); (case hg => rfl); (case hr => first | (go_simp; done) | (go_simp; rfl)); intro gb175 hg w32 hbox hb; have BK175 := Aside0.mk (hbox); have GW175 := Aside0.mk ((by rw [hg]; exact (below_size (bw_ HB)) : w.heap.size ≤ gb175)); have GE175 := Aside0.mk ((by rw [hg]; exact (below_size (bw_ HB)) : w.heap.size ≤ gb175)); have NB156_175 := Aside0.mk ((by rw [hg]; exact Nat.ne_of_lt (blk_lt (tk_ BK156)) : gb156 ≠ gb175)); have NB175_156 := Aside0.mk ((by rw [hg]; exact Nat.ne_of_gt (blk_lt (tk_ BK156)) : gb175 ≠ gb156)); replace HO_4 := Aside0.mk (Kd.S_below (Kd.S_elderB (tS_ HO_4) gb175 (Nat.le_of_eq hg.symm)) hb); replace HO173 := Aside0.mk (Kd.R_below (tR_ HO173) hb); replace BK156 := Aside0.mk (blk_below (tk_ BK156) hb); replace HB := Aside0.mk (below_step (bw_ HB) hb); clear hb hbox hg; have hnb33 := NB175_156.out; have hnc33 := NB156_175.out; have hcz34_0 := bc_0 BK175; have hcz34_1 := bc_1 BK175; have hcz34_2 := bc_2 BK175; have hfz34_0 := blk_frozen BK175.out 0; have hfz34_1 := blk_frozen BK175.out 1; have hfz34_2 := blk_frozen BK175.out 2; obtain ⟨Ao35, co35, eo35⟩ := Kd.R_slice HO173.out; subst eo35) | ((with_reducible refine gate_callee (f := 22) rfl ?_); refine goesL_ (some 43) rfl rfl Try.func22 (by kernel_rfl) rfl #[.agg #[.int .i64 t169, .int .i64 t170, .slice Ao35 t171.length co35]] rfl (by (try simp only [l_4, l_5, l_6]); first | done | rfl | (simp only [l_7, l_8]; rfl)) ?_; (with_reducible refine (grid_Turn.calls k1 t169 t170 _ _ t171 t176 t177 t178 t181 _ ?side1 ?side2 A29.out).mono ?_); (case side1 => refine (Kd.R_reads' (e := 21) (base := w.heap.size) (ok := fun k_ => True) (n := t171.length) (c := co35) ?_).2.2; exact (by (with_reducible repeat (first | apply Kd.R_alloc | apply Kd.R_drewN | apply Kd.R_drew)); exact (Kd.R_mono (Kd.R_far (p := ⟨gb175, 2, none⟩) (Kd.R_far (p := ⟨gb175, 1, none⟩) (Kd.R_far (p := ⟨gb175, 0, none⟩) (Kd.R_types HO173.out BK175.out (by decide)) (fun _ hk => hk.2) (.int .i64 t169)) (fun _ hk => hk.2) (.int .i64 t170)) (fun _ hk => hk.2) (.slice Ao35 t171.length co35)) (fun _ h_ => h_.1)))); (case side2 => exact (Kd.R_reads' HO173.out).2.1); rintro e w36 ⟨v179, rfl, ho0, hb⟩; (try clear A29); refine ⟨_, rfl, ?_⟩; have HO180 := Aside0.mk (Kd.R_lower (Kd.R_new' ho0 (Kd.R_lt (by (with_reducible repeat (first | apply Kd.R_alloc | apply Kd.R_drewN | apply Kd.R_drew)); exact (Kd.R_mono (Kd.R_far (p := ⟨gb175, 2, none⟩) (Kd.R_far (p := ⟨gb175, 1, none⟩) (Kd.R_far (p := ⟨gb175, 0, none⟩) (Kd.R_types HO173.out BK175.out (by decide)) (fun _ hk => hk.2) (.int .i64 t169)) (fun _ hk => hk.2) (.int .i64 t170)) (fun _ hk => hk.2) (.slice Ao35 t171.length co35)) (fun _ h_ => h_.1))))) (below_size (bw_ HB))); replace HO_4 := Aside0.mk (Kd.S_elder' (by (with_reducible repeat (first | apply Kd.S_alloc | apply Kd.S_drewN | apply Kd.S_drew)); exact (Kd.S_mono (Kd.S_far (p := ⟨gb175, 2, none⟩) (Kd.S_far (p := ⟨gb175, 1, none⟩) (Kd.S_far (p := ⟨gb175, 0, none⟩) (Kd.S_mono HO_4.out (fun k_ hk => (⟨hk, hk.2⟩ : _ ∧ k_ ≠ gb175))) (fun _ hk => hk.2) (.int .i64 t169)) (fun _ hk => hk.2) (.int .i64 t170)) (fun _ hk => hk.2) (.slice Ao35 t171.length co35)) (fun _ h_ => h_.1))) (Kd.R_base ho0) hb); replace HO173 := Aside0.mk (Kd.R_elder' (by (with_reducible repeat (first | apply Kd.R_alloc | apply Kd.R_drewN | apply Kd.R_drew)); exact (Kd.R_mono (Kd.R_far (p := ⟨gb175, 2, none⟩) (Kd.R_far (p := ⟨gb175, 1, none⟩) (Kd.R_far (p := ⟨gb175, 0, none⟩) (Kd.R_types HO173.out BK175.out (by decide)) (fun _ hk => hk.2) (.int .i64 t169)) (fun _ hk => hk.2) (.int .i64 t170)) (fun _ hk => hk.2) (.slice Ao35 t171.length co35)) (fun _ h_ => h_.1))) (Kd.R_base ho0) hb); replace BK156 := Aside0.mk (blk_below (g := gb156) (o := .cells #[.int .i64 x157000_1, .int .i64 x157001_1, .slice none 0 0] 24 (0, 0)) (by (with_reducible repeat (first | refine k_n ?_ _ | refine k_d ?_ | refine k_a ?_ _)); refine blk_far ?_ NB156_175.out _; (with_reducible repeat (first | refine k_n ?_ _ | refine k_d ?_ | refine k_a ?_ _)); refine blk_far ?_ NB156_175.out _; (with_reducible repeat (first | refine k_n ?_ _ | refine k_d ?_ | refine k_a ?_ _)); refine blk_far ?_ NB156_175.out _; (with_reducible repeat (first | refine k_n ?_ _ | refine k_d ?_ | refine k_a ?_ _)); exact BK156.out) hb); replace BK175 := Aside0.mk (blk_below (g := gb175) (o := .cells #[.int .i64 t169, .int .i64 t170, .slice Ao35 t171.length co35] 24 (0, 0)) (by (with_reducible repeat (first | refine k_n ?_ _ | refine k_d ?_ | refine k_a ?_ _)); refine blk_put (cs := #[.int .i64 t169, .int .i64 t170, .slice none 0 0]) ?_ 2 _ rfl; (with_reducible repeat (first | refine k_n ?_ _ | refine k_d ?_ | refine k_a ?_ _)); refine blk_put (cs := #[.int .i64 t169, .int .i64 0, .slice none 0 0]) ?_ 1 _ rfl; (with_reducible repeat (first | refine k_n ?_ _ | refine k_d ?_ | refine k_a ?_ _)); refine blk_put (cs := #[.int .i64 0, .int .i64 0, .slice none 0 0]) ?_ 0 _ rfl; (with_reducible repeat (first | refine k_n ?_ _ | refine k_d ?_ | refine k_a ?_ _)); exact BK175.out) hb); replace HB := Aside0.mk (below_step (bw_ HB) hb); (try clear hb); (try clear hb2); (try clear hk); (try clear hi); (try clear ho0); have hcz37_0 := bc_0 BK156; have hcz37_1 := bc_1 BK156; have hcz37_2 := bc_2 BK156; have hfz37_0 := blk_frozen BK156.out 0; have hfz37_1 := blk_frozen BK156.out 1; have hfz37_2 := blk_frozen BK156.out 2; obtain ⟨Ao38, co38, eo38⟩ := Kd.R_slice HO180.out; subst eo38))
    refine bodyPost_ret (results_ct rfl _ _ gb156 24 #[.int .i64 t176, .int .i64 t177, .slice Ao38 t178.length co38] (0, 0) _ rfl (by (with_reducible repeat (first | refine k_n ?_ _ | refine k_d ?_ | refine k_a ?_ _)); refine blk_put (cs := #[.int .i64 t176, .int .i64 t177, .slice none 0 0]) ?_ 2 _ rfl; (with_reducible repeat (first | refine k_n ?_ _ | refine k_d ?_ | refine k_a ?_ _)); refine blk_put (cs := #[.int .i64 t176, .int .i64 x157001_1, .slice none 0 0]) ?_ 1 _ rfl; (with_reducible repeat (first | refine k_n ?_ _ | refine k_d ?_ | refine k_a ?_ _)); refine blk_put (cs := #[.int .i64 x157000_1, .int .i64 x157001_1, .slice none 0 0]) ?_ 0 _ rfl; (with_reducible repeat (first | refine k_n ?_ _ | refine k_d ?_ | refine k_a ?_ _)); exact BK156.out) Try.underlying24 rfl (by kernel_rfl)) rfl ?_
    exact ⟨_, by first | rfl | (simp [errW_none, errW_some] <;> rfl) | (simp [*, errW_none, errW_some] <;> rfl), by (with_reducible repeat (first | apply Kd.R_alloc | apply Kd.R_drewN | apply Kd.R_drew)); exact Kd.R_mono (Kd.R_far (p := ⟨gb156, 2, none⟩) (Kd.R_far (p := ⟨gb156, 1, none⟩) (Kd.R_far (p := ⟨gb156, 0, none⟩) (Kd.R_types HO180.out BK156.out (by decide)) (fun _ hk => hk.2) (.int .i64 t176)) (fun _ hk => hk.2) (.int .i64 t177)) (fun _ hk => hk.2) (.slice Ao38 t178.length co38)) (fun _ hk => trivial), by repeat (first | (with_reducible first | exact HB.out | apply b_a | apply b_n | apply b_d | refine b_s ?_ GE156.out | refine b_s ?_ GE175.out) | exact HB.out)⟩
   rw [if_pos c7] at H
   have c7b0 : decide (x15_1 < (l0.length : Int)) = true := decide_eq_true c7
   clear c7
   by_cases c8 : 0 ≤ x15_1
   rotate_left
   ·
    rw [if_neg c8] at H
    exact absurd H (by simp)
   rw [if_pos c8] at H
   have c8b0 : decide (0 ≤ x15_1) = true := decide_eq_true c8
   clear c8
   by_cases c9 : x15_1 < (l0.length : Int)
   rotate_left
   ·
    rw [if_neg c9] at H
    exact absurd H (by simp)
   rw [if_pos c9] at H
   have c9b0 : decide (x15_1 < (l0.length : Int)) = true := decide_eq_true c9
   clear c9
   replace H := Option.bind_eq_some_iff.mp H
   obtain ⟨⟨t162, t163, t164, t167⟩, A100, H⟩ := H
   replace H : (if x15_1 < (x4_1.length : Int) then (if t167 = 0 then (grid_Beside.l0 k1 (x4_1.set (x15_1 : Int).toNat (⟨t162, t163, t164⟩ : S24)) l0 (l0.length : Int) (wrap64 (x15_1 + 1))) else (some (0, 0, ([] : List Int), t167))) else (none)) = some (r1, r2, r3, r4) := H
   have A10 := Aside0.mk A100
   clear A100
   by_cases c11 : x15_1 < (x4_1.length : Int)
   rotate_left
   ·
    rw [if_neg c11] at H
    exact absurd H (by simp)
   rw [if_pos c11] at H
   have c11b0 : decide (x15_1 < (x4_1.length : Int)) = true := decide_eq_true c11
   clear c11
   obtain ⟨y168, hy168⟩ : ∃ y_ : List (S24), y_ = (x4_1.set (x15_1 : Int).toNat (⟨t162, t163, t164⟩ : S24)) := ⟨_, rfl⟩
   replace H : (if t167 = 0 then (grid_Beside.l0 k1 y168 l0 (l0.length : Int) (wrap64 (x15_1 + 1))) else (some (0, 0, ([] : List Int), t167))) = some (r1, r2, r3, r4) := by first | (rw [hy168]; with_reducible exact H) | (have H2_ := (Option.bind_some _ _).symm.trans H; rw [hy168]; with_reducible exact H2_) | (have H2_ := (Option.bind_some _ _).symm.trans H; with_reducible exact H2_) | with_reducible exact H | (rw [hy168]; exact H) | exact H
   have Ny168 := Aside0.mk hy168
   clear hy168
   by_cases c13 : t167 = 0
   ·
    rw [if_pos c13] at H
    have c13b0 : (t167 == 0) = true := beq_iff_eq.mpr c13
    have c13b1 : (t167 != 0) = false := bne_eq_false_iff_eq.mpr c13
    clear c13
    have H' := Aside0.mk H
    clear H
    have p160 : 0 ≤ (x15_1 : Int) := of_decide_eq_true (by first | (with_reducible assumption) | assumption)
    have q160 : x15_1 < (l0.length : Int) := of_decide_eq_true (by first | (with_reducible assumption) | assumption)
    obtain ⟨ad160, A160_2, c160_2, e160, hx160_0, hx160_1, hx160_2, hl160_2, hi160_2⟩ := at_T24 HR0.out x15_1 p160 q160
    cases e160
    replace hx160_0 := cb_ HB hx160_0
    replace hx160_1 := cb_ HB hx160_1
    replace hx160_2 := cb_ HB hx160_2
    have HR160_2 := Aside0.mk hi160_2
    have HC160_2 := Aside0.mk hl160_2
    clear hi160_2 hl160_2
    replace p160 := eq_true p160
    replace q160 := eq_true q160
    go_wp2_with (first | ((with_reducible refine gate_dst (N := 6) rfl ?_); refine box_event ?hg (N := 6) ?hd (cs := #[.int .i64 0, .int .i64 0, .slice none 0 0]) (t := 24) ?hr ?_; (case hd => rfl); (case hg => rfl); (case hr => first | (go_simp; done) | (go_simp; rfl)); intro gb161 hg w14 hbox hb; have BK161 := Aside0.mk (hbox); have GW161 := Aside0.mk ((by rw [hg]; exact (below_size (bw_ HB)) : w.heap.size ≤ gb161)); have GE161 := Aside0.mk ((by rw [hg]; exact (below_size (bw_ HB)) : w.heap.size ≤ gb161)); have NB156_161 := Aside0.mk ((by rw [hg]; exact Nat.ne_of_lt (blk_lt (tk_ BK156)) : gb156 ≠ gb161)); have NB161_156 := Aside0.mk ((by rw [hg]; exact Nat.ne_of_gt (blk_lt (tk_ BK156)) : gb161 ≠ gb156)); replace HO_4 := Aside0.mk (Kd.S_below (Kd.S_elderB (tS_ HO_4) gb161 (Nat.le_of_eq hg.symm)) hb); replace BK156 := Aside0.mk (blk_below (tk_ BK156) hb); replace HB := Aside0.mk (below_step (bw_ HB) hb); clear hb hbox hg; have hnb15 := NB161_156.out; have hnc15 := NB156_161.out; have hcz16_0 := bc_0 BK161; have hcz16_1 := bc_1 BK161; have hcz16_2 := bc_2 BK161; have hfz16_0 := blk_frozen BK161.out 0; have hfz16_1 := blk_frozen BK161.out 1; have hfz16_2 := blk_frozen BK161.out 2) | ((with_reducible refine gate_callee (f := 22) rfl ?_); refine goesL_ (some 24) rfl rfl Try.func22 (by kernel_rfl) rfl #[.agg #[.int .i64 ((rd_T24 l0 x15_1).f0), .int .i64 ((rd_T24 l0 x15_1).f1), .slice A160_2 ((rd_T24 l0 x15_1).f2).length c160_2]] rfl (by (try simp only [l_4, l_5, l_6]); first | done | rfl | (simp only [l_7, l_8]; rfl)) ?_; (with_reducible refine (grid_Turn.calls k1 ((rd_T24 l0 x15_1).f0) ((rd_T24 l0 x15_1).f1) _ _ ((rd_T24 l0 x15_1).f2) t162 t163 t164 t167 _ ?side1 ?side2 A10.out).mono ?_); (case side1 => exact Kd.C_below HR160_2.out (bw_ HB)); (case side2 => exact HC160_2.out); rintro e w17 ⟨v165, rfl, ho0, hb⟩; (try clear A10); refine ⟨_, rfl, ?_⟩; have HO166 := Aside0.mk (Kd.R_lower ho0 (below_size (bw_ HB))); replace HO_4 := Aside0.mk (Kd.S_elder' (by (with_reducible repeat (first | apply Kd.S_alloc | apply Kd.S_drewN | apply Kd.S_drew)); exact (Kd.S_mono (Kd.S_far (p := ⟨gb161, 2, none⟩) (Kd.S_far (p := ⟨gb161, 1, none⟩) (Kd.S_far (p := ⟨gb161, 0, none⟩) (Kd.S_mono HO_4.out (fun k_ hk => (⟨hk, hk.2⟩ : _ ∧ k_ ≠ gb161))) (fun _ hk => hk.2) (.int .i64 ((rd_T24 l0 x15_1).f0))) (fun _ hk => hk.2) (.int .i64 ((rd_T24 l0 x15_1).f1))) (fun _ hk => hk.2) (.slice A160_2 ((rd_T24 l0 x15_1).f2).length c160_2)) (fun _ h_ => h_.1))) (Kd.R_base ho0) hb); replace BK156 := Aside0.mk (blk_below (g := gb156) (o := .cells #[.int .i64 x157000_1, .int .i64 x157001_1, .slice none 0 0] 24 (0, 0)) (by (with_reducible repeat (first | refine k_n ?_ _ | refine k_d ?_ | refine k_a ?_ _)); refine blk_far ?_ NB156_161.out _; (with_reducible repeat (first | refine k_n ?_ _ | refine k_d ?_ | refine k_a ?_ _)); refine blk_far ?_ NB156_161.out _; (with_reducible repeat (first | refine k_n ?_ _ | refine k_d ?_ | refine k_a ?_ _)); refine blk_far ?_ NB156_161.out _; (with_reducible repeat (first | refine k_n ?_ _ | refine k_d ?_ | refine k_a ?_ _)); exact BK156.out) hb); replace BK161 := Aside0.mk (blk_below (g := gb161) (o := .cells #[.int .i64 ((rd_T24 l0 x15_1).f0), .int .i64 ((rd_T24 l0 x15_1).f1), .slice A160_2 ((rd_T24 l0 x15_1).f2).length c160_2] 24 (0, 0)) (by (with_reducible repeat (first | refine k_n ?_ _ | refine k_d ?_ | refine k_a ?_ _)); refine blk_put (cs := #[.int .i64 ((rd_T24 l0 x15_1).f0), .int .i64 ((rd_T24 l0 x15_1).f1), .slice none 0 0]) ?_ 2 _ rfl; (with_reducible repeat (first | refine k_n ?_ _ | refine k_d ?_ | refine k_a ?_ _)); refine blk_put (cs := #[.int .i64 ((rd_T24 l0 x15_1).f0), .int .i64 0, .slice none 0 0]) ?_ 1 _ rfl; (with_reducible repeat (first | refine k_n ?_ _ | refine k_d ?_ | refine k_a ?_ _)); refine blk_put (cs := #[.int .i64 0, .int .i64 0, .slice none 0 0]) ?_ 0 _ rfl; (with_reducible repeat (first | refine k_n ?_ _ | refine k_d ?_ | refine k_a ?_ _)); exact BK161.out) hb); replace HB := Aside0.mk (below_step (bw_ HB) hb); (try clear hb); (try clear hb2); (try clear hk); (try clear hi); (try clear ho0); have p12 : 0 ≤ (x15_1 : Int) := of_decide_eq_true (by first | (with_reducible assumption) | assumption); have q12 : (x15_1 : Int) < ((x4_1.length : Int) : Int) := of_decide_eq_true (by first | (with_reducible assumption) | assumption); obtain ⟨go12, co12, eo12, gb12, gl12, cl12, HG12⟩ := Kd.S_form HO_4.out (by omega); (first | cases eo12 | (injection eo12 with ea_ en_ ec_; (first | subst ea_ | (injection ea_ with ea_; subst ea_)); subst ec_; clear en_)); have GB12 := Aside0.mk gb12; have GG12 := Aside0.mk HG12; clear gb12 gl12 HG12; obtain ⟨_, ce12, hcl12, hM12, hcc12, hfr12, _, _⟩ := Kd.S_elem HO_4.out z24 (x15_1 : Int) p12 q12; obtain ⟨ve12_2, rfl, ge12_2⟩ := k24_openM hM12; have hx12_0 : w17.cell? ⟨go12, (x15_1 : Int).toNat * 3, none⟩ = some (.int .i64 ((rd_T24 x4_1 x15_1).f0)) := hcc12 0 _ rfl; have hx12_1 : w17.cell? ⟨go12, (x15_1 : Int).toNat * 3 + 1, none⟩ = some (.int .i64 ((rd_T24 x4_1 x15_1).f1)) := hcc12 1 _ rfl; have hx12_2 : w17.cell? ⟨go12, (x15_1 : Int).toNat * 3 + 2, none⟩ = some (ve12_2) := hcc12 2 _ rfl; have hf12_0 : w17.frozen? ⟨go12, (x15_1 : Int).toNat * 3, none⟩ = false := hfr12 0; have hf12_1 : w17.frozen? ⟨go12, (x15_1 : Int).toNat * 3 + 1, none⟩ = false := hfr12 1; have hf12_2 : w17.frozen? ⟨go12, (x15_1 : Int).toNat * 3 + 2, none⟩ = false := hfr12 2; clear hcl12 hcc12 hfr12 hM12; replace p12 := eq_true p12; replace q12 := eq_true q12; have n_ := Aside0.mk (Kd.S_mono (ok' := (fun k_ => some k_ ≠ (v165 : Value).ownBlock ∧ k_ ≠ gb156 ∧ k_ ≠ gb161)) HO_4.out (fun k_ hk => ⟨hk.2, ⟨hk.1.1, hk.1.2⟩⟩)); clear HO_4; have HO_4 := n_; clear n_; have HX18 := Aside0.mk (show Kd.S k24 24 w17 w.heap.size (fun k_ => ((fun k_ => k_ ≠ gb156 ∧ k_ ≠ gb161)) k_ ∧ ¬ ((fun k_ => some k_ = (v165 : Value).ownBlock)) k_) (.slice (some ⟨go12, 0, none⟩) x4_1.length co12) x4_1 from (by (with_reducible repeat (first | apply Kd.S_alloc | apply Kd.S_drewN | apply Kd.S_drew)); exact Kd.S_mono HO_4.out (fun k_ hk => ⟨⟨hk.2.1, hk.2.2⟩, fun e_ => hk.1 e_⟩))); obtain ⟨oki18, ce18, hcl18, hM18, hcc18, hfr18, hoki18, hH18⟩ := Kd.S_elem HX18.out z24 (x15_1 : Int) (of_decide_eq_true (by first | (with_reducible assumption) | assumption)) (by have h_ : (x15_1 : Int) < ((x4_1.length : Int) : Int) := of_decide_eq_true (by first | (with_reducible assumption) | assumption); first | exact h_ | (have e_ := (Kd.S_reads' HO_4.out).1; omega) | simpa using h_); obtain ⟨ve18_2, rfl, ge18_2⟩ := k24_openM hM18; have HP18 := Kd.S_seg hH18 (of_decide_eq_true (by first | (with_reducible assumption) | assumption)) (by have h_ : (x15_1 : Int) < ((x4_1.length : Int) : Int) := of_decide_eq_true (by first | (with_reducible assumption) | assumption); first | exact h_ | (have e_ := (Kd.S_reads' HO_4.out).1; omega) | simpa using h_) (seg := [.int .i64 t162, .int .i64 t163, v165]) (j := 0) (show 3 ≤ 3 from by decide) (x' := (⟨t162, t163, t164⟩ : S24)) (k24_mkM _ _ _ (⟨t162, t163, t164⟩ : S24) (Kd.R_mono (Kd.R_tight rfl (Kd.R_mono (ok' := fun k_ => ((fun k_ => k_ ≠ gb156 ∧ k_ ≠ gb161)) k_ ∧ k_ ≠ go12) (Kd.R_types (Kd.R_types (Kd.R_apart' (HO166.out) (Kd.S_typed HO_4.out) (by decide)) BK156.out (by decide)) BK161.out (by decide)) (fun k_ hk => ⟨⟨hk.1.2, hk.2⟩, fun e_ => (hk.1.1.2) (by rw [e_]; rfl)⟩))) (fun _ h_ => Or.inr (h_)))) (fun _ hk => hk) (fun k_ hk_ => ((Kd.R_mono (ok' := fun k_ => ((fun k_ => k_ ≠ gb156 ∧ k_ ≠ gb161)) k_ ∧ k_ ≠ go12) (Kd.R_types (Kd.R_types (Kd.R_apart' (HO166.out) (Kd.S_typed HO_4.out) (by decide)) BK156.out (by decide)) BK161.out (by decide)) (fun k_ hk => ⟨⟨hk.1.2, hk.2⟩, fun e_ => (hk.1.1.2) (by rw [e_]; rfl)⟩))).1 k_ hk_.symm); have hx18_0 := hcc18 0 _ rfl; (try simp only [show (k24).sz = 3 from rfl, Nat.mul_one, Nat.add_zero] at hx18_0); have hf18_0 := hfr18 0; (try simp only [show (k24).sz = 3 from rfl, Nat.mul_one, Nat.add_zero] at hf18_0); have hx18_1 := hcc18 1 _ rfl; (try simp only [show (k24).sz = 3 from rfl, Nat.mul_one, Nat.add_zero] at hx18_1); have hf18_1 := hfr18 1; (try simp only [show (k24).sz = 3 from rfl, Nat.mul_one, Nat.add_zero] at hf18_1); have hx18_2 := hcc18 2 _ rfl; (try simp only [show (k24).sz = 3 from rfl, Nat.mul_one, Nat.add_zero] at hx18_2); have hf18_2 := hfr18 2; (try simp only [show (k24).sz = 3 from rfl, Nat.mul_one, Nat.add_zero] at hf18_2); clear hcl18 hcc18 hfr18 hM18 hoki18 hH18) | ((with_reducible refine gate_store (t := 24) (p := 27) rfl ?_); refine store_event (t := 24) (p := 27) (v := ?vo_w19) (w1 := (((w17.setCell ⟨go12, (x15_1 : Int).toNat * 3, none⟩ (.int .i64 t162)).setCell ⟨go12, (x15_1 : Int).toNat * 3 + 1, none⟩ (.int .i64 t163)).setCell ⟨go12, (x15_1 : Int).toNat * 3 + 2, none⟩ (v165))) ?hg ?ho ?hn ?hr ?_; (case ho => rfl); (case hg => rfl); (case hn => rfl); (case hr => first | (go_simp; done) | (obtain ⟨_, _, eo_⟩ := Kd.R_slice HO166.out; subst eo_; first | (go_simp; done) | (go_simp; rfl)) | (go_simp; rfl)); intro w19 hw; have hg : w17.grownBy w19 (some go12) := (by rw [hw]; exact HP18.2); have hp_ : Kd.S k24 24 w19 w.heap.size (fun k_ => k_ ≠ gb156 ∧ k_ ≠ gb161) (.slice (some ⟨go12, 0, none⟩) x4_1.length co12) y168 := (by rw [hw, Ny168.out]; exact HP18.1); clear HP18; have n0_ := Aside0.mk (hp_); have n1_ := Aside0.mk (blk_grown (tk_ BK156) hg (Kd.S_away HO_4.out (fun _ hk => hk.2.1))); have n2_ := Aside0.mk (blk_grown (tk_ BK161) hg (Kd.S_away HO_4.out (fun _ hk => hk.2.2))); have n3_ := Aside0.mk ((by rw [hw]; exact b_s (b_s (b_s (HB.out) GB12.out) GB12.out) GB12.out : Below w.heap.size w w19)); clear HO_4; clear BK156; clear BK161; clear HB; clear HO166; have HO_4 := n0_; have BK156 := n1_; have BK161 := n2_; have HB := n3_; clear n0_ n1_ n2_ n3_; clear hg hw hp_))
    go_roundg k1
    case measure => have := HK1.out; omega
    case rel => exact ⟨(y168), (wrap64 (x15_1 + 1)), (x157000_1), (x157001_1), (by first | rfl | (simp; done) | (simp [*]; done)), H', ⟨by have := HK1.out; omega⟩, ⟨by (with_reducible repeat (first | apply Kd.S_alloc | apply Kd.S_drewN | apply Kd.S_drew)); exact Kd.S_mono HO_4.out (fun _ hk => hk.1)⟩, ⟨tk_ BK156⟩, ⟨by repeat (first | (with_reducible first | exact HB.out | apply b_a | apply b_n | apply b_d | refine b_s ?_ GE156.out | refine b_s ?_ GE161.out) | exact HB.out)⟩⟩
   rw [if_neg c13] at H
   have c13b0 : (t167 == 0) = false := beq_eq_false_iff_ne.mpr c13
   have c13b1 : (t167 != 0) = true := bne_iff_ne.mpr c13
   simp only [Option.some.injEq, Prod.mk.injEq] at H
   obtain ⟨rfl, rfl, rfl, rfl⟩ := H
   have p160 : 0 ≤ (x15_1 : Int) := of_decide_eq_true (by first | (with_reducible assumption) | assumption)
   have q160 : x15_1 < (l0.length : Int) := of_decide_eq_true (by first | (with_reducible assumption) | assumption)
   obtain ⟨ad160, A160_2, c160_2, e160, hx160_0, hx160_1, hx160_2, hl160_2, hi160_2⟩ := at_T24 HR0.out x15_1 p160 q160
   cases e160
   replace hx160_0 := cb_ HB hx160_0
   replace hx160_1 := cb_ HB hx160_1
   replace hx160_2 := cb_ HB hx160_2
   have HR160_2 := Aside0.mk hi160_2
   have HC160_2 := Aside0.mk hl160_2
   clear hi160_2 hl160_2
   replace p160 := eq_true p160
   replace q160 := eq_true q160
   go_wp2_with (first | ((with_reducible refine gate_dst (N := 6) rfl ?_); refine box_event ?hg (N := 6) ?hd (cs := #[.int .i64 0, .int .i64 0, .slice none 0 0]) (t := 24) ?hr ?_; (case hd => rfl); (case hg => rfl); (case hr => first | (go_simp; done) | (go_simp; rfl)); intro gb161 hg w20 hbox hb; have BK161 := Aside0.mk (hbox); have GW161 := Aside0.mk ((by rw [hg]; exact (below_size (bw_ HB)) : w.heap.size ≤ gb161)); have GE161 := Aside0.mk ((by rw [hg]; exact (below_size (bw_ HB)) : w.heap.size ≤ gb161)); have NB156_161 := Aside0.mk ((by rw [hg]; exact Nat.ne_of_lt (blk_lt (tk_ BK156)) : gb156 ≠ gb161)); have NB161_156 := Aside0.mk ((by rw [hg]; exact Nat.ne_of_gt (blk_lt (tk_ BK156)) : gb161 ≠ gb156)); replace HO_4 := Aside0.mk (Kd.S_below (Kd.S_elderB (tS_ HO_4) gb161 (Nat.le_of_eq hg.symm)) hb); replace BK156 := Aside0.mk (blk_below (tk_ BK156) hb); replace HB := Aside0.mk (below_step (bw_ HB) hb); clear hb hbox hg; have hnb21 := NB161_156.out; have hnc21 := NB156_161.out; have hcz22_0 := bc_0 BK161; have hcz22_1 := bc_1 BK161; have hcz22_2 := bc_2 BK161; have hfz22_0 := blk_frozen BK161.out 0; have hfz22_1 := blk_frozen BK161.out 1; have hfz22_2 := blk_frozen BK161.out 2) | ((with_reducible refine gate_callee (f := 22) rfl ?_); refine goesL_ (some 24) rfl rfl Try.func22 (by kernel_rfl) rfl #[.agg #[.int .i64 ((rd_T24 l0 x15_1).f0), .int .i64 ((rd_T24 l0 x15_1).f1), .slice A160_2 ((rd_T24 l0 x15_1).f2).length c160_2]] rfl (by (try simp only [l_4, l_5, l_6]); first | done | rfl | (simp only [l_7, l_8]; rfl)) ?_; (with_reducible refine (grid_Turn.calls k1 ((rd_T24 l0 x15_1).f0) ((rd_T24 l0 x15_1).f1) _ _ ((rd_T24 l0 x15_1).f2) t162 t163 t164 t167 _ ?side1 ?side2 A10.out).mono ?_); (case side1 => exact Kd.C_below HR160_2.out (bw_ HB)); (case side2 => exact HC160_2.out); rintro e w23 ⟨v165, rfl, ho0, hb⟩; (try clear A10); refine ⟨_, rfl, ?_⟩; have HO166 := Aside0.mk (Kd.R_lower ho0 (below_size (bw_ HB))); replace HO_4 := Aside0.mk (Kd.S_elder' (by (with_reducible repeat (first | apply Kd.S_alloc | apply Kd.S_drewN | apply Kd.S_drew)); exact (Kd.S_mono (Kd.S_far (p := ⟨gb161, 2, none⟩) (Kd.S_far (p := ⟨gb161, 1, none⟩) (Kd.S_far (p := ⟨gb161, 0, none⟩) (Kd.S_mono HO_4.out (fun k_ hk => (⟨hk, hk.2⟩ : _ ∧ k_ ≠ gb161))) (fun _ hk => hk.2) (.int .i64 ((rd_T24 l0 x15_1).f0))) (fun _ hk => hk.2) (.int .i64 ((rd_T24 l0 x15_1).f1))) (fun _ hk => hk.2) (.slice A160_2 ((rd_T24 l0 x15_1).f2).length c160_2)) (fun _ h_ => h_.1))) (Kd.R_base ho0) hb); replace BK156 := Aside0.mk (blk_below (g := gb156) (o := .cells #[.int .i64 x157000_1, .int .i64 x157001_1, .slice none 0 0] 24 (0, 0)) (by (with_reducible repeat (first | refine k_n ?_ _ | refine k_d ?_ | refine k_a ?_ _)); refine blk_far ?_ NB156_161.out _; (with_reducible repeat (first | refine k_n ?_ _ | refine k_d ?_ | refine k_a ?_ _)); refine blk_far ?_ NB156_161.out _; (with_reducible repeat (first | refine k_n ?_ _ | refine k_d ?_ | refine k_a ?_ _)); refine blk_far ?_ NB156_161.out _; (with_reducible repeat (first | refine k_n ?_ _ | refine k_d ?_ | refine k_a ?_ _)); exact BK156.out) hb); replace BK161 := Aside0.mk (blk_below (g := gb161) (o := .cells #[.int .i64 ((rd_T24 l0 x15_1).f0), .int .i64 ((rd_T24 l0 x15_1).f1), .slice A160_2 ((rd_T24 l0 x15_1).f2).length c160_2] 24 (0, 0)) (by (with_reducible repeat (first | refine k_n ?_ _ | refine k_d ?_ | refine k_a ?_ _)); refine blk_put (cs := #[.int .i64 ((rd_T24 l0 x15_1).f0), .int .i64 ((rd_T24 l0 x15_1).f1), .slice none 0 0]) ?_ 2 _ rfl; (with_reducible repeat (first | refine k_n ?_ _ | refine k_d ?_ | refine k_a ?_ _)); refine blk_put (cs := #[.int .i64 ((rd_T24 l0 x15_1).f0), .int .i64 0, .slice none 0 0]) ?_ 1 _ rfl; (with_reducible repeat (first | refine k_n ?_ _ | refine k_d ?_ | refine k_a ?_ _)); refine blk_put (cs := #[.int .i64 0, .int .i64 0, .slice none 0 0]) ?_ 0 _ rfl; (with_reducible repeat (first | refine k_n ?_ _ | refine k_d ?_ | refine k_a ?_ _)); exact BK161.out) hb); replace HB := Aside0.mk (below_step (bw_ HB) hb); (try clear hb); (try clear hb2); (try clear hk); (try clear hi); (try clear ho0); have p12 : 0 ≤ (x15_1 : Int) := of_decide_eq_true (by first | (with_reducible assumption) | assumption); have q12 : (x15_1 : Int) < ((x4_1.length : Int) : Int) := of_decide_eq_true (by first | (with_reducible assumption) | assumption); obtain ⟨go12, co12, eo12, gb12, gl12, cl12, HG12⟩ := Kd.S_form HO_4.out (by omega); (first | cases eo12 | (injection eo12 with ea_ en_ ec_; (first | subst ea_ | (injection ea_ with ea_; subst ea_)); subst ec_; clear en_)); have GB12 := Aside0.mk gb12; have GG12 := Aside0.mk HG12; clear gb12 gl12 HG12; obtain ⟨_, ce12, hcl12, hM12, hcc12, hfr12, _, _⟩ := Kd.S_elem HO_4.out z24 (x15_1 : Int) p12 q12; obtain ⟨ve12_2, rfl, ge12_2⟩ := k24_openM hM12; have hx12_0 : w23.cell? ⟨go12, (x15_1 : Int).toNat * 3, none⟩ = some (.int .i64 ((rd_T24 x4_1 x15_1).f0)) := hcc12 0 _ rfl; have hx12_1 : w23.cell? ⟨go12, (x15_1 : Int).toNat * 3 + 1, none⟩ = some (.int .i64 ((rd_T24 x4_1 x15_1).f1)) := hcc12 1 _ rfl; have hx12_2 : w23.cell? ⟨go12, (x15_1 : Int).toNat * 3 + 2, none⟩ = some (ve12_2) := hcc12 2 _ rfl; have hf12_0 : w23.frozen? ⟨go12, (x15_1 : Int).toNat * 3, none⟩ = false := hfr12 0; have hf12_1 : w23.frozen? ⟨go12, (x15_1 : Int).toNat * 3 + 1, none⟩ = false := hfr12 1; have hf12_2 : w23.frozen? ⟨go12, (x15_1 : Int).toNat * 3 + 2, none⟩ = false := hfr12 2; clear hcl12 hcc12 hfr12 hM12; replace p12 := eq_true p12; replace q12 := eq_true q12; have n_ := Aside0.mk (Kd.S_mono (ok' := (fun k_ => some k_ ≠ (v165 : Value).ownBlock ∧ k_ ≠ gb156 ∧ k_ ≠ gb161)) HO_4.out (fun k_ hk => ⟨hk.2, ⟨hk.1.1, hk.1.2⟩⟩)); clear HO_4; have HO_4 := n_; clear n_; have HX24 := Aside0.mk (show Kd.S k24 24 w23 w.heap.size (fun k_ => ((fun k_ => k_ ≠ gb156 ∧ k_ ≠ gb161)) k_ ∧ ¬ ((fun k_ => some k_ = (v165 : Value).ownBlock)) k_) (.slice (some ⟨go12, 0, none⟩) x4_1.length co12) x4_1 from (by (with_reducible repeat (first | apply Kd.S_alloc | apply Kd.S_drewN | apply Kd.S_drew)); exact Kd.S_mono HO_4.out (fun k_ hk => ⟨⟨hk.2.1, hk.2.2⟩, fun e_ => hk.1 e_⟩))); obtain ⟨oki24, ce24, hcl24, hM24, hcc24, hfr24, hoki24, hH24⟩ := Kd.S_elem HX24.out z24 (x15_1 : Int) (of_decide_eq_true (by first | (with_reducible assumption) | assumption)) (by have h_ : (x15_1 : Int) < ((x4_1.length : Int) : Int) := of_decide_eq_true (by first | (with_reducible assumption) | assumption); first | exact h_ | (have e_ := (Kd.S_reads' HO_4.out).1; omega) | simpa using h_); obtain ⟨ve24_2, rfl, ge24_2⟩ := k24_openM hM24; have HP24 := Kd.S_seg hH24 (of_decide_eq_true (by first | (with_reducible assumption) | assumption)) (by have h_ : (x15_1 : Int) < ((x4_1.length : Int) : Int) := of_decide_eq_true (by first | (with_reducible assumption) | assumption); first | exact h_ | (have e_ := (Kd.S_reads' HO_4.out).1; omega) | simpa using h_) (seg := [.int .i64 t162, .int .i64 t163, v165]) (j := 0) (show 3 ≤ 3 from by decide) (x' := (⟨t162, t163, t164⟩ : S24)) (k24_mkM _ _ _ (⟨t162, t163, t164⟩ : S24) (Kd.R_mono (Kd.R_tight rfl (Kd.R_mono (ok' := fun k_ => ((fun k_ => k_ ≠ gb156 ∧ k_ ≠ gb161)) k_ ∧ k_ ≠ go12) (Kd.R_types (Kd.R_types (Kd.R_apart' (HO166.out) (Kd.S_typed HO_4.out) (by decide)) BK156.out (by decide)) BK161.out (by decide)) (fun k_ hk => ⟨⟨hk.1.2, hk.2⟩, fun e_ => (hk.1.1.2) (by rw [e_]; rfl)⟩))) (fun _ h_ => Or.inr (h_)))) (fun _ hk => hk) (fun k_ hk_ => ((Kd.R_mono (ok' := fun k_ => ((fun k_ => k_ ≠ gb156 ∧ k_ ≠ gb161)) k_ ∧ k_ ≠ go12) (Kd.R_types (Kd.R_types (Kd.R_apart' (HO166.out) (Kd.S_typed HO_4.out) (by decide)) BK156.out (by decide)) BK161.out (by decide)) (fun k_ hk => ⟨⟨hk.1.2, hk.2⟩, fun e_ => (hk.1.1.2) (by rw [e_]; rfl)⟩))).1 k_ hk_.symm); have hx24_0 := hcc24 0 _ rfl; (try simp only [show (k24).sz = 3 from rfl, Nat.mul_one, Nat.add_zero] at hx24_0); have hf24_0 := hfr24 0; (try simp only [show (k24).sz = 3 from rfl, Nat.mul_one, Nat.add_zero] at hf24_0); have hx24_1 := hcc24 1 _ rfl; (try simp only [show (k24).sz = 3 from rfl, Nat.mul_one, Nat.add_zero] at hx24_1); have hf24_1 := hfr24 1; (try simp only [show (k24).sz = 3 from rfl, Nat.mul_one, Nat.add_zero] at hf24_1); have hx24_2 := hcc24 2 _ rfl; (try simp only [show (k24).sz = 3 from rfl, Nat.mul_one, Nat.add_zero] at hx24_2); have hf24_2 := hfr24 2; (try simp only [show (k24).sz = 3 from rfl, Nat.mul_one, Nat.add_zero] at hf24_2); clear hcl24 hcc24 hfr24 hM24 hoki24 hH24) | ((with_reducible refine gate_store (t := 24) (p := 27) rfl ?_); refine store_event (t := 24) (p := 27) (v := ?vo_w25) (w1 := (((w23.setCell ⟨go12, (x15_1 : Int).toNat * 3, none⟩ (.int .i64 t162)).setCell ⟨go12, (x15_1 : Int).toNat * 3 + 1, none⟩ (.int .i64 t163)).setCell ⟨go12, (x15_1 : Int).toNat * 3 + 2, none⟩ (v165))) ?hg ?ho ?hn ?hr ?_; (case ho => rfl); (case hg => rfl); (case hn => rfl); (case hr => first | (go_simp; done) | (obtain ⟨_, _, eo_⟩ := Kd.R_slice HO166.out; subst eo_; first | (go_simp; done) | (go_simp; rfl)) | (go_simp; rfl)); intro w25 hw; have hg : w23.grownBy w25 (some go12) := (by rw [hw]; exact HP24.2); have hp_ : Kd.S k24 24 w25 w.heap.size (fun k_ => k_ ≠ gb156 ∧ k_ ≠ gb161) (.slice (some ⟨go12, 0, none⟩) x4_1.length co12) y168 := (by rw [hw, Ny168.out]; exact HP24.1); clear HP24; have n0_ := Aside0.mk (hp_); have n1_ := Aside0.mk (blk_grown (tk_ BK156) hg (Kd.S_away HO_4.out (fun _ hk => hk.2.1))); have n2_ := Aside0.mk (blk_grown (tk_ BK161) hg (Kd.S_away HO_4.out (fun _ hk => hk.2.2))); have n3_ := Aside0.mk ((by rw [hw]; exact b_s (b_s (b_s (HB.out) GB12.out) GB12.out) GB12.out : Below w.heap.size w w25)); clear HO_4; clear BK156; clear BK161; clear HB; clear HO166; have HO_4 := n0_; have BK156 := n1_; have BK161 := n2_; have HB := n3_; clear n0_ n1_ n2_ n3_; clear hg hw hp_; have hcz26_0 := bc_0 BK156; have hcz26_1 := bc_1 BK156; have hcz26_2 := bc_2 BK156; have hfz26_0 := blk_frozen BK156.out 0; have hfz26_1 := blk_frozen BK156.out 1; have hfz26_2 := blk_frozen BK156.out 2))
   refine bodyPost_ret (results_ct rfl _ _ gb156 24 #[.int .i64 0, .int .i64 0, .slice none 0 0] (0, 0) _ rfl (by (with_reducible repeat (first | refine k_n ?_ _ | refine k_d ?_ | refine k_a ?_ _)); refine blk_put (cs := #[.int .i64 0, .int .i64 0, .slice none 0 0]) ?_ 2 _ rfl; (with_reducible repeat (first | refine k_n ?_ _ | refine k_d ?_ | refine k_a ?_ _)); refine blk_put (cs := #[.int .i64 0, .int .i64 x157001_1, .slice none 0 0]) ?_ 1 _ rfl; (with_reducible repeat (first | refine k_n ?_ _ | refine k_d ?_ | refine k_a ?_ _)); refine blk_put (cs := #[.int .i64 x157000_1, .int .i64 x157001_1, .slice none 0 0]) ?_ 0 _ rfl; (with_reducible repeat (first | refine k_n ?_ _ | refine k_d ?_ | refine k_a ?_ _)); exact BK156.out) Try.underlying24 rfl (by kernel_rfl)) rfl ?_
   exact ⟨_, by first | rfl | (simp [errW_none, errW_some] <;> rfl) | (simp [*, errW_none, errW_some] <;> rfl), by first | exact Kd.R_nil _ _ _ _ _ | exact Kd.N_nil _ _ _ _ _ | exact Kd.V_nil _ _ _ _ _ | exact Kd.Q_nil _ _ _ _ _ | exact Kd.S_nil _ _ _ _ _, by repeat (first | (with_reducible first | exact HB.out | apply b_a | apply b_n | apply b_d | refine b_s ?_ GE156.out | refine b_s ?_ GE161.out) | exact HB.out)⟩
/-! ### pelotonref03_Right: function 15 -/
def pelotonref03_Right.f (a0_0 : Int) (a0_1 : Int) (l0_2 : List Int) : Option (Bool) := if a0_0 ≥ 0 then (if a0_1 ≥ 0 then (if a0_0 ≤ 4096 then (if a0_1 ≤ 4096 then (some ((l0_2.length : Int) == (wrap64 (a0_0 * a0_1)))) else (some false)) else (some false)) else (some false)) else (some false)
set_option maxHeartbeats 60000000 in
set_option maxRecDepth 100000 in
theorem pelotonref03_Right.calls (a0_0 : Int) (a0_1 : Int) (A0_2 : Option Addr) (c0_2 : Nat) (l0_2 : List Int) (r : Bool) (w : World) (hr0_2 : Kd.C (Kd.int .i32) w A0_2 l0_2.length l0_2) (hc0_2 : l0_2.length ≤ c0_2) (h : pelotonref03_Right.f a0_0 a0_1 l0_2 = some r) :
  Calls Try.prog 15 #[.agg #[.int .i64 a0_0, .int .i64 a0_1, .slice A0_2 l0_2.length c0_2]] w fun e w' => e = .returned (.bool r) ∧ Below w.heap.size w w' := by
 have hu24 := Try.underlying24
 have HR0_2 := Aside0.mk hr0_2
 have HC0_2 := Aside0.mk hc0_2
 clear hr0_2 hc0_2
 have HB := Aside0.mk (Below.refl w.heap.size w)
 have H : (if a0_0 ≥ 0 then (if a0_1 ≥ 0 then (if a0_0 ≤ 4096 then (if a0_1 ≤ 4096 then (some ((l0_2.length : Int) == (wrap64 (a0_0 * a0_1)))) else (some false)) else (some false)) else (some false)) else (some false)) = some r := h
 clear h
 by_cases c2 : a0_0 ≥ 0
 rotate_left
 ·
  rw [if_neg c2] at H
  have c2b0 : decide (0 ≤ a0_0) = false := decide_eq_false c2
  clear c2
  obtain rfl := Option.some.inj H
  go_enter Try.func15, Try.ntmps15
  go_wp2_with (first | ((with_reducible refine gate_dst (N := 1) rfl ?_); (try (refine gate_guard (by rfl) ?_; dsimp only)); refine box_event ?hg (N := 1) ?hd (cs := #[.int .i64 a0_0, .int .i64 a0_1, .slice A0_2 l0_2.length c0_2]) (t := 24) ?hr ?_; (case hd => rfl); (case hg => rfl); (case hr => first | (go_simp; done) | (go_simp; rfl)); intro gb182 hg w14 hbox hb; have BK182 := Aside0.mk (hbox); have GW182 := Aside0.mk ((by rw [hg]; exact (below_size (bw_ HB)) : w.heap.size ≤ gb182)); have GE182 := Aside0.mk ((by rw [hg]; exact (below_size (bw_ HB)) : w.heap.size ≤ gb182)); replace HB := Aside0.mk (below_step (bw_ HB) hb); clear hb hbox hg; have hcz15_0 := bc_0 BK182; have hcz15_1 := bc_1 BK182; have hcz15_2 := bc_2 BK182; have hfz15_0 := blk_frozen BK182.out 0; have hfz15_1 := blk_frozen BK182.out 1; have hfz15_2 := blk_frozen BK182.out 2))
  go_ret
  exact ⟨by first | rfl | (simp [errW_none, errW_some] <;> rfl) | (simp [*, errW_none, errW_some] <;> rfl), by repeat (first | (with_reducible first | exact HB.out | apply b_a | apply b_n | apply b_d | refine b_s ?_ GE182.out) | exact HB.out)⟩

 rw [if_pos c2] at H
 have c2b0 : decide (0 ≤ a0_0) = true := decide_eq_true c2
 clear c2
 by_cases c3 : a0_1 ≥ 0
 rotate_left
 ·
  rw [if_neg c3] at H
  have c3b0 : decide (0 ≤ a0_1) = false := decide_eq_false c3
  clear c3
  obtain rfl := Option.some.inj H
  go_enter Try.func15, Try.ntmps15
  go_wp2_with (first | ((with_reducible refine gate_dst (N := 1) rfl ?_); (try (refine gate_guard (by rfl) ?_; dsimp only)); refine box_event ?hg (N := 1) ?hd (cs := #[.int .i64 a0_0, .int .i64 a0_1, .slice A0_2 l0_2.length c0_2]) (t := 24) ?hr ?_; (case hd => rfl); (case hg => rfl); (case hr => first | (go_simp; done) | (go_simp; rfl)); intro gb182 hg w12 hbox hb; have BK182 := Aside0.mk (hbox); have GW182 := Aside0.mk ((by rw [hg]; exact (below_size (bw_ HB)) : w.heap.size ≤ gb182)); have GE182 := Aside0.mk ((by rw [hg]; exact (below_size (bw_ HB)) : w.heap.size ≤ gb182)); replace HB := Aside0.mk (below_step (bw_ HB) hb); clear hb hbox hg; have hcz13_0 := bc_0 BK182; have hcz13_1 := bc_1 BK182; have hcz13_2 := bc_2 BK182; have hfz13_0 := blk_frozen BK182.out 0; have hfz13_1 := blk_frozen BK182.out 1; have hfz13_2 := blk_frozen BK182.out 2))
  go_ret
  exact ⟨by first | rfl | (simp [errW_none, errW_some] <;> rfl) | (simp [*, errW_none, errW_some] <;> rfl), by repeat (first | (with_reducible first | exact HB.out | apply b_a | apply b_n | apply b_d | refine b_s ?_ GE182.out) | exact HB.out)⟩
 rw [if_pos c3] at H
 have c3b0 : decide (0 ≤ a0_1) = true := decide_eq_true c3
 clear c3
 by_cases c4 : a0_0 ≤ 4096
 rotate_left
 ·
  rw [if_neg c4] at H
  have c4b0 : decide (a0_0 ≤ 4096) = false := decide_eq_false c4
  clear c4
  obtain rfl := Option.some.inj H
  go_enter Try.func15, Try.ntmps15
  go_wp2_with (first | ((with_reducible refine gate_dst (N := 1) rfl ?_); (try (refine gate_guard (by rfl) ?_; dsimp only)); refine box_event ?hg (N := 1) ?hd (cs := #[.int .i64 a0_0, .int .i64 a0_1, .slice A0_2 l0_2.length c0_2]) (t := 24) ?hr ?_; (case hd => rfl); (case hg => rfl); (case hr => first | (go_simp; done) | (go_simp; rfl)); intro gb182 hg w10 hbox hb; have BK182 := Aside0.mk (hbox); have GW182 := Aside0.mk ((by rw [hg]; exact (below_size (bw_ HB)) : w.heap.size ≤ gb182)); have GE182 := Aside0.mk ((by rw [hg]; exact (below_size (bw_ HB)) : w.heap.size ≤ gb182)); replace HB := Aside0.mk (below_step (bw_ HB) hb); clear hb hbox hg; have hcz11_0 := bc_0 BK182; have hcz11_1 := bc_1 BK182; have hcz11_2 := bc_2 BK182; have hfz11_0 := blk_frozen BK182.out 0; have hfz11_1 := blk_frozen BK182.out 1; have hfz11_2 := blk_frozen BK182.out 2))
  go_ret
  exact ⟨by first | rfl | (simp [errW_none, errW_some] <;> rfl) | (simp [*, errW_none, errW_some] <;> rfl), by repeat (first | (with_reducible first | exact HB.out | apply b_a | apply b_n | apply b_d | refine b_s ?_ GE182.out) | exact HB.out)⟩
 rw [if_pos c4] at H
 have c4b0 : decide (a0_0 ≤ 4096) = true := decide_eq_true c4
 clear c4
 by_cases c5 : a0_1 ≤ 4096
 ·
  rw [if_pos c5] at H
  have c5b0 : decide (a0_1 ≤ 4096) = true := decide_eq_true c5
  clear c5
  obtain rfl := Option.some.inj H
  go_enter Try.func15, Try.ntmps15
  go_wp2_with (first | ((with_reducible refine gate_dst (N := 1) rfl ?_); (try (refine gate_guard (by rfl) ?_; dsimp only)); refine box_event ?hg (N := 1) ?hd (cs := #[.int .i64 a0_0, .int .i64 a0_1, .slice A0_2 l0_2.length c0_2]) (t := 24) ?hr ?_; (case hd => rfl); (case hg => rfl); (case hr => first | (go_simp; done) | (go_simp; rfl)); intro gb182 hg w6 hbox hb; have BK182 := Aside0.mk (hbox); have GW182 := Aside0.mk ((by rw [hg]; exact (below_size (bw_ HB)) : w.heap.size ≤ gb182)); have GE182 := Aside0.mk ((by rw [hg]; exact (below_size (bw_ HB)) : w.heap.size ≤ gb182)); replace HB := Aside0.mk (below_step (bw_ HB) hb); clear hb hbox hg; have hcz7_0 := bc_0 BK182; have hcz7_1 := bc_1 BK182; have hcz7_2 := bc_2 BK182; have hfz7_0 := blk_frozen BK182.out 0; have hfz7_1 := blk_frozen BK182.out 1; have hfz7_2 := blk_frozen BK182.out 2))
  go_ret
  exact ⟨by first | rfl | (simp [errW_none, errW_some] <;> rfl) | (simp [*, errW_none, errW_some] <;> rfl), by repeat (first | (with_reducible first | exact HB.out | apply b_a | apply b_n | apply b_d | refine b_s ?_ GE182.out) | exact HB.out)⟩
 rw [if_neg c5] at H
 have c5b0 : decide (a0_1 ≤ 4096) = false := decide_eq_false c5
 clear c5
 obtain rfl := Option.some.inj H
 go_enter Try.func15, Try.ntmps15
 go_wp2_with (first | ((with_reducible refine gate_dst (N := 1) rfl ?_); (try (refine gate_guard (by rfl) ?_; dsimp only)); refine box_event ?hg (N := 1) ?hd (cs := #[.int .i64 a0_0, .int .i64 a0_1, .slice A0_2 l0_2.length c0_2]) (t := 24) ?hr ?_; (case hd => rfl); (case hg => rfl); (case hr => first | (go_simp; done) | (go_simp; rfl)); intro gb182 hg w8 hbox hb; have BK182 := Aside0.mk (hbox); have GW182 := Aside0.mk ((by rw [hg]; exact (below_size (bw_ HB)) : w.heap.size ≤ gb182)); have GE182 := Aside0.mk ((by rw [hg]; exact (below_size (bw_ HB)) : w.heap.size ≤ gb182)); replace HB := Aside0.mk (below_step (bw_ HB) hb); clear hb hbox hg; have hcz9_0 := bc_0 BK182; have hcz9_1 := bc_1 BK182; have hcz9_2 := bc_2 BK182; have hfz9_0 := blk_frozen BK182.out 0; have hfz9_1 := blk_frozen BK182.out 1; have hfz9_2 := blk_frozen BK182.out 2))
 go_ret
 exact ⟨by first | rfl | (simp [errW_none, errW_some] <;> rfl) | (simp [*, errW_none, errW_some] <;> rfl), by repeat (first | (with_reducible first | exact HB.out | apply b_a | apply b_n | apply b_d | refine b_s ?_ GE182.out) | exact HB.out)⟩
/-! ### pelotonref03_Fit: function 32 -/
def pelotonref03_Fit.f (a0_0 : Int) (a0_1 : Int) (l0_2 : List Int) : Option (Bool) := (pelotonref03_Right.f a0_0 a0_1 l0_2).bind fun t184 => (if t184 = true then (some (decide ((l0_2.length : Int) ≤ 1048576))) else (some false))
set_option maxHeartbeats 60000000 in
set_option maxRecDepth 100000 in
theorem pelotonref03_Fit.calls (a0_0 : Int) (a0_1 : Int) (A0_2 : Option Addr) (c0_2 : Nat) (l0_2 : List Int) (r : Bool) (w : World) (hr0_2 : Kd.C (Kd.int .i32) w A0_2 l0_2.length l0_2) (hc0_2 : l0_2.length ≤ c0_2) (h : pelotonref03_Fit.f a0_0 a0_1 l0_2 = some r) :
  Calls Try.prog 32 #[.agg #[.int .i64 a0_0, .int .i64 a0_1, .slice A0_2 l0_2.length c0_2]] w fun e w' => e = .returned (.bool r) ∧ Below w.heap.size w w' := by
 have hu24 := Try.underlying24
 have HR0_2 := Aside0.mk hr0_2
 have HC0_2 := Aside0.mk hc0_2
 clear hr0_2 hc0_2
 have HB := Aside0.mk (Below.refl w.heap.size w)
 have H : ((pelotonref03_Right.f a0_0 a0_1 l0_2).bind fun t184 => (if t184 = true then (some (decide ((l0_2.length : Int) ≤ 1048576))) else (some false))) = some r := h
 clear h
 replace H := Option.bind_eq_some_iff.mp H
 obtain ⟨t184, A20, H⟩ := H
 replace H : (if t184 = true then (some (decide ((l0_2.length : Int) ≤ 1048576))) else (some false)) = some r := H
 have A2 := Aside0.mk A20
 clear A20
 by_cases c3 : t184 = true
 rotate_left
 ·
  replace c3 := Bool.eq_false_iff.mpr c3
  subst c3
  have H1 : (some false) = some r := by rw [if_neg (show ¬ (false = true) by decide)] at H; exact H
  clear H
  have H := H1
  clear H1
  obtain rfl := Option.some.inj H
  go_enter Try.func32, Try.ntmps32
  go_wp2_with (first | ((with_reducible refine gate_dst (N := 1) rfl ?_); (try (refine gate_guard (by rfl) ?_; dsimp only)); refine box_event ?hg (N := 1) ?hd (cs := #[.int .i64 a0_0, .int .i64 a0_1, .slice A0_2 l0_2.length c0_2]) (t := 24) ?hr ?_; (case hd => rfl); (case hg => rfl); (case hr => first | (go_simp; done) | (go_simp; rfl)); intro gb183 hg w8 hbox hb; have BK183 := Aside0.mk (hbox); have GW183 := Aside0.mk ((by rw [hg]; exact (below_size (bw_ HB)) : w.heap.size ≤ gb183)); have GE183 := Aside0.mk ((by rw [hg]; exact (below_size (bw_ HB)) : w.heap.size ≤ gb183)); replace HB := Aside0.mk (below_step (bw_ HB) hb); clear hb hbox hg; have hcz9_0 := bc_0 BK183; have hcz9_1 := bc_1 BK183; have hcz9_2 := bc_2 BK183; have hfz9_0 := blk_frozen BK183.out 0; have hfz9_1 := blk_frozen BK183.out 1; have hfz9_2 := blk_frozen BK183.out 2) | ((with_reducible refine gate_callee (f := 15) rfl ?_); refine goesL_ (some 4) rfl rfl Try.func15 (by kernel_rfl) rfl #[.agg #[.int .i64 a0_0, .int .i64 a0_1, .slice A0_2 l0_2.length c0_2]] rfl (by (try simp only [l_4, l_5, l_6]); first | done | rfl | (simp only [l_7, l_8]; rfl)) ?_; (with_reducible refine (pelotonref03_Right.calls a0_0 a0_1 _ _ l0_2 false _ ?side1 ?side2 A2.out).mono ?_); (case side1 => repeat (first | exact (Kd.C_below HR0_2.out HB.out) | (with_reducible refine Kd.C_alloc ?_ _) | (with_reducible refine Kd.C_drewN ?_ _) | (with_reducible refine Kd.C_drew ?_))); (case side2 => exact HC0_2.out); rintro e w10 ⟨rfl, hb⟩; (try clear A2); refine ⟨_, rfl, ?_⟩; replace BK183 := Aside0.mk (blk_below (tk_ BK183) hb); replace HB := Aside0.mk (below_step (bw_ HB) hb); (try clear hb); (try clear hb2); (try clear hk); (try clear hi)))
  go_ret
  exact ⟨by first | rfl | (simp [errW_none, errW_some] <;> rfl) | (simp [*, errW_none, errW_some] <;> rfl), by repeat (first | (with_reducible first | exact HB.out | apply b_a | apply b_n | apply b_d | refine b_s ?_ GE183.out) | exact HB.out)⟩

 subst c3
 have H1 : (some (decide ((l0_2.length : Int) ≤ 1048576))) = some r := by rw [if_pos rfl] at H; exact H
 clear H
 have H := H1
 clear H1
 obtain rfl := Option.some.inj H
 go_enter Try.func32, Try.ntmps32
 go_wp2_with (first | ((with_reducible refine gate_dst (N := 1) rfl ?_); (try (refine gate_guard (by rfl) ?_; dsimp only)); refine box_event ?hg (N := 1) ?hd (cs := #[.int .i64 a0_0, .int .i64 a0_1, .slice A0_2 l0_2.length c0_2]) (t := 24) ?hr ?_; (case hd => rfl); (case hg => rfl); (case hr => first | (go_simp; done) | (go_simp; rfl)); intro gb183 hg w4 hbox hb; have BK183 := Aside0.mk (hbox); have GW183 := Aside0.mk ((by rw [hg]; exact (below_size (bw_ HB)) : w.heap.size ≤ gb183)); have GE183 := Aside0.mk ((by rw [hg]; exact (below_size (bw_ HB)) : w.heap.size ≤ gb183)); replace HB := Aside0.mk (below_step (bw_ HB) hb); clear hb hbox hg; have hcz5_0 := bc_0 BK183; have hcz5_1 := bc_1 BK183; have hcz5_2 := bc_2 BK183; have hfz5_0 := blk_frozen BK183.out 0; have hfz5_1 := blk_frozen BK183.out 1; have hfz5_2 := blk_frozen BK183.out 2) | ((with_reducible refine gate_callee (f := 15) rfl ?_); refine goesL_ (some 4) rfl rfl Try.func15 (by kernel_rfl) rfl #[.agg #[.int .i64 a0_0, .int .i64 a0_1, .slice A0_2 l0_2.length c0_2]] rfl (by (try simp only [l_4, l_5, l_6]); first | done | rfl | (simp only [l_7, l_8]; rfl)) ?_; (with_reducible refine (pelotonref03_Right.calls a0_0 a0_1 _ _ l0_2 true _ ?side1 ?side2 A2.out).mono ?_); (case side1 => repeat (first | exact (Kd.C_below HR0_2.out HB.out) | (with_reducible refine Kd.C_alloc ?_ _) | (with_reducible refine Kd.C_drewN ?_ _) | (with_reducible refine Kd.C_drew ?_))); (case side2 => exact HC0_2.out); rintro e w6 ⟨rfl, hb⟩; (try clear A2); refine ⟨_, rfl, ?_⟩; replace BK183 := Aside0.mk (blk_below (tk_ BK183) hb); replace HB := Aside0.mk (below_step (bw_ HB) hb); (try clear hb); (try clear hb2); (try clear hk); (try clear hi); have hcz7_0 := bc_0 BK183; have hcz7_1 := bc_1 BK183; have hcz7_2 := bc_2 BK183; have hfz7_0 := blk_frozen BK183.out 0; have hfz7_1 := blk_frozen BK183.out 1; have hfz7_2 := blk_frozen BK183.out 2))
 go_ret
 exact ⟨by first | rfl | (simp [errW_none, errW_some] <;> rfl) | (simp [*, errW_none, errW_some] <;> rfl), by repeat (first | (with_reducible first | exact HB.out | apply b_a | apply b_n | apply b_d | refine b_s ?_ GE183.out) | exact HB.out)⟩
end Go.Proofs.Ytggcgacndknlaaa.QGridLays
